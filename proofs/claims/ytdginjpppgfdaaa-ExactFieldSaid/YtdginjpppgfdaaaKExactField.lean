/-
  ExactField: for every input the law returns true. ExactField: sums and products are commutative, associative and distributive.
-/
import Derived.Test.YtdginjpppgfdaaaKd
import Derived.Deep.DeepCutAuto
import Derived.Test.YtdginjpppgfdaaaRows
import Derived.Test.YtdginjpppgfdaaaKc
import Derived.WalkKit
import Derived.ProofKit
import Derived.OpenShut
import Derived.ChangeOld
import Derived.Below
import Derived.SizedLaws
import Derived.Carry
namespace Go.Proofs.Ytdginjpppgfdaaa.Fi
open Go.RowKit Go Go.Proofs.YtdginjpppgfdaaaW.PrintWords Go.Proofs.YtdginjpppgfdaaaW.PrintLast Go.Proofs.YtdginjpppgfdaaaW.PrintMore Go.Proofs.Ytdginjpppgfdaaa.Mn Go.Proofs.Ytdginjpppgfdaaa.Nd Go.Proofs.Ytdginjpppgfdaaa.Ea Go.Proofs.Ytdginjpppgfdaaa.Eb Go.Proofs.Ytdginjpppgfdaaa.Ec Go.Proofs.Ytdginjpppgfdaaa.Ee Go.Proofs.Ytdginjpppgfdaaa.Ra Go.Proofs.Ytdginjpppgfdaaa.Rb Go.Proofs.Ytdginjpppgfdaaa.Rc Go.Proofs.Ytdginjpppgfdaaa.Rd Go.Proofs.Ytdginjpppgfdaaa.Lb Go.Proofs.Ytdginjpppgfdaaa.Lw
set_option linter.unusedVariables false
set_option linter.unusedSimpArgs false

theorem same_of {p q : R3} {a b c a' b' c' : Int} (h : p = q) (hp : p = (a, b, c)) (hq : q = (a', b', c')) : sameB a b c a' b' c' = true := by
  subst h
  rw [hp] at hq
  simp only [Prod.mk.injEq] at hq
  obtain ⟨rfl, rfl, rfl⟩ := hq
  simp [sameB]
theorem same_self (a b c : Int) : sameB a b c a b c = true := by simp [sameB]
set_option maxHeartbeats 32000000 in
set_option maxRecDepth 100000 in
theorem walk (na da nb db nc dc : Int) (w : World) (_ : (Lit.int .i64 na).wf = true) (_ : (Lit.int .i64 da).wf = true) (_ : (Lit.int .i64 nb).wf = true) (_ : (Lit.int .i64 db).wf = true) (_ : (Lit.int .i64 nc).wf = true) (_ : (Lit.int .i64 dc).wf = true) :
    Calls Try.prog 7 #[.agg #[.int .i64 na, .int .i64 da], .agg #[.int .i64 nb, .int .i64 db], .agg #[.int .i64 nc, .int .i64 dc]] w (fun e w' => e = .returned (.bool true) ∧ Below w.heap.size w w') := by
  have hu := Try.underlying25
  rcases h1 : rAdd na da nb db with ⟨N1, D1, E1⟩
  have h2 : rAdd nb db na da = (N1, D1, E1) := (rAdd_comm _ _ _ _).trans h1
  rcases h3 : rAdd nb db nc dc with ⟨N3, D3, E3⟩
  rcases h4 : rAdd N1 D1 nc dc with ⟨N4, D4, E4⟩
  rcases h5 : rAdd na da N3 D3 with ⟨N5, D5, E5⟩
  have s1 : E1 = 0 → E3 = 0 → sameB N4 D4 E4 N5 D5 E5 = true := by
    rintro rfl rfl
    exact same_of (add_assoc3 h1 h3) h4 h5
  rcases p1 : rMul na da nb db with ⟨P1, Q1, F1⟩
  have p2 : rMul nb db na da = (P1, Q1, F1) := (rMul_comm _ _ _ _).trans p1
  rcases p3 : rMul nb db nc dc with ⟨P3, Q3, F3⟩
  rcases p4 : rMul P1 Q1 nc dc with ⟨P4, Q4, F4⟩
  rcases p5 : rMul na da P3 Q3 with ⟨P5, Q5, F5⟩
  have s2 : F1 = 0 → F3 = 0 → sameB P4 Q4 F4 P5 Q5 F5 = true := by
    rintro rfl rfl
    exact same_of (mul_assoc3 p1 p3) p4 p5
  rcases p6 : rMul na da nc dc with ⟨P6, Q6, F6⟩
  rcases l1 : rMul na da N3 D3 with ⟨LN, LD, LE⟩
  rcases l2 : rAdd P1 Q1 P6 Q6 with ⟨RN, RD, RE⟩
  have s3 : E3 = 0 → F1 = 0 → F6 = 0 → sameB LN LD LE RN RD RE = true := by
    rintro rfl rfl rfl
    exact same_of (distrib3 h3 p1 p6) l1 l2
  have HC := Aside0.mk (And.intro (And.intro s1 (And.intro s2 s3)) (And.intro (And.intro (AddT_n h1) (And.intro (AddT_n h2) (And.intro (AddT_n h3) (And.intro (AddT_n h4) (AddT_n h5))))) (And.intro (And.intro (MulT_n p1) (And.intro (MulT_n p2) (And.intro (MulT_n p3) (And.intro (MulT_n p4) (MulT_n p5))))) (And.intro (MulT_n p6) (And.intro (MulT_n l1) (AddT_n l2))))))
  clear s1 s2 s3 h1 h2 h3 h4 h5 p1 p2 p3 p4 p5 p6 l1 l2
  go_enter Try.func7, Try.ntmps7
  go_wp2_with fail
  refine (HC.out.2.1.1 _).mono ?_
  rintro e w1 ⟨rfl, hb⟩
  have HS1 := Aside0.mk (St.call ((((St.start w).box (na) (da) (g := w.heap.size) (by simp)).box (nb) (db) (g := w.heap.size + 1) (by simp)).box (nc) (dc) (g := w.heap.size + 1 + 1) (by simp)) hb)
  clear hb
  obtain ⟨q_b0, q_b1⟩ := HS1.out.get (g := w.heap.size + 1) (n := nb) (d := db) (by simp)
  have q_b2 := HS1.out.lt (g := w.heap.size + 1) (n := nb) (d := db) (by simp)
  obtain ⟨q_a0, q_a1⟩ := HS1.out.get (g := w.heap.size) (n := na) (d := da) (by simp)
  have q_a2 := HS1.out.lt (g := w.heap.size) (n := na) (d := da) (by simp)
  go_wp2_with fail
  refine (HC.out.2.1.2.1 _).mono ?_
  rintro e w2 ⟨rfl, hb⟩
  have HS2 := Aside0.mk (St.call ((HS1.out).box (N1) (D1) (g := w1.heap.size) (by simp)) hb)
  clear hb
  clear q_b0 q_b1 q_b2 q_a0 q_a1 q_a2
  obtain ⟨q_b0, q_b1⟩ := HS2.out.get (g := w.heap.size + 1) (n := nb) (d := db) (by simp)
  have q_b2 := HS2.out.lt (g := w.heap.size + 1) (n := nb) (d := db) (by simp)
  obtain ⟨q_c0, q_c1⟩ := HS2.out.get (g := w.heap.size + 1 + 1) (n := nc) (d := dc) (by simp)
  have q_c2 := HS2.out.lt (g := w.heap.size + 1 + 1) (n := nc) (d := dc) (by simp)
  go_wp2_with fail
  refine (HC.out.2.1.2.2.1 _).mono ?_
  rintro e w3 ⟨rfl, hb⟩
  have HS3 := Aside0.mk (St.call ((HS2.out).box (N1) (D1) (g := w2.heap.size) (by simp)) hb)
  clear hb
  clear q_b0 q_b1 q_b2 q_c0 q_c1 q_c2
  obtain ⟨q_r10, q_r11⟩ := HS3.out.get (g := w1.heap.size) (n := N1) (d := D1) (by simp)
  have q_r12 := HS3.out.lt (g := w1.heap.size) (n := N1) (d := D1) (by simp)
  obtain ⟨q_c0, q_c1⟩ := HS3.out.get (g := w.heap.size + 1 + 1) (n := nc) (d := dc) (by simp)
  have q_c2 := HS3.out.lt (g := w.heap.size + 1 + 1) (n := nc) (d := dc) (by simp)
  go_wp2_with fail
  refine (HC.out.2.1.2.2.2.1 _).mono ?_
  rintro e w4 ⟨rfl, hb⟩
  have HS4 := Aside0.mk (St.call ((HS3.out).box (N3) (D3) (g := w3.heap.size) (by simp)) hb)
  clear hb
  clear q_r10 q_r11 q_r12 q_c0 q_c1 q_c2
  obtain ⟨q_a0, q_a1⟩ := HS4.out.get (g := w.heap.size) (n := na) (d := da) (by simp)
  have q_a2 := HS4.out.lt (g := w.heap.size) (n := na) (d := da) (by simp)
  obtain ⟨q_r30, q_r31⟩ := HS4.out.get (g := w3.heap.size) (n := N3) (d := D3) (by simp)
  have q_r32 := HS4.out.lt (g := w3.heap.size) (n := N3) (d := D3) (by simp)
  go_wp2_with fail
  refine (HC.out.2.1.2.2.2.2 _).mono ?_
  rintro e w5 ⟨rfl, hb⟩
  have HS5 := Aside0.mk (St.call ((HS4.out).box (N4) (D4) (g := w4.heap.size) (by simp)) hb)
  clear hb
  clear q_a0 q_a1 q_a2 q_r30 q_r31 q_r32
  obtain ⟨q_r10, q_r11⟩ := HS5.out.get (g := w1.heap.size) (n := N1) (d := D1) (by simp)
  have q_r12 := HS5.out.lt (g := w1.heap.size) (n := N1) (d := D1) (by simp)
  obtain ⟨q_r20, q_r21⟩ := HS5.out.get (g := w2.heap.size) (n := N1) (d := D1) (by simp)
  have q_r22 := HS5.out.lt (g := w2.heap.size) (n := N1) (d := D1) (by simp)
  go_wp2_with fail
  refine (same_n N1 D1 E1 N1 D1 E1 _).mono ?_
  rintro e w6 ⟨rfl, hb⟩
  have HS6 := Aside0.mk (St.call ((HS5.out).box (N5) (D5) (g := w5.heap.size) (by simp)) hb)
  clear hb
  clear q_r10 q_r11 q_r12 q_r20 q_r21 q_r22
  rw [same_self]
  go_upto_region 8 with fail
  go_cut [87] (fun s w' => s = .bool false ∧ Aside0 (St w w' [(w5.heap.size, N5, D5), (w4.heap.size, N4, D4), (w3.heap.size, N3, D3), (w2.heap.size, N1, D1), (w1.heap.size, N1, D1), (w.heap.size + 1 + 1, nc, dc), (w.heap.size + 1, nb, db), (w.heap.size, na, da)]))
  case first =>
    by_cases c0 : E1 = 0
    ·
      by_cases c1 : E3 = 0
      ·
        have HX := Aside0.mk (HC.out.1.1 c0 c1)
        have b0 : (E1 == 0) = true := by simpa using c0
        have b1 : (E3 == 0) = true := by simpa using c1
        clear c0 c1
        obtain ⟨q_r40, q_r41⟩ := HS6.out.get (g := w4.heap.size) (n := N4) (d := D4) (by simp)
        have q_r42 := HS6.out.lt (g := w4.heap.size) (n := N4) (d := D4) (by simp)
        obtain ⟨q_r50, q_r51⟩ := HS6.out.get (g := w5.heap.size) (n := N5) (d := D5) (by simp)
        have q_r52 := HS6.out.lt (g := w5.heap.size) (n := N5) (d := D5) (by simp)
        go_wp2_with fail
        refine (same_n N4 D4 E4 N5 D5 E5 _).mono ?_
        rintro e w7 ⟨rfl, hb⟩
        have HS7 := Aside0.mk (St.call (HS6.out) hb)
        clear hb
        clear q_r40 q_r41 q_r42 q_r50 q_r51 q_r52
        rw [HX.out]
        go_wp2_with fail
        go_meet
        exact ⟨rfl, HS7⟩
      ·
        have b0 : (E1 == 0) = true := by simpa using c0
        have b1 : (E3 == 0) = false := by simpa using c1
        clear c0 c1
        go_wp2_with fail
        go_meet
        exact ⟨rfl, HS6⟩
    ·
      have b0 : (E1 == 0) = false := by simpa using c0
      clear c0
      go_wp2_with fail
      go_meet
      exact ⟨rfl, HS6⟩
  case rest =>
    obtain ⟨rfl, HA⟩ := hcut
    clear HS6
    obtain ⟨q_a0, q_a1⟩ := HA.out.get (g := w.heap.size) (n := na) (d := da) (by simp)
    have q_a2 := HA.out.lt (g := w.heap.size) (n := na) (d := da) (by simp)
    obtain ⟨q_b0, q_b1⟩ := HA.out.get (g := w.heap.size + 1) (n := nb) (d := db) (by simp)
    have q_b2 := HA.out.lt (g := w.heap.size + 1) (n := nb) (d := db) (by simp)
    go_wp2_with fail
    refine (HC.out.2.2.1.1 _).mono ?_
    rintro e w8 ⟨rfl, hb⟩
    have HS8 := Aside0.mk (St.call (HA.out) hb)
    clear hb
    clear q_a0 q_a1 q_a2 q_b0 q_b1 q_b2
    obtain ⟨q_b0, q_b1⟩ := HS8.out.get (g := w.heap.size + 1) (n := nb) (d := db) (by simp)
    have q_b2 := HS8.out.lt (g := w.heap.size + 1) (n := nb) (d := db) (by simp)
    obtain ⟨q_a0, q_a1⟩ := HS8.out.get (g := w.heap.size) (n := na) (d := da) (by simp)
    have q_a2 := HS8.out.lt (g := w.heap.size) (n := na) (d := da) (by simp)
    go_wp2_with fail
    refine (HC.out.2.2.1.2.1 _).mono ?_
    rintro e w9 ⟨rfl, hb⟩
    have HS9 := Aside0.mk (St.call ((HS8.out).box (P1) (Q1) (g := w8.heap.size) (by simp)) hb)
    clear hb
    clear q_b0 q_b1 q_b2 q_a0 q_a1 q_a2
    obtain ⟨q_b0, q_b1⟩ := HS9.out.get (g := w.heap.size + 1) (n := nb) (d := db) (by simp)
    have q_b2 := HS9.out.lt (g := w.heap.size + 1) (n := nb) (d := db) (by simp)
    obtain ⟨q_c0, q_c1⟩ := HS9.out.get (g := w.heap.size + 1 + 1) (n := nc) (d := dc) (by simp)
    have q_c2 := HS9.out.lt (g := w.heap.size + 1 + 1) (n := nc) (d := dc) (by simp)
    go_wp2_with fail
    refine (HC.out.2.2.1.2.2.1 _).mono ?_
    rintro e w10 ⟨rfl, hb⟩
    have HS10 := Aside0.mk (St.call ((HS9.out).box (P1) (Q1) (g := w9.heap.size) (by simp)) hb)
    clear hb
    clear q_b0 q_b1 q_b2 q_c0 q_c1 q_c2
    obtain ⟨q_m10, q_m11⟩ := HS10.out.get (g := w8.heap.size) (n := P1) (d := Q1) (by simp)
    have q_m12 := HS10.out.lt (g := w8.heap.size) (n := P1) (d := Q1) (by simp)
    obtain ⟨q_c0, q_c1⟩ := HS10.out.get (g := w.heap.size + 1 + 1) (n := nc) (d := dc) (by simp)
    have q_c2 := HS10.out.lt (g := w.heap.size + 1 + 1) (n := nc) (d := dc) (by simp)
    go_wp2_with fail
    refine (HC.out.2.2.1.2.2.2.1 _).mono ?_
    rintro e w11 ⟨rfl, hb⟩
    have HS11 := Aside0.mk (St.call ((HS10.out).box (P3) (Q3) (g := w10.heap.size) (by simp)) hb)
    clear hb
    clear q_m10 q_m11 q_m12 q_c0 q_c1 q_c2
    obtain ⟨q_a0, q_a1⟩ := HS11.out.get (g := w.heap.size) (n := na) (d := da) (by simp)
    have q_a2 := HS11.out.lt (g := w.heap.size) (n := na) (d := da) (by simp)
    obtain ⟨q_m30, q_m31⟩ := HS11.out.get (g := w10.heap.size) (n := P3) (d := Q3) (by simp)
    have q_m32 := HS11.out.lt (g := w10.heap.size) (n := P3) (d := Q3) (by simp)
    go_wp2_with fail
    refine (HC.out.2.2.1.2.2.2.2 _).mono ?_
    rintro e w12 ⟨rfl, hb⟩
    have HS12 := Aside0.mk (St.call ((HS11.out).box (P4) (Q4) (g := w11.heap.size) (by simp)) hb)
    clear hb
    clear q_a0 q_a1 q_a2 q_m30 q_m31 q_m32
    obtain ⟨q_m10, q_m11⟩ := HS12.out.get (g := w8.heap.size) (n := P1) (d := Q1) (by simp)
    have q_m12 := HS12.out.lt (g := w8.heap.size) (n := P1) (d := Q1) (by simp)
    obtain ⟨q_m20, q_m21⟩ := HS12.out.get (g := w9.heap.size) (n := P1) (d := Q1) (by simp)
    have q_m22 := HS12.out.lt (g := w9.heap.size) (n := P1) (d := Q1) (by simp)
    go_wp2_with fail
    refine (same_n P1 Q1 F1 P1 Q1 F1 _).mono ?_
    rintro e w13 ⟨rfl, hb⟩
    have HS13 := Aside0.mk (St.call ((HS12.out).box (P5) (Q5) (g := w12.heap.size) (by simp)) hb)
    clear hb
    clear q_m10 q_m11 q_m12 q_m20 q_m21 q_m22
    rw [same_self]
    go_upto_region 17 with fail
    go_cut [142] (fun s w' => s = .bool false ∧ Aside0 (St w w' [(w12.heap.size, P5, Q5), (w11.heap.size, P4, Q4), (w10.heap.size, P3, Q3), (w9.heap.size, P1, Q1), (w8.heap.size, P1, Q1), (w5.heap.size, N5, D5), (w4.heap.size, N4, D4), (w3.heap.size, N3, D3), (w2.heap.size, N1, D1), (w1.heap.size, N1, D1), (w.heap.size + 1 + 1, nc, dc), (w.heap.size + 1, nb, db), (w.heap.size, na, da)]))
    case first =>
      by_cases c0 : F1 = 0
      ·
        by_cases c1 : F3 = 0
        ·
          have HX := Aside0.mk (HC.out.1.2.1 c0 c1)
          have b0 : (F1 == 0) = true := by simpa using c0
          have b1 : (F3 == 0) = true := by simpa using c1
          clear c0 c1
          obtain ⟨q_m40, q_m41⟩ := HS13.out.get (g := w11.heap.size) (n := P4) (d := Q4) (by simp)
          have q_m42 := HS13.out.lt (g := w11.heap.size) (n := P4) (d := Q4) (by simp)
          obtain ⟨q_m50, q_m51⟩ := HS13.out.get (g := w12.heap.size) (n := P5) (d := Q5) (by simp)
          have q_m52 := HS13.out.lt (g := w12.heap.size) (n := P5) (d := Q5) (by simp)
          go_wp2_with fail
          refine (same_n P4 Q4 F4 P5 Q5 F5 _).mono ?_
          rintro e w14 ⟨rfl, hb⟩
          have HS14 := Aside0.mk (St.call (HS13.out) hb)
          clear hb
          clear q_m40 q_m41 q_m42 q_m50 q_m51 q_m52
          rw [HX.out]
          go_wp2_with fail
          go_meet
          exact ⟨rfl, HS14⟩
        ·
          have b0 : (F1 == 0) = true := by simpa using c0
          have b1 : (F3 == 0) = false := by simpa using c1
          clear c0 c1
          go_wp2_with fail
          go_meet
          exact ⟨rfl, HS13⟩
      ·
        have b0 : (F1 == 0) = false := by simpa using c0
        clear c0
        go_wp2_with fail
        go_meet
        exact ⟨rfl, HS13⟩
    case rest =>
      obtain ⟨rfl, HM⟩ := hcut
      clear HS13
      obtain ⟨q_a0, q_a1⟩ := HM.out.get (g := w.heap.size) (n := na) (d := da) (by simp)
      have q_a2 := HM.out.lt (g := w.heap.size) (n := na) (d := da) (by simp)
      obtain ⟨q_c0, q_c1⟩ := HM.out.get (g := w.heap.size + 1 + 1) (n := nc) (d := dc) (by simp)
      have q_c2 := HM.out.lt (g := w.heap.size + 1 + 1) (n := nc) (d := dc) (by simp)
      go_wp2_with fail
      refine (HC.out.2.2.2.1 _).mono ?_
      rintro e w15 ⟨rfl, hb⟩
      have HS15 := Aside0.mk (St.call (HM.out) hb)
      clear hb
      clear q_a0 q_a1 q_a2 q_c0 q_c1 q_c2
      obtain ⟨q_a0, q_a1⟩ := HS15.out.get (g := w.heap.size) (n := na) (d := da) (by simp)
      have q_a2 := HS15.out.lt (g := w.heap.size) (n := na) (d := da) (by simp)
      obtain ⟨q_r30, q_r31⟩ := HS15.out.get (g := w3.heap.size) (n := N3) (d := D3) (by simp)
      have q_r32 := HS15.out.lt (g := w3.heap.size) (n := N3) (d := D3) (by simp)
      go_wp2_with fail
      refine (HC.out.2.2.2.2.1 _).mono ?_
      rintro e w16 ⟨rfl, hb⟩
      have HS16 := Aside0.mk (St.call ((HS15.out).box (P6) (Q6) (g := w15.heap.size) (by simp)) hb)
      clear hb
      clear q_a0 q_a1 q_a2 q_r30 q_r31 q_r32
      obtain ⟨q_m10, q_m11⟩ := HS16.out.get (g := w8.heap.size) (n := P1) (d := Q1) (by simp)
      have q_m12 := HS16.out.lt (g := w8.heap.size) (n := P1) (d := Q1) (by simp)
      obtain ⟨q_m60, q_m61⟩ := HS16.out.get (g := w15.heap.size) (n := P6) (d := Q6) (by simp)
      have q_m62 := HS16.out.lt (g := w15.heap.size) (n := P6) (d := Q6) (by simp)
      go_wp2_with fail
      refine (HC.out.2.2.2.2.2 _).mono ?_
      rintro e w17 ⟨rfl, hb⟩
      have HS17 := Aside0.mk (St.call ((HS16.out).box (LN) (LD) (g := w16.heap.size) (by simp)) hb)
      clear hb
      clear q_m10 q_m11 q_m12 q_m60 q_m61 q_m62
      have HT := Aside0.mk ((HS17.out).box (RN) (RD) (g := w17.heap.size) (by simp))
      go_upto_region 22 with fail
      go_cut [178] (fun s w' => s = .bool false ∧ Aside0 (St w w' [(w17.heap.size, RN, RD), (w16.heap.size, LN, LD), (w15.heap.size, P6, Q6), (w12.heap.size, P5, Q5), (w11.heap.size, P4, Q4), (w10.heap.size, P3, Q3), (w9.heap.size, P1, Q1), (w8.heap.size, P1, Q1), (w5.heap.size, N5, D5), (w4.heap.size, N4, D4), (w3.heap.size, N3, D3), (w2.heap.size, N1, D1), (w1.heap.size, N1, D1), (w.heap.size + 1 + 1, nc, dc), (w.heap.size + 1, nb, db), (w.heap.size, na, da)]))
      case first =>
        by_cases c0 : E3 = 0
        ·
          by_cases c1 : F1 = 0
          ·
            by_cases c2 : F6 = 0
            ·
              have HX := Aside0.mk (HC.out.1.2.2 c0 c1 c2)
              have b0 : (E3 == 0) = true := by simpa using c0
              have b1 : (F1 == 0) = true := by simpa using c1
              have b2 : (F6 == 0) = true := by simpa using c2
              clear c0 c1 c2
              obtain ⟨q_l0, q_l1⟩ := HT.out.get (g := w16.heap.size) (n := LN) (d := LD) (by simp)
              have q_l2 := HT.out.lt (g := w16.heap.size) (n := LN) (d := LD) (by simp)
              obtain ⟨q_r0, q_r1⟩ := HT.out.get (g := w17.heap.size) (n := RN) (d := RD) (by simp)
              have q_r2 := HT.out.lt (g := w17.heap.size) (n := RN) (d := RD) (by simp)
              go_wp2_with fail
              refine (same_n LN LD LE RN RD RE _).mono ?_
              rintro e w18 ⟨rfl, hb⟩
              have HS18 := Aside0.mk (St.call (HT.out) hb)
              clear hb
              clear q_l0 q_l1 q_l2 q_r0 q_r1 q_r2
              rw [HX.out]
              go_wp2_with fail
              go_meet
              exact ⟨rfl, HS18⟩
            ·
              have b0 : (E3 == 0) = true := by simpa using c0
              have b1 : (F1 == 0) = true := by simpa using c1
              have b2 : (F6 == 0) = false := by simpa using c2
              clear c0 c1 c2
              go_wp2_with fail
              go_meet
              exact ⟨rfl, HT⟩
          ·
            have b0 : (E3 == 0) = true := by simpa using c0
            have b1 : (F1 == 0) = false := by simpa using c1
            clear c0 c1
            go_wp2_with fail
            go_meet
            exact ⟨rfl, HT⟩
        ·
          have b0 : (E3 == 0) = false := by simpa using c0
          clear c0
          go_wp2_with fail
          go_meet
          exact ⟨rfl, HT⟩
      case rest =>
        obtain ⟨rfl, HZ⟩ := hcut
        skip
        go_wp2_with fail
        refine (awake_n _).mono ?_
        rintro e wz ⟨rfl, hb⟩
        go_wp2_with fail
        go_ret
        exact ⟨rfl, (St.call (HZ.out) hb).b⟩
end Go.Proofs.Ytdginjpppgfdaaa.Fi

namespace Go.Proofs.Ytdginjpppgfdaaa.exactFieldRow
open Go.ChangeShapes Go.WideShapes Go.ChangeAt Go.RowKit Go.Proofs.Ytdginjpppgfdaaa.O5
set_option linter.unusedVariables false
set_option maxRecDepth 100000 in
theorem lifted (os : Os) (started : os.Started) (H : Type) (enc : TypeId × Value → H) :
    ReturnsInHanded {} Try.checked os 7 .any (Rows.exactFieldSpec.pre6 enc Try.prog Try.f7 Rows.exactFieldRow.domain false) (Rows.exactFieldSpec.post enc Try.prog Try.f7 false true false false) := by
  refine returnsInHanded_of_change_sized (C := Try.checked) own started (by kernel_rfl) Try.func7
    (ChangeSpec.witness6 (enc := enc) (C := Try.checked) false ⟨#[], #[.agg #[.int .i64 0, .int .i64 0], .agg #[.int .i64 0, .int .i64 0], .agg #[.int .i64 0, .int .i64 0]], []⟩ 8 (by kernel_rfl) (by kernel_rfl) (by kernel_rfl) (by kernel_rfl)) ?_
  intro W base args ds gs before hval0 hW hcnd hsz0 _
  have hval : ∀ (j : Nat) t v, Try.f7.params[j]? = some t → args[j]? = some v → Value.okWide Try.prog W .any base t v := hval0
  have hW' := hW
  obtain ⟨p, q, hA0, hV, rfl, hfz, hnd⟩ := hW
  have hA : DataW.TrodAll enc Try.prog W 0 (fun _ => true) true Try.f7.params.toList args.toList ds p := hA0
  rw [Try.params7] at hA hval
  obtain ⟨v0, vs0, d0, ds0, p0, q0, hargs, rfl, rfl, h0, r0⟩ := trodAll_cons hA
  obtain ⟨v1, vs1, d1, ds1, p1, q1, rfl, rfl, rfl, h1, r1⟩ := trodAll_cons r0
  obtain ⟨v2, vs2, d2, ds2, p2, q2, rfl, rfl, rfl, h2, r2⟩ := trodAll_cons r1
  obtain ⟨rfl, rfl, rfl⟩ := trodAll_nil r2
  obtain rfl : args = #[v0, v1, v2] := by cases args; simp_all
  obtain ⟨rfl, rfl⟩ := trodVars_none hV
  have k0 := h0
  have lt0 : ∀ x ∈ p0, x.block < W.heap.size := by obtain ⟨m, hm⟩ := k0; exact DataW.trod_lt m _ _ _ hm
  obtain ⟨a0_0, a0_1, rfl, w0_0, w0_1⟩ := open_time (hval 0 25 v0 rfl rfl) h0
  have k1 := h1
  have lt1 : ∀ x ∈ p1, x.block < W.heap.size := by obtain ⟨m, hm⟩ := k1; exact DataW.trod_lt m _ _ _ hm
  obtain ⟨a1_0, a1_1, rfl, w1_0, w1_1⟩ := open_time (hval 1 25 v1 rfl rfl) h1
  have k2 := h2
  have lt2 : ∀ x ∈ p2, x.block < W.heap.size := by obtain ⟨m, hm⟩ := k2; exact DataW.trod_lt m _ _ _ hm
  obtain ⟨a2_0, a2_1, rfl, w2_0, w2_1⟩ := open_time (hval 2 25 v2 rfl rfl) h2
  clear hA0 hval0 hsz0
  refine (Fi.walk a0_0 a0_1 a1_0 a1_1 a2_0 a2_1 W w0_0 w0_1 w1_0 w1_1 w2_0 w2_1).mono fun e W' ⟨he, bel⟩ => ?_
  subst he
  exact ⟨_, rfl, _, _, _, [], _, [], hW', trodAll_mk1 (shut_bool Try.underlying4 _), (trodAll_cons_mk (Below.trod laidOut (by kernel_rfl) (of_decide_eq_true (by kernel_rfl)) k0 bel lt0) (trodAll_cons_mk (Below.trod laidOut (by kernel_rfl) (of_decide_eq_true (by kernel_rfl)) k1 bel lt1) (trodAll_cons_mk (Below.trod laidOut (by kernel_rfl) (of_decide_eq_true (by kernel_rfl)) k2 bel lt2) trodAll_mk0))), rfl, bel.frame _, fun h => by cases h⟩
theorem over : Rows.exactFieldRow.holds Try.pinned (OpenSpec.ofChange Rows.exactFieldSpec) :=
  OpenClaim.holds_of_wide 7 Try.f7 rfl rfl rfl rfl rfl rfl rfl ⟨rfl, rfl, rfl, rfl, rfl⟩ rfl rfl rfl rfl rfl (by kernel_rfl) Try.func7 (by kernel_rfl)
    (of_decide_eq_true (by kernel_rfl)) (by unfold Func.isWrapper; first | (rw [if_pos (by decide +kernel)]; kernel_rfl) | (rw [if_neg (by decide +kernel)]; exact ⟨rfl, rfl⟩))
    (fun os started H enc _ => lifted os started H enc)
end Go.Proofs.Ytdginjpppgfdaaa.exactFieldRow
namespace Go.Proofs.Ytdginjpppgfdaaa
/-- The row, under a short name, for the claim. -/
theorem exactField_holds : Rows.ExactFieldSaid := exactFieldRow.over
#print axioms exactField_holds
end Go.Proofs.Ytdginjpppgfdaaa

/-
  ExactMultiplies: for every input the law returns true. ExactMultiplies: the product and the quotient of any two times are the reference's.
-/
import Derived.Test.YtdginjpppgfdaaaKf
import Derived.Test.YtdginjpppgfdaaaRows
import Derived.Test.YtdginjpppgfdaaaKc
import Derived.WalkKit
import Derived.ProofKit
import Derived.OpenShut
import Derived.ChangeOld
import Derived.Below
import Derived.SizedLaws
import Derived.Carry
namespace Go.Proofs.Ytdginjpppgfdaaa.Mu
open Go.RowKit Go Go.Proofs.YtdginjpppgfdaaaW.PrintWords Go.Proofs.YtdginjpppgfdaaaW.PrintLast Go.Proofs.YtdginjpppgfdaaaW.PrintMore Go.Proofs.Ytdginjpppgfdaaa.Mn Go.Proofs.Ytdginjpppgfdaaa.Nd Go.Proofs.Ytdginjpppgfdaaa.Ea Go.Proofs.Ytdginjpppgfdaaa.Eb Go.Proofs.Ytdginjpppgfdaaa.Ec Go.Proofs.Ytdginjpppgfdaaa.Ee Go.Proofs.Ytdginjpppgfdaaa.Ra Go.Proofs.Ytdginjpppgfdaaa.Rb Go.Proofs.Ytdginjpppgfdaaa.Rc Go.Proofs.Ytdginjpppgfdaaa.Rd Go.Proofs.Ytdginjpppgfdaaa.Lb Go.Proofs.Ytdginjpppgfdaaa.Lw Go.Proofs.Ytdginjpppgfdaaa.Fe
set_option linter.unusedVariables false
set_option linter.unusedSimpArgs false

set_option maxHeartbeats 32000000 in
set_option maxRecDepth 100000 in
theorem walk (na da nb db : Int) (w : World) (_ : (Lit.int .i64 na).wf = true) (_ : (Lit.int .i64 da).wf = true) (_ : (Lit.int .i64 nb).wf = true) (_ : (Lit.int .i64 db).wf = true) :
    Calls Try.prog 9 #[.agg #[.int .i64 na, .int .i64 da], .agg #[.int .i64 nb, .int .i64 db]] w (fun e w' => e = .returned (.bool true) ∧ Below w.heap.size w w') := by
  have hu := Try.underlying25
  rcases h1 : rMul na da nb db with ⟨N1, D1, E1⟩
  rcases h2 : rDiv na da nb db with ⟨N2, D2, E2⟩
  have HC := Aside0.mk (And.intro (And.intro (MulT_n h1) (FMulT_n h1)) (And.intro (DivT_n h2) (FDivT_n h2)))
  clear h1 h2
  go_enter Try.func9, Try.ntmps9
  go_wp2_with fail
  refine (HC.out.1.1 _).mono ?_
  rintro e w1 ⟨rfl, hb⟩
  have HS1 := Aside0.mk (St.call (((St.start w).box (na) (da) (g := w.heap.size) (by simp)).box (nb) (db) (g := w.heap.size + 1) (by simp)) hb)
  clear hb
  obtain ⟨q_a0, q_a1⟩ := HS1.out.get (g := w.heap.size) (n := na) (d := da) (by simp)
  have q_a2 := HS1.out.lt (g := w.heap.size) (n := na) (d := da) (by simp)
  obtain ⟨q_b0, q_b1⟩ := HS1.out.get (g := w.heap.size + 1) (n := nb) (d := db) (by simp)
  have q_b2 := HS1.out.lt (g := w.heap.size + 1) (n := nb) (d := db) (by simp)
  go_wp2_with fail
  refine (HC.out.1.2 _).mono ?_
  rintro e w2 ⟨rfl, hb⟩
  have HS2 := Aside0.mk (St.call ((HS1.out).box (N1) (D1) (g := w1.heap.size) (by simp)) hb)
  clear hb
  clear q_a0 q_a1 q_a2 q_b0 q_b1 q_b2
  obtain ⟨q_a0, q_a1⟩ := HS2.out.get (g := w.heap.size) (n := na) (d := da) (by simp)
  have q_a2 := HS2.out.lt (g := w.heap.size) (n := na) (d := da) (by simp)
  obtain ⟨q_b0, q_b1⟩ := HS2.out.get (g := w.heap.size + 1) (n := nb) (d := db) (by simp)
  have q_b2 := HS2.out.lt (g := w.heap.size + 1) (n := nb) (d := db) (by simp)
  go_wp2_with fail
  refine (HC.out.2.1 _).mono ?_
  rintro e w3 ⟨rfl, hb⟩
  have HS3 := Aside0.mk (St.call ((HS2.out).box (N1) (D1) (g := w2.heap.size) (by simp)) hb)
  clear hb
  clear q_a0 q_a1 q_a2 q_b0 q_b1 q_b2
  obtain ⟨q_a0, q_a1⟩ := HS3.out.get (g := w.heap.size) (n := na) (d := da) (by simp)
  have q_a2 := HS3.out.lt (g := w.heap.size) (n := na) (d := da) (by simp)
  obtain ⟨q_b0, q_b1⟩ := HS3.out.get (g := w.heap.size + 1) (n := nb) (d := db) (by simp)
  have q_b2 := HS3.out.lt (g := w.heap.size + 1) (n := nb) (d := db) (by simp)
  go_wp2_with fail
  refine (HC.out.2.2 _).mono ?_
  rintro e w4 ⟨rfl, hb⟩
  have HS4 := Aside0.mk (St.call ((HS3.out).box (N2) (D2) (g := w3.heap.size) (by simp)) hb)
  clear hb
  clear q_a0 q_a1 q_a2 q_b0 q_b1 q_b2
  obtain ⟨q_r10, q_r11⟩ := HS4.out.get (g := w1.heap.size) (n := N1) (d := D1) (by simp)
  have q_r12 := HS4.out.lt (g := w1.heap.size) (n := N1) (d := D1) (by simp)
  obtain ⟨q_r20, q_r21⟩ := HS4.out.get (g := w2.heap.size) (n := N1) (d := D1) (by simp)
  have q_r22 := HS4.out.lt (g := w2.heap.size) (n := N1) (d := D1) (by simp)
  obtain ⟨q_r30, q_r31⟩ := HS4.out.get (g := w3.heap.size) (n := N2) (d := D2) (by simp)
  have q_r32 := HS4.out.lt (g := w3.heap.size) (n := N2) (d := D2) (by simp)
  go_wp2_with fail
  refine (awake_n _).mono ?_
  rintro e wz ⟨rfl, hb⟩
  go_wp2_with fail
  go_ret
  exact ⟨rfl, (St.call ((HS4.out).box (N2) (D2) (g := w4.heap.size) (by simp)) hb).b⟩
end Go.Proofs.Ytdginjpppgfdaaa.Mu

namespace Go.Proofs.Ytdginjpppgfdaaa.exactMultipliesRow
open Go.ChangeShapes Go.WideShapes Go.ChangeAt Go.RowKit Go.Proofs.Ytdginjpppgfdaaa.O5
set_option linter.unusedVariables false
set_option maxRecDepth 100000 in
theorem lifted (os : Os) (started : os.Started) (H : Type) (enc : TypeId × Value → H) :
    ReturnsInHanded {} Try.checked os 9 .any (Rows.exactMultipliesSpec.pre6 enc Try.prog Try.f9 Rows.exactMultipliesRow.domain false) (Rows.exactMultipliesSpec.post enc Try.prog Try.f9 false true false false) := by
  refine returnsInHanded_of_change_sized (C := Try.checked) own started (by kernel_rfl) Try.func9
    (ChangeSpec.witness6 (enc := enc) (C := Try.checked) false ⟨#[], #[.agg #[.int .i64 0, .int .i64 0], .agg #[.int .i64 0, .int .i64 0]], []⟩ 8 (by kernel_rfl) (by kernel_rfl) (by kernel_rfl) (by kernel_rfl)) ?_
  intro W base args ds gs before hval0 hW hcnd hsz0 _
  have hval : ∀ (j : Nat) t v, Try.f9.params[j]? = some t → args[j]? = some v → Value.okWide Try.prog W .any base t v := hval0
  have hW' := hW
  obtain ⟨p, q, hA0, hV, rfl, hfz, hnd⟩ := hW
  have hA : DataW.TrodAll enc Try.prog W 0 (fun _ => true) true Try.f9.params.toList args.toList ds p := hA0
  rw [Try.params9] at hA hval
  obtain ⟨v0, vs0, d0, ds0, p0, q0, hargs, rfl, rfl, h0, r0⟩ := trodAll_cons hA
  obtain ⟨v1, vs1, d1, ds1, p1, q1, rfl, rfl, rfl, h1, r1⟩ := trodAll_cons r0
  obtain ⟨rfl, rfl, rfl⟩ := trodAll_nil r1
  obtain rfl : args = #[v0, v1] := by cases args; simp_all
  obtain ⟨rfl, rfl⟩ := trodVars_none hV
  have k0 := h0
  have lt0 : ∀ x ∈ p0, x.block < W.heap.size := by obtain ⟨m, hm⟩ := k0; exact DataW.trod_lt m _ _ _ hm
  obtain ⟨a0_0, a0_1, rfl, w0_0, w0_1⟩ := open_time (hval 0 25 v0 rfl rfl) h0
  have k1 := h1
  have lt1 : ∀ x ∈ p1, x.block < W.heap.size := by obtain ⟨m, hm⟩ := k1; exact DataW.trod_lt m _ _ _ hm
  obtain ⟨a1_0, a1_1, rfl, w1_0, w1_1⟩ := open_time (hval 1 25 v1 rfl rfl) h1
  clear hA0 hval0 hsz0
  refine (Mu.walk a0_0 a0_1 a1_0 a1_1 W w0_0 w0_1 w1_0 w1_1).mono fun e W' ⟨he, bel⟩ => ?_
  subst he
  exact ⟨_, rfl, _, _, _, [], _, [], hW', trodAll_mk1 (shut_bool Try.underlying4 _), (trodAll_cons_mk (Below.trod laidOut (by kernel_rfl) (of_decide_eq_true (by kernel_rfl)) k0 bel lt0) (trodAll_cons_mk (Below.trod laidOut (by kernel_rfl) (of_decide_eq_true (by kernel_rfl)) k1 bel lt1) trodAll_mk0)), rfl, bel.frame _, fun h => by cases h⟩
theorem over : Rows.exactMultipliesRow.holds Try.pinned (OpenSpec.ofChange Rows.exactMultipliesSpec) :=
  OpenClaim.holds_of_wide 9 Try.f9 rfl rfl rfl rfl rfl rfl rfl ⟨rfl, rfl, rfl, rfl, rfl⟩ rfl rfl rfl rfl rfl (by kernel_rfl) Try.func9 (by kernel_rfl)
    (of_decide_eq_true (by kernel_rfl)) (by unfold Func.isWrapper; first | (rw [if_pos (by decide +kernel)]; kernel_rfl) | (rw [if_neg (by decide +kernel)]; exact ⟨rfl, rfl⟩))
    (fun os started H enc _ => lifted os started H enc)
end Go.Proofs.Ytdginjpppgfdaaa.exactMultipliesRow
namespace Go.Proofs.Ytdginjpppgfdaaa
/-- The row, under a short name, for the claim. -/
theorem exactMultiplies_holds : Rows.ExactMultipliesSaid := exactMultipliesRow.over
#print axioms exactMultiplies_holds
end Go.Proofs.Ytdginjpppgfdaaa

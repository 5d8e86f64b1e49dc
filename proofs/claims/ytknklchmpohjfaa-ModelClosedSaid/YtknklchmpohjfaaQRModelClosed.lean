/-
  ModelClosed: what the members of a sample's needs need is among them, and a sample that can begin is its own start. ModelClosed: what the members of a sample's needs need is among them, and a sample that can begin is its own start.
-/
import Derived.Test.YtknklchmpohjfaaRows
import Derived.Test.YtknklchmpohjfaaQRModelClosedd
import Derived.Test.YtknklchmpohjfaaQRModelClosedg
import Derived.WalkKit
import Derived.ProofKit
import Derived.OpenShut
import Derived.ChangeOld
import Derived.Below
import Derived.SizedLaws
import Derived.Carry
namespace Go.Proofs.Ytknklchmpohjfaa.modelClosedRow
open Go.ChangeShapes Go.WideShapes Go.ChangeAt Go.RowKit Go.Proofs.Ytknklchmpohjfaa.Ho
set_option linter.unusedVariables false
set_option maxRecDepth 100000 in
theorem lifted (os : Os) (started : os.Started) (H : Type) (enc : TypeId × Value → H) :
  ReturnsInHanded {} Try.checked os 5 .any (Rows.modelClosedSpec.pre6 enc Try.prog Try.f5 Rows.modelClosedRow.domain false) (Rows.modelClosedSpec.post enc Try.prog Try.f5 false true false false) := by
 refine returnsInHanded_of_change_sized (C := Try.checked) own started (by kernel_rfl) Try.func5
  (ChangeSpec.witness6 (enc := enc) (C := Try.checked) false ⟨#[], #[.agg #[.int .i64 0, .int .i64 0, .string ⟨#[]⟩, .int .i64 0, .slice none 0 0, .string ⟨#[]⟩, .string ⟨#[]⟩, .int .i64 0, .slice none 0 0, .slice none 0 0, .slice none 0 0]], []⟩ 8 (by kernel_rfl) (by kernel_rfl) (by kernel_rfl) (by kernel_rfl)) ?_
 intro W base args ds gs before hval0 hW hcnd hsz0 _
 have hval : ∀ (j : Nat) t v, Try.f5.params[j]? = some t → args[j]? = some v → Value.okWide Try.prog W .any base t v := hval0
 have hW' := hW
 obtain ⟨p, q, hA0, hV, rfl, hfz, hnd⟩ := hW
 have hA : DataW.TrodAll enc Try.prog W 0 (fun _ => true) true Try.f5.params.toList args.toList ds p := hA0
 rw [Try.params5] at hA hval
 obtain ⟨v0, vs0, d0, ds0, p0, q0, hargs, rfl, rfl, h0, r0⟩ := trodAll_cons hA
 obtain ⟨rfl, rfl, rfl⟩ := trodAll_nil r0
 obtain rfl : args = #[v0] := by cases args; simp_all
 obtain ⟨rfl, rfl⟩ := trodVars_none hV
 have k0 := h0
 have lt0 : ∀ x ∈ p0, x.block < W.heap.size := by obtain ⟨m, hm⟩ := k0; exact DataW.trod_lt m _ _ _ hm
 obtain ⟨id0, kd0, co0, sc0, b4_0, d4_0, su0, la0, na0, pr0, b8_0, d8_0, ed0, b9_0, d9_0, rf0, ba_0, da_0, sm0, rfl, w0⟩ := open_track (hval 0 40 v0 rfl rfl) h0
 clear hA0 hval0 hsz0
 refine (Hc.walk_Hc id0 kd0 co0 sc0 b4_0 d4_0 su0 la0 na0 pr0 b8_0 d8_0 ed0 b9_0 d9_0 rf0 ba_0 da_0 sm0 W w0).mono fun e W' ⟨he, bel⟩ => ?_
 subst he
 exact ⟨_, rfl, _, _, _, [], _, [], hW', trodAll_mk1 (shut_bool Try.underlying4 _), (trodAll_cons_mk (Below.trod laidOut (by kernel_rfl) (of_decide_eq_true (by kernel_rfl)) k0 bel lt0) trodAll_mk0), rfl, bel.frame _, fun h => by cases h⟩
theorem over : Rows.modelClosedRow.holds Try.pinned (OpenSpec.ofChange Rows.modelClosedSpec) :=
 OpenClaim.holds_of_wide 5 Try.f5 rfl rfl rfl rfl rfl rfl rfl ⟨rfl, rfl, rfl, rfl, rfl⟩ rfl rfl rfl rfl rfl (by kernel_rfl) Try.func5 (by kernel_rfl)
  (of_decide_eq_true (by kernel_rfl)) (by unfold Func.isWrapper; first | (rw [if_pos (by decide +kernel)]; kernel_rfl) | (rw [if_neg (by decide +kernel)]; exact ⟨rfl, rfl⟩))
  (fun os started H enc _ => lifted os started H enc)
end Go.Proofs.Ytknklchmpohjfaa.modelClosedRow
namespace Go.Proofs.Ytknklchmpohjfaa
theorem modelClosed_holds : Rows.ModelClosedSaid := modelClosedRow.over
#print axioms modelClosed_holds
end Go.Proofs.Ytknklchmpohjfaa

/-
  ExactShifts: any spans moved by any time. ExactShifts: any spans moved by any time.
-/
import Derived.Test.YtekommcfpjonmaaGreatQRExactShiftsb
import Derived.Test.YtekommcfpjonmaaGreatQRExactShiftsc
import Derived.Test.YtekommcfpjonmaaGreatQRExactShiftsg
import Derived.Test.YtekommcfpjonmaaGreatQRExactShiftsi
import Derived.Test.YtekommcfpjonmaaGreatRows
import Derived.WalkKit
import Derived.ProofKit
import Derived.OpenShut
import Derived.ChangeOld
import Derived.Below
import Derived.SizedLaws
import Derived.Carry
namespace Go.Proofs.YtekommcfpjonmaaGreat.E
open Go.Proofs.YtekommcfpjonmaaGreat.Z Go.RowKit Go.Proofs.YtekommcfpjonmaaGreatW.PrintWords Go.Proofs.YtekommcfpjonmaaGreatW.PrintLast Go.Proofs.YtekommcfpjonmaaGreatW.PrintMore
attribute [local go_sem] max2_int min2_int max_two min_two max_three min_three max_four min_four
set_option linter.unusedVariables false
set_option linter.unusedSimpArgs false
def dioramalaw02_ExactShifts.f (k : Nat) (l0 : List (S53)) (a1_0 : Int) (a1_1 : Int) : Option (Bool) := (dioramalaw02_many.f l0).bind fun t463 => (if t463 = true then ((dioramalaw02_awake.f).bind fun t464 => (some t464)) else ((exact_Shift.f l0 a1_0 a1_1).bind fun bt465 => ((dioramaref02_Shift.f k l0 a1_0 a1_1).bind fun bt469 => ((dioramaref02_EqSpans.f k bt465.1 bt469.1).bind fun t473 => (if t473 = true then (if bt465.2 = bt469.2 then ((dioramalaw02_awake.f).bind fun t474 => (some t474)) else (some false)) else (some false))))))
set_option maxHeartbeats 8000000 in
set_option maxRecDepth 100000 in
theorem dioramalaw02_ExactShifts.calls (k : Nat) (A0 : Option Addr) (c0 : Nat) (l0 : List (S53)) (a1_0 : Int) (a1_1 : Int) (r : Bool) (w : World) (hr0 : Kd.C k53 w A0 l0.length l0) (hc0 : l0.length ≤ c0) (h : dioramalaw02_ExactShifts.f k l0 a1_0 a1_1 = some r) :
  Calls Tryz.prog 3 #[.slice A0 l0.length c0, .agg #[.int .i64 a1_0, .int .i64 a1_1]] w fun e w' => e = .returned (.bool r) ∧ Below w.heap.size w w' := by
 have hu24 := Tryz.underlying24; have HR0 := Aside0.mk hr0; have HC0 := Aside0.mk hc0; clear hr0 hc0; have HB := Aside0.mk (Below.refl w.heap.size w); have H : ((dioramalaw02_many.f l0).bind fun t463 => (if t463 = true then ((dioramalaw02_awake.f).bind fun t464 => (some t464)) else ((exact_Shift.f l0 a1_0 a1_1).bind fun bt465 => ((dioramaref02_Shift.f k l0 a1_0 a1_1).bind fun bt469 => ((dioramaref02_EqSpans.f k bt465.1 bt469.1).bind fun t473 => (if t473 = true then (if bt465.2 = bt469.2 then ((dioramalaw02_awake.f).bind fun t474 => (some t474)) else (some false)) else (some false))))))) = some r := h
 clear h; obtain ⟨t463, A3, H⟩ := ob H
 by_cases c4 : t463 = true
 ·subst c4; rw [if_pos rfl] at H; obtain ⟨t464, A5, H⟩ := ob H; obtain rfl := Option.some.inj H
  go_enter Tryz.func3, Tryz.ntmps3
  go_wp2_with (first | ((with_reducible refine gate_dst (N := 3) rfl ?_); refine zB 3 24 #[.int .i64 a1_0, .int .i64 a1_1] ?_; intro gb462 hg w6 hbox hb; have BK462 := Aside0.mk hbox; have GW462 := gz hg; have GE462 := gz hg; replace HB := bp hb; clear hb hbox hg) | ((with_reducible refine gate_callee (f := 9) rfl ?_); refine zC 10 Tryz.func9 #[.slice A0 l0.length c0] ?_; (with_reducible refine (dioramalaw02_many.calls _ _ l0 true _ ?side1 ?side2 A3.out).mono ?_); (case side1 => exact cz HR0); (case side2 => exact HC0.out); rintro e w' ⟨rfl, ⟨nd, rfl⟩⟩; refine ⟨_, rfl, ?_⟩) | ((with_reducible refine gate_callee (f := 10) rfl ?_); refine zC 11 Tryz.func10 #[] ?_; (with_reducible refine (dioramalaw02_awake.calls  t464 _ A5.out).mono ?_); rintro e w7 ⟨rfl, hb⟩; refine ⟨_, rfl, ?_⟩; replace BK462 := kb BK462 hb; replace HB := bp hb; clear hb))
  go_ret
  exact ⟨ez, bz⟩
 ·obtain rfl := bf c4; rw [if_neg (show ¬ (false = true) by decide)] at H; obtain ⟨⟨t465, t468⟩, A8, H⟩ := ob H
  (try dsimp only at H)
  obtain ⟨⟨t469, t472⟩, A9, H⟩ := ob H
  (try dsimp only at H)
  obtain ⟨t473, A10, H⟩ := ob H
  by_cases c11 : t473 = true
  ·subst c11; rw [if_pos rfl] at H
   by_cases c12 : t468 = t472
   ·rw [if_pos c12] at H; have c12b0 : (t468 == t472) = true := beq_iff_eq.mpr c12; have c12b1 : (t468 != t472) = false := bne_eq_false_iff_eq.mpr c12; clear c12; obtain ⟨t474, A13, H⟩ := ob H; obtain rfl := Option.some.inj H
    go_enter Tryz.func3, Tryz.ntmps3
    go_wp2_with (first | ((with_reducible refine gate_dst (N := 3) rfl ?_); refine zB 3 24 #[.int .i64 a1_0, .int .i64 a1_1] ?_; intro gb462 hg w14 hbox hb; have BK462 := Aside0.mk hbox; have GW462 := gz hg; have GE462 := gz hg; replace HB := bp hb; clear hb hbox hg) | ((with_reducible refine gate_callee (f := 9) rfl ?_); refine zC 10 Tryz.func9 #[.slice A0 l0.length c0] ?_; (with_reducible refine (dioramalaw02_many.calls _ _ l0 false _ ?side1 ?side2 A3.out).mono ?_); (case side1 => exact cz HR0); (case side2 => exact HC0.out); rintro e w' ⟨rfl, ⟨nd, rfl⟩⟩; refine ⟨_, rfl, ?_⟩; obtain ⟨hcz15_0, hcz15_1, hfz15_0, hfz15_1⟩ := xc2 BK462) | ((with_reducible refine gate_callee (f := 11) rfl ?_); refine zC 15 Tryz.func11 #[.slice A0 l0.length c0, .agg #[.int .i64 a1_0, .int .i64 a1_1]] ?_; (with_reducible refine (exact_Shift.calls _ _ l0 a1_0 a1_1 t465 t468 _ ?side1 ?side2 A8.out).mono ?_); (case side1 => repeat (first | exact (Kd.C_below HR0.out bz) | (with_reducible refine Kd.C_alloc ?_ _) | (with_reducible refine Kd.C_drewN ?_ _) | (with_reducible refine Kd.C_drew ?_))); (case side2 => exact HC0.out); rintro e w16 ⟨v466, rfl, ho0, hb⟩; refine ⟨_, rfl, ?_⟩; have HO467 := Aside0.mk (Kd.R_lower ho0 sz); replace BK462 := kb BK462 hb; replace HB := bp hb; clear hb ho0; obtain ⟨hcz17_0, hcz17_1, hfz17_0, hfz17_1⟩ := xc2 BK462) | ((with_reducible refine gate_callee (f := 12) rfl ?_); refine zC 21 Tryz.func12 #[.slice A0 l0.length c0, .agg #[.int .i64 a1_0, .int .i64 a1_1]] ?_; (with_reducible refine (dioramaref02_Shift.calls k _ _ l0 a1_0 a1_1 t469 t472 _ ?side1 ?side2 A9.out).mono ?_); (case side1 => exact cz HR0); (case side2 => exact HC0.out); rintro e w18 ⟨v470, rfl, ho0, hb⟩; refine ⟨_, rfl, ?_⟩; have HO471 := Aside0.mk (Kd.R_lower (Kd.R_new' ho0 (Kd.R_lt (rz HO467))) sz); replace HO467 := Aside0.mk (Kd.R_elder' (rz HO467) (Kd.R_base ho0) hb); replace BK462 := kb BK462 hb; replace HB := bp hb; clear hb ho0; obtain ⟨Ao19, co19, eo19⟩ := Kd.R_slice HO467.out; subst eo19; obtain ⟨Ao20, co20, eo20⟩ := Kd.R_slice HO471.out; subst eo20) | ((with_reducible refine gate_callee (f := 13) rfl ?_); refine zC 26 Tryz.func13 #[.slice Ao19 t465.length co19, .slice Ao20 t469.length co20] ?_; (with_reducible refine (dioramaref02_EqSpans.calls k _ _ t465 _ _ t469 true _ ?side1 ?side2 ?side3 ?side4 A10.out).mono ?_); (case side1 => exact cr HO467); (case side2 => exact (Kd.R_reads' HO467.out).2.1); (case side3 => exact cr HO471); (case side4 => exact (Kd.R_reads' HO471.out).2.1); rintro e w' ⟨rfl, ⟨nd, rfl⟩⟩; refine ⟨_, rfl, ?_⟩) | (go_at_call 10; (with_reducible refine (dioramalaw02_awake.calls  t474 _ A13.out).mono ?_); rintro e w21 ⟨rfl, hb⟩; replace HO467 := Aside0.mk (Kd.R_below (rz HO467) hb); replace HO471 := Aside0.mk (Kd.R_below (rz HO471) hb); replace BK462 := kb BK462 hb; replace HB := bp hb; clear hb))
    go_ret
    exact ⟨ez, bz⟩
   ·rw [if_neg c12] at H; have c12b0 : (t468 == t472) = false := beq_eq_false_iff_ne.mpr c12; have c12b1 : (t468 != t472) = true := bne_iff_ne.mpr c12; obtain rfl := Option.some.inj H
    go_enter Tryz.func3, Tryz.ntmps3
    go_wp2_with (first | ((with_reducible refine gate_dst (N := 3) rfl ?_); refine zB 3 24 #[.int .i64 a1_0, .int .i64 a1_1] ?_; intro gb462 hg w22 hbox hb; have BK462 := Aside0.mk hbox; have GW462 := gz hg; have GE462 := gz hg; replace HB := bp hb; clear hb hbox hg) | ((with_reducible refine gate_callee (f := 9) rfl ?_); refine zC 10 Tryz.func9 #[.slice A0 l0.length c0] ?_; (with_reducible refine (dioramalaw02_many.calls _ _ l0 false _ ?side1 ?side2 A3.out).mono ?_); (case side1 => exact cz HR0); (case side2 => exact HC0.out); rintro e w' ⟨rfl, ⟨nd, rfl⟩⟩; refine ⟨_, rfl, ?_⟩; obtain ⟨hcz23_0, hcz23_1, hfz23_0, hfz23_1⟩ := xc2 BK462) | ((with_reducible refine gate_callee (f := 11) rfl ?_); refine zC 15 Tryz.func11 #[.slice A0 l0.length c0, .agg #[.int .i64 a1_0, .int .i64 a1_1]] ?_; (with_reducible refine (exact_Shift.calls _ _ l0 a1_0 a1_1 t465 t468 _ ?side1 ?side2 A8.out).mono ?_); (case side1 => repeat (first | exact (Kd.C_below HR0.out bz) | (with_reducible refine Kd.C_alloc ?_ _) | (with_reducible refine Kd.C_drewN ?_ _) | (with_reducible refine Kd.C_drew ?_))); (case side2 => exact HC0.out); rintro e w24 ⟨v466, rfl, ho0, hb⟩; refine ⟨_, rfl, ?_⟩; have HO467 := Aside0.mk (Kd.R_lower ho0 sz); replace BK462 := kb BK462 hb; replace HB := bp hb; clear hb ho0; obtain ⟨hcz25_0, hcz25_1, hfz25_0, hfz25_1⟩ := xc2 BK462) | ((with_reducible refine gate_callee (f := 12) rfl ?_); refine zC 21 Tryz.func12 #[.slice A0 l0.length c0, .agg #[.int .i64 a1_0, .int .i64 a1_1]] ?_; (with_reducible refine (dioramaref02_Shift.calls k _ _ l0 a1_0 a1_1 t469 t472 _ ?side1 ?side2 A9.out).mono ?_); (case side1 => exact cz HR0); (case side2 => exact HC0.out); rintro e w26 ⟨v470, rfl, ho0, hb⟩; refine ⟨_, rfl, ?_⟩; have HO471 := Aside0.mk (Kd.R_lower (Kd.R_new' ho0 (Kd.R_lt (rz HO467))) sz); replace HO467 := Aside0.mk (Kd.R_elder' (rz HO467) (Kd.R_base ho0) hb); replace BK462 := kb BK462 hb; replace HB := bp hb; clear hb ho0; obtain ⟨Ao27, co27, eo27⟩ := Kd.R_slice HO467.out; subst eo27; obtain ⟨Ao28, co28, eo28⟩ := Kd.R_slice HO471.out; subst eo28) | ((with_reducible refine gate_callee (f := 13) rfl ?_); refine zC 26 Tryz.func13 #[.slice Ao27 t465.length co27, .slice Ao28 t469.length co28] ?_; (with_reducible refine (dioramaref02_EqSpans.calls k _ _ t465 _ _ t469 true _ ?side1 ?side2 ?side3 ?side4 A10.out).mono ?_); (case side1 => exact cr HO467); (case side2 => exact (Kd.R_reads' HO467.out).2.1); (case side3 => exact cr HO471); (case side4 => exact (Kd.R_reads' HO471.out).2.1); rintro e w' ⟨rfl, ⟨nd, rfl⟩⟩; refine ⟨_, rfl, ?_⟩))
    go_ret
    exact ⟨ez, bz⟩
  ·obtain rfl := bf c11; rw [if_neg (show ¬ (false = true) by decide)] at H; obtain rfl := Option.some.inj H
   go_enter Tryz.func3, Tryz.ntmps3
   go_wp2_with (first | ((with_reducible refine gate_dst (N := 3) rfl ?_); refine zB 3 24 #[.int .i64 a1_0, .int .i64 a1_1] ?_; intro gb462 hg w29 hbox hb; have BK462 := Aside0.mk hbox; have GW462 := gz hg; have GE462 := gz hg; replace HB := bp hb; clear hb hbox hg) | ((with_reducible refine gate_callee (f := 9) rfl ?_); refine zC 10 Tryz.func9 #[.slice A0 l0.length c0] ?_; (with_reducible refine (dioramalaw02_many.calls _ _ l0 false _ ?side1 ?side2 A3.out).mono ?_); (case side1 => exact cz HR0); (case side2 => exact HC0.out); rintro e w' ⟨rfl, ⟨nd, rfl⟩⟩; refine ⟨_, rfl, ?_⟩; obtain ⟨hcz30_0, hcz30_1, hfz30_0, hfz30_1⟩ := xc2 BK462) | ((with_reducible refine gate_callee (f := 11) rfl ?_); refine zC 15 Tryz.func11 #[.slice A0 l0.length c0, .agg #[.int .i64 a1_0, .int .i64 a1_1]] ?_; (with_reducible refine (exact_Shift.calls _ _ l0 a1_0 a1_1 t465 t468 _ ?side1 ?side2 A8.out).mono ?_); (case side1 => repeat (first | exact (Kd.C_below HR0.out bz) | (with_reducible refine Kd.C_alloc ?_ _) | (with_reducible refine Kd.C_drewN ?_ _) | (with_reducible refine Kd.C_drew ?_))); (case side2 => exact HC0.out); rintro e w31 ⟨v466, rfl, ho0, hb⟩; refine ⟨_, rfl, ?_⟩; have HO467 := Aside0.mk (Kd.R_lower ho0 sz); replace BK462 := kb BK462 hb; replace HB := bp hb; clear hb ho0; obtain ⟨hcz32_0, hcz32_1, hfz32_0, hfz32_1⟩ := xc2 BK462) | ((with_reducible refine gate_callee (f := 12) rfl ?_); refine zC 21 Tryz.func12 #[.slice A0 l0.length c0, .agg #[.int .i64 a1_0, .int .i64 a1_1]] ?_; (with_reducible refine (dioramaref02_Shift.calls k _ _ l0 a1_0 a1_1 t469 t472 _ ?side1 ?side2 A9.out).mono ?_); (case side1 => exact cz HR0); (case side2 => exact HC0.out); rintro e w33 ⟨v470, rfl, ho0, hb⟩; refine ⟨_, rfl, ?_⟩; have HO471 := Aside0.mk (Kd.R_lower (Kd.R_new' ho0 (Kd.R_lt (rz HO467))) sz); replace HO467 := Aside0.mk (Kd.R_elder' (rz HO467) (Kd.R_base ho0) hb); replace BK462 := kb BK462 hb; replace HB := bp hb; clear hb ho0; obtain ⟨Ao34, co34, eo34⟩ := Kd.R_slice HO467.out; subst eo34; obtain ⟨Ao35, co35, eo35⟩ := Kd.R_slice HO471.out; subst eo35) | ((with_reducible refine gate_callee (f := 13) rfl ?_); refine zC 26 Tryz.func13 #[.slice Ao34 t465.length co34, .slice Ao35 t469.length co35] ?_; (with_reducible refine (dioramaref02_EqSpans.calls k _ _ t465 _ _ t469 false _ ?side1 ?side2 ?side3 ?side4 A10.out).mono ?_); (case side1 => exact cr HO467); (case side2 => exact (Kd.R_reads' HO467.out).2.1); (case side3 => exact cr HO471); (case side4 => exact (Kd.R_reads' HO471.out).2.1); rintro e w' ⟨rfl, ⟨nd, rfl⟩⟩; refine ⟨_, rfl, ?_⟩))
   go_ret
   exact ⟨ez, bz⟩
end Go.Proofs.YtekommcfpjonmaaGreat.E

namespace Go.Proofs.YtekommcfpjonmaaGreat.Sf
open Go.RowKit Go Go.Proofs.YtekommcfpjonmaaGreatW.PrintWords Go.Proofs.YtekommcfpjonmaaGreatW.PrintLast Go.Proofs.YtekommcfpjonmaaGreatW.PrintMore Go.Proofs.YtekommcfpjonmaaGreat.Mn Go.Proofs.YtekommcfpjonmaaGreat.Rf Go.Proofs.YtekommcfpjonmaaGreat.E Go.Proofs.YtekommcfpjonmaaGreat.Sg Go.Proofs.YtekommcfpjonmaaGreat.Sx Go.Proofs.YtekommcfpjonmaaGreat.Sy Go.Proofs.YtekommcfpjonmaaGreat.Sz Go.Proofs.YtekommcfpjonmaaGreat.Rl Go.Proofs.YtekommcfpjonmaaGreat.Os
set_option linter.unusedVariables false
set_option linter.unusedSimpArgs false
theorem shf_all {t : Tm} : ∀ (l out : List Sn), (shfR t out l).1.length ≤ out.length + l.length
 | [], out => by
  rw [shfR]
  have := clnL_len out
  simpa using this
 | s :: l, out => by
  rw [shfR]
  split
  ·split
   ·have := shf_all l (out ++ [⟨(tmT (qT s.f0 + qT t)).1, (tmT (qT s.f1 + qT t)).1⟩]) (t := t)
    simp only [List.length_append, List.length_cons, List.length_nil] at this ⊢
    omega
   ·simp
  ·simp
theorem shfV_len (l : List Sn) (t : Tm) : (shfV l t).1.length ≤ l.length := by
 unfold shfV
 split
 ·have := shf_all l [] (t := t)
  simpa using this
 ·simp
theorem pure_Sf (l : List Sn) (b0 b1 : Int) : Ev (fun k => dioramalaw02_ExactShifts.f k l b0 b1) true := by
 have aw : dioramalaw02_awake.f = some true := rfl
 have hf : ∀ k, dioramalaw02_ExactShifts.f k l b0 b1 = if decide ((l.length : Int) > 40) = true then some true else ((exact_Shift.f l b0 b1).bind fun bt465 => ((dioramaref02_Shift.f k l b0 b1).bind fun bt469 => ((dioramaref02_EqSpans.f k bt465.1 bt469.1).bind fun t473 => (if t473 = true then (if bt465.2 = bt469.2 then ((dioramalaw02_awake.f).bind fun t474 => (some t474)) else (some false)) else (some false))))) := fun k => rfl
 refine Ev.congr hf ?_
 by_cases hm : (l.length : Int) > 40
 ·exact Ev.congr (fun k => if_pos (decide_eq_true hm)) (Ev.now _)
 ·refine Ev.congr (fun k => if_neg (fun h => hm (of_decide_eq_true h))) ?_
  have f1 : exact_Shift.f l b0 b1 = some (shfV l ⟨b0, b1⟩) := if_pos (by omega)
  rw [f1]
  simp only [Option.bind_some]
  have hn := shfV_len l ⟨b0, b1⟩
  refine Ev.bind (rshift_f (by omega)) (Ev.bind (eqSpans_f _ (by omega)) ?_)
  exact Ev.congr (fun k => if_pos rfl) (Ev.congr (fun k => if_pos rfl) (Ev.now _))
theorem walk_Sf (a : Option Addr) (len c : Nat) (l : List Sn) (b0 b1 : Int) (w : World) (h : Sps w a len c l) (_ : (Lit.int .i64 b0).wf = true) (_ : (Lit.int .i64 b1).wf = true) :
  Calls Tryz.prog 3 #[.slice a len c, .agg #[.int .i64 b0, .int .i64 b1]] w (fun e w' => e = .returned (.bool true) ∧ Below w.heap.size w w') := by
 obtain ⟨k, hk⟩ := (pure_Sf l b0 b1).rounds
 rw [← h.n]
 exact dioramalaw02_ExactShifts.calls k a c l b0 b1 true w h.c h.h hk
end Go.Proofs.YtekommcfpjonmaaGreat.Sf
namespace Go.Proofs.YtekommcfpjonmaaGreat.exactShiftsRow
open Go.ChangeShapes Go.WideShapes Go.ChangeAt Go.RowKit Go.Proofs.YtekommcfpjonmaaGreat.Os
set_option linter.unusedVariables false
set_option maxRecDepth 100000 in
theorem lifted (os : Os) (started : os.Started) (H : Type) (enc : TypeId × Value → H) :
  ReturnsInHanded {} Tryz.checked os 3 .any (Rows.exactShiftsSpec.pre6 enc Tryz.prog Tryz.f3 Rows.exactShiftsRow.domain false) (Rows.exactShiftsSpec.post enc Tryz.prog Tryz.f3 false true false false) := by
 refine returnsInHanded_of_change_sized (C := Tryz.checked) own started (by kernel_rfl) Tryz.func3
  (ChangeSpec.witness6 (enc := enc) (C := Tryz.checked) false ⟨#[], #[.slice none 0 0, .agg #[.int .i64 0, .int .i64 0]], []⟩ 8 (by kernel_rfl) (by kernel_rfl) (by kernel_rfl) (by kernel_rfl)) ?_
 intro W base args ds gs before hval0 hW hcnd hsz0 _
 have hval : ∀ (j : Nat) t v, Tryz.f3.params[j]? = some t → args[j]? = some v → Value.okWide Tryz.prog W .any base t v := hval0
 have hW' := hW
 obtain ⟨p, q, hA0, hV, rfl, hfz, hnd⟩ := hW
 have hA : DataW.TrodAll enc Tryz.prog W 0 (fun _ => true) true Tryz.f3.params.toList args.toList ds p := hA0
 rw [Tryz.params3] at hA hval
 obtain ⟨v0, vs0, d0, ds0, p0, q0, hargs, rfl, rfl, h0, r0⟩ := trodAll_cons hA
 obtain ⟨v1, vs1, d1, ds1, p1, q1, rfl, rfl, rfl, h1, r1⟩ := trodAll_cons r0
 obtain ⟨rfl, rfl, rfl⟩ := trodAll_nil r1
 obtain rfl : args = #[v0, v1] := by cases args; simp_all
 obtain ⟨rfl, rfl⟩ := trodVars_none hV
 have k0 := h0
 have lt0 : ∀ x ∈ p0, x.block < W.heap.size := by obtain ⟨m, hm⟩ := k0; exact DataW.trod_lt m _ _ _ hm
 obtain ⟨a0, len0, cap0, z0, rfl, w0⟩ := open_spans (hval 0 22 v0 rfl rfl) h0
 have k1 := h1
 have lt1 : ∀ x ∈ p1, x.block < W.heap.size := by obtain ⟨m, hm⟩ := k1; exact DataW.trod_lt m _ _ _ hm
 obtain ⟨a1_0, a1_1, rfl, w1_0, w1_1⟩ := open_time (hval 1 24 v1 rfl rfl) h1
 clear hA0 hval0 hsz0
 refine (Sf.walk_Sf a0 len0 cap0 z0 a1_0 a1_1 W w0 w1_0 w1_1).mono fun e W' ⟨he, bel⟩ => ?_
 subst he
 exact ⟨_, rfl, _, _, _, [], _, [], hW', trodAll_mk1 (shut_bool Tryz.underlying4 _), (trodAll_cons_mk (Below.trod laidOut (by kernel_rfl) (of_decide_eq_true (by kernel_rfl)) k0 bel lt0) (trodAll_cons_mk (Below.trod laidOut (by kernel_rfl) (of_decide_eq_true (by kernel_rfl)) k1 bel lt1) trodAll_mk0)), rfl, bel.frame _, fun h => by cases h⟩
theorem over : Rows.exactShiftsRow.holds Tryz.pinned (OpenSpec.ofChange Rows.exactShiftsSpec) :=
 OpenClaim.holds_of_wide 3 Tryz.f3 rfl rfl rfl rfl rfl rfl rfl ⟨rfl, rfl, rfl, rfl, rfl⟩ rfl rfl rfl rfl rfl (by kernel_rfl) Tryz.func3 (by kernel_rfl)
  (of_decide_eq_true (by kernel_rfl)) (by unfold Func.isWrapper; first | (rw [if_pos (by decide +kernel)]; kernel_rfl) | (rw [if_neg (by decide +kernel)]; exact ⟨rfl, rfl⟩))
  (fun os started H enc _ => lifted os started H enc)
end Go.Proofs.YtekommcfpjonmaaGreat.exactShiftsRow
namespace Go.Proofs.YtekommcfpjonmaaGreat
theorem exactShifts_holds : Rows.ExactShiftsSaid := exactShiftsRow.over
#print axioms exactShifts_holds
end Go.Proofs.YtekommcfpjonmaaGreat

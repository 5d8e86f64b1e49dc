/-
  EditJoins: two lists behind one another, one again and again, and whether two show the same, are as the reference says. EditJoins: two lists behind one another, one again and again, and whether two show the same, are as the reference says.
-/
import Derived.Test.YtpbhepdgamoiaaaQREditJoinsa
import Derived.Test.YtpbhepdgamoiaaaQREditJoinsd
import Derived.Test.YtpbhepdgamoiaaaQREditJoinsf
import Derived.Test.YtpbhepdgamoiaaaQREditJoinsg
import Derived.Test.YtpbhepdgamoiaaaQREditJoinsc
import Derived.Test.YtpbhepdgamoiaaaRows
import Derived.WalkKit
import Derived.ProofKit
import Derived.OpenShut
import Derived.ChangeOld
import Derived.Below
import Derived.SizedLaws
import Derived.Carry
namespace Go.Proofs.Ytpbhepdgamoiaaa.E
open Go.Proofs.Ytpbhepdgamoiaaa.Z Go.RowKit Go.Proofs.YtpbhepdgamoiaaaW.PrintWords Go.Proofs.YtpbhepdgamoiaaaW.PrintLast Go.Proofs.YtpbhepdgamoiaaaW.PrintMore
attribute [local go_sem] max2_int min2_int max_two min_two max_three min_three max_four min_four
set_option linter.unusedVariables false
set_option linter.unusedSimpArgs false
def dioramalaw10_EditJoins.j0 : Nat → List (S77) → Int → Bool → List (S77) → Int → Int → Option (Bool)
  | 0, _, _, _, _, _, _ => none
  | k + 1, x1, x2, x25, x1110000, x1110001, x1110002 => if x25 = true then ((dioramalaw10_awake.f k).bind fun t1112 => (some t1112)) else ((edit_Join.f x1110000 x1 x1110001 x1110002).bind fun bt1113 => ((dioramaref10_Join.f x1110000 x1 x1110001 x1110002).bind fun bt1117 => ((edit_Repeat.f x1110000 x1110001 x1110002 x2).bind fun bt1121 => ((dioramaref10_Repeat.f k x1110000 x1110001 x1110002 x2).bind fun bt1125 => ((edit_Alike.f k x1110000 x1 x1110001 x1110002).bind fun bt1129 => ((dioramaref10_Alike.f k x1110000 x1 x1110001 x1110002).bind fun bt1131 => ((dioramalaw10_eq.f k bt1113.1 bt1113.2 bt1117.1 bt1117.2).bind fun t1133 => (if t1133 = true then ((dioramalaw10_eq.f k bt1121.1 bt1121.2 bt1125.1 bt1125.2).bind fun t1134 => (if t1134 = true then (if (bt1129.1 == bt1131.1) = true then (if bt1129.2 = bt1131.2 then ((dioramalaw10_awake.f k).bind fun t1135 => (some t1135)) else (some false)) else (some false)) else (some false))) else (some false)))))))))
def dioramalaw10_EditJoins.f (k : Nat) (l0_0 : List (S77)) (a0_1 : Int) (a0_2 : Int) (l1 : List (S77)) (a2 : Int) : Option (Bool) := (dioramalaw10_many.f l0_0).bind fun t1110 => (if t1110 = true then (dioramalaw10_EditJoins.j0 k l1 a2 true l0_0 a0_1 a0_2) else ((dioramalaw10_many.f l1).bind fun t1111 => (dioramalaw10_EditJoins.j0 k l1 a2 t1111 l0_0 a0_1 a0_2)))
set_option maxHeartbeats 8000000 in
set_option maxRecDepth 100000 in
theorem dioramalaw10_EditJoins.calls (k : Nat) (A0_0 : Option Addr) (c0_0 : Nat) (l0_0 : List (S77)) (a0_1 : Int) (a0_2 : Int) (A1 : Option Addr) (c1 : Nat) (l1 : List (S77)) (a2 : Int) (r : Bool) (w : World) (hr0_0 : Kd.C k77 w A0_0 l0_0.length l0_0) (hc0_0 : l0_0.length ≤ c0_0) (hr1 : Kd.C k77 w A1 l1.length l1) (hc1 : l1.length ≤ c1) (h : dioramalaw10_EditJoins.f k l0_0 a0_1 a0_2 l1 a2 = some r) :
  Calls Try.prog 16 #[.agg #[.slice A0_0 l0_0.length c0_0, .int .i64 a0_1, .int .i64 a0_2], .slice A1 l1.length c1, .int .i64 a2] w fun e w' => e = .returned (.bool r) ∧ Below w.heap.size w w' := by
 have hu24 := Try.underlying24; have HR0_0 := Aside0.mk hr0_0; have HC0_0 := Aside0.mk hc0_0; clear hr0_0 hc0_0; have HR1 := Aside0.mk hr1; have HC1 := Aside0.mk hc1; clear hr1 hc1; have HB := Aside0.mk (Below.refl w.heap.size w); have H : ((dioramalaw10_many.f l0_0).bind fun t1110 => (if t1110 = true then (dioramalaw10_EditJoins.j0 k l1 a2 true l0_0 a0_1 a0_2) else ((dioramalaw10_many.f l1).bind fun t1111 => (dioramalaw10_EditJoins.j0 k l1 a2 t1111 l0_0 a0_1 a0_2)))) = some r := h
 clear h; have HC4 := Aside0.mk H; clear H
 go_enter Try.func16, Try.ntmps16
 go_upto_region 1 with (first | ((with_reducible refine gate_dst (N := 3) rfl ?_); refine zB 3 24 #[.slice A0_0 l0_0.length c0_0, .int .i64 a0_1, .int .i64 a0_2] ?_; intro gb1109 hg w5 hbox hb; have BK1109 := Aside0.mk hbox; have GW1109 := gz hg; have GE1109 := gz hg; replace HB := bp hb; clear hb hbox hg))
 (try simp only [Act.put, List.setIfInBounds_toArray, List.set_cons_zero, List.set_cons_succ])
 go_cut [25] (fun v25 wc => ∃ (kq : Nat) (x25_3 : Bool), v25 = .bool x25_3 ∧ Aside0 (dioramalaw10_EditJoins.j0 kq l1 a2 x25_3 l0_0 a0_1 a0_2 = some r) ∧ Aside0 (kq ≤ k) ∧ Aside0 (wc.heap[gb1109]? = some (.cells #[(.slice A0_0 l0_0.length c0_0), .int .i64 a0_1, .int .i64 a0_2] 24 (0, 0))) ∧ Aside0 (Below w.heap.size w wc))
 case first =>
  have H := HC4.out; clear HC4; obtain ⟨t1110, A6, H⟩ := ob H
  by_cases c7 : t1110 = true
  ·subst c7; rw [if_pos rfl] at H; have H' := Aside0.mk H; clear H; obtain ⟨hcz8_0, hcz8_1, hcz8_2, hfz8_0, hfz8_1, hfz8_2⟩ := xc3 BK1109
   go_wp2_with (first | ((with_reducible refine gate_callee (f := 19) rfl ?_); refine zC 21 Try.func19 #[.slice A0_0 l0_0.length c0_0] ?_; (with_reducible refine (dioramalaw10_many.calls _ _ l0_0 true _ ?side1 ?side2 A6.out).mono ?_); (case side1 => exact cz HR0_0); (case side2 => exact HC0_0.out); rintro e w' ⟨rfl, ⟨nd, rfl⟩⟩; refine ⟨_, rfl, ?_⟩))
   go_meet
   case rel => exact ⟨_, (true), jz, H', ⟨by first | omega | exact Nat.le_refl _⟩, ⟨kz⟩, ⟨bz⟩⟩
  ·obtain rfl := bf c7; rw [if_neg (show ¬ (false = true) by decide)] at H; obtain ⟨t1111, A9, H⟩ := ob H; have H' := Aside0.mk H; clear H; obtain ⟨hcz10_0, hcz10_1, hcz10_2, hfz10_0, hfz10_1, hfz10_2⟩ := xc3 BK1109
   go_wp2_with (first | ((with_reducible refine gate_callee (f := 19) rfl ?_); refine zC 21 Try.func19 #[.slice A0_0 l0_0.length c0_0] ?_; (with_reducible refine (dioramalaw10_many.calls _ _ l0_0 false _ ?side1 ?side2 A6.out).mono ?_); (case side1 => exact cz HR0_0); (case side2 => exact HC0_0.out); rintro e w' ⟨rfl, ⟨nd, rfl⟩⟩; refine ⟨_, rfl, ?_⟩) | (go_at_call 19; (with_reducible refine (dioramalaw10_many.calls _ _ l1 t1111 _ ?side1 ?side2 A9.out).mono ?_); (case side1 => repeat (first | exact (Kd.C_below HR1.out bz) | (with_reducible refine Kd.C_alloc ?_ _) | (with_reducible refine Kd.C_drewN ?_ _) | (with_reducible refine Kd.C_drew ?_))); (case side2 => exact HC1.out); rintro e w' ⟨rfl, ⟨nd, rfl⟩⟩))
   go_meet
   case rel => exact ⟨_, (t1111), jz, H', ⟨by first | omega | exact Nat.le_refl _⟩, ⟨kz⟩, ⟨bz⟩⟩
 case rest =>
  clear HC4
  try clear c1
  try clear p2
  try clear c7
  try clear hcz10_0
  try clear hcz10_1
  try clear hcz10_2
  try clear hcz8_0
  try clear hcz8_1
  try clear hcz8_2
  try clear hfz10_0
  try clear hfz10_1
  try clear hfz10_2
  try clear hfz8_0
  try clear hfz8_1
  try clear hfz8_2
  obtain ⟨kq, x25_3, rfl, HA, HJ3, BK1109, HB⟩ := hcut
  cases kq with
  | zero => exact absurd HA.out (by simp [dioramalaw10_EditJoins.j0])
  | succ kj3 =>
   have H := HA.out; clear HA; simp only [dioramalaw10_EditJoins.j0] at H
   by_cases c11 : x25_3 = true
   ·subst c11; rw [if_pos rfl] at H; obtain ⟨t1112, A12, H⟩ := ob H; obtain rfl := Option.some.inj H
    go_wp2_with (first | ((with_reducible refine gate_callee (f := 20) rfl ?_); refine zC 26 Try.func20 #[] ?_; (with_reducible refine (dioramalaw10_awake.calls kj3  t1112 _ A12.out).mono ?_); rintro e w13 ⟨rfl, hb⟩; refine ⟨_, rfl, ?_⟩; replace BK1109 := kb BK1109 hb; replace HB := bp hb; clear hb))
    go_ret
    exact ⟨ez, bz⟩
   ·obtain rfl := bf c11; rw [if_neg (show ¬ (false = true) by decide)] at H; obtain ⟨⟨t1113, t1114⟩, A14, H⟩ := ob H
    (try dsimp only at H)
    obtain ⟨⟨t1117, t1118⟩, A15, H⟩ := ob H
    (try dsimp only at H)
    obtain ⟨⟨t1121, t1122⟩, A16, H⟩ := ob H
    (try dsimp only at H)
    obtain ⟨⟨t1125, t1126⟩, A17, H⟩ := ob H
    (try dsimp only at H)
    obtain ⟨⟨t1129, t1130⟩, A18, H⟩ := ob H
    (try dsimp only at H)
    obtain ⟨⟨t1131, t1132⟩, A19, H⟩ := ob H
    (try dsimp only at H)
    obtain ⟨t1133, A20, H⟩ := ob H
    by_cases c21 : t1133 = true
    ·subst c21; rw [if_pos rfl] at H; obtain ⟨t1134, A22, H⟩ := ob H
     by_cases c23 : t1134 = true
     ·subst c23; rw [if_pos rfl] at H
      by_cases c24 : (t1129 == t1131) = true
      ·rw [if_pos c24] at H; have c24b0 : (t1129 == t1131) = true := c24
       (try (have c24b1 : decide (t1129 = t1131) = true := by simpa using c24))
       (try (have c24b2 : (t1129 == t1131) = true := by simpa using c24))
       clear c24
       by_cases c25 : t1130 = t1132
       ·rw [if_pos c25] at H; have c25b0 : (t1130 == t1132) = true := beq_iff_eq.mpr c25; have c25b1 : (t1130 != t1132) = false := bne_eq_false_iff_eq.mpr c25; clear c25; obtain ⟨t1135, A26, H⟩ := ob H; obtain rfl := Option.some.inj H; obtain ⟨hcz27_0, hcz27_1, hcz27_2, hfz27_0, hfz27_1, hfz27_2⟩ := xc3 BK1109
        go_wp2_with (first | ((with_reducible refine gate_callee (f := 48) rfl ?_); refine zC 35 Try.func48 #[.slice A0_0 l0_0.length c0_0, .slice A1 l1.length c1, .int .i64 a0_1, .int .i64 a0_2] ?_; (with_reducible refine (edit_Join.calls _ _ l0_0 _ _ l1 a0_1 a0_2 t1113 t1114 _ ?side1 ?side2 ?side3 ?side4 A14.out).mono ?_); (case side1 => exact cz HR0_0); (case side2 => exact HC0_0.out); (case side3 => exact cz HR1); (case side4 => exact HC1.out); rintro e w28 ⟨v1115, rfl, ho0, hb⟩; refine ⟨_, rfl, ?_⟩; have HO1116 := Aside0.mk (Kd.R_lower ho0 sz); replace BK1109 := kb BK1109 hb; replace HB := bp hb; clear hb ho0; obtain ⟨hcz29_0, hcz29_1, hcz29_2, hfz29_0, hfz29_1, hfz29_2⟩ := xc3 BK1109) | ((with_reducible refine gate_callee (f := 49) rfl ?_); refine zC 46 Try.func49 #[.slice A0_0 l0_0.length c0_0, .slice A1 l1.length c1, .int .i64 a0_1, .int .i64 a0_2] ?_; (with_reducible refine (dioramaref10_Join.calls _ _ l0_0 _ _ l1 a0_1 a0_2 t1117 t1118 _ ?side1 ?side2 ?side3 ?side4 A15.out).mono ?_); (case side1 => exact cz HR0_0); (case side2 => exact HC0_0.out); (case side3 => exact cz HR1); (case side4 => exact HC1.out); rintro e w30 ⟨v1119, rfl, ho0, hb⟩; refine ⟨_, rfl, ?_⟩; have HO1120 := Aside0.mk (Kd.R_lower (Kd.R_new' ho0 (Kd.R_lt (rz HO1116))) sz); replace HO1116 := Aside0.mk (Kd.R_elder' (rz HO1116) (Kd.R_base ho0) hb); replace BK1109 := kb BK1109 hb; replace HB := bp hb; clear hb ho0; obtain ⟨hcz31_0, hcz31_1, hcz31_2, hfz31_0, hfz31_1, hfz31_2⟩ := xc3 BK1109) | ((with_reducible refine gate_callee (f := 50) rfl ?_); refine zC 57 Try.func50 #[.slice A0_0 l0_0.length c0_0, .int .i64 a0_1, .int .i64 a0_2, .int .i64 a2] ?_; (with_reducible refine (edit_Repeat.calls _ _ l0_0 a0_1 a0_2 a2 t1121 t1122 _ ?side1 ?side2 A16.out).mono ?_); (case side1 => exact cz HR0_0); (case side2 => exact HC0_0.out); rintro e w32 ⟨v1123, rfl, ho0, hb⟩; refine ⟨_, rfl, ?_⟩; have HO1124 := Aside0.mk (Kd.R_lower (Kd.R_new' (Kd.R_new' ho0 (Kd.R_lt (rz HO1116))) (Kd.R_lt (rz HO1120))) sz); replace HO1116 := Aside0.mk (Kd.R_elder' (rz HO1116) (Kd.R_base ho0) hb); replace HO1120 := Aside0.mk (Kd.R_elder' (rz HO1120) (Kd.R_base ho0) hb); replace BK1109 := kb BK1109 hb; replace HB := bp hb; clear hb ho0; obtain ⟨hcz33_0, hcz33_1, hcz33_2, hfz33_0, hfz33_1, hfz33_2⟩ := xc3 BK1109) | ((with_reducible refine gate_callee (f := 51) rfl ?_); refine zC 68 Try.func51 #[.slice A0_0 l0_0.length c0_0, .int .i64 a0_1, .int .i64 a0_2, .int .i64 a2] ?_; (with_reducible refine (dioramaref10_Repeat.calls kj3 _ _ l0_0 a0_1 a0_2 a2 t1125 t1126 _ ?side1 ?side2 A17.out).mono ?_); (case side1 => exact cz HR0_0); (case side2 => exact HC0_0.out); rintro e w34 ⟨v1127, rfl, ho0, hb⟩; refine ⟨_, rfl, ?_⟩; have HO1128 := Aside0.mk (Kd.R_lower (Kd.R_new' (Kd.R_new' (Kd.R_new' ho0 (Kd.R_lt (rz HO1116))) (Kd.R_lt (rz HO1120))) (Kd.R_lt (rz HO1124))) sz); replace HO1116 := Aside0.mk (Kd.R_elder' (rz HO1116) (Kd.R_base ho0) hb); replace HO1120 := Aside0.mk (Kd.R_elder' (rz HO1120) (Kd.R_base ho0) hb); replace HO1124 := Aside0.mk (Kd.R_elder' (rz HO1124) (Kd.R_base ho0) hb); replace BK1109 := kb BK1109 hb; replace HB := bp hb; clear hb ho0; obtain ⟨hcz35_0, hcz35_1, hcz35_2, hfz35_0, hfz35_1, hfz35_2⟩ := xc3 BK1109) | ((with_reducible refine gate_callee (f := 34) rfl ?_); refine zC 79 Try.func34 #[.slice A0_0 l0_0.length c0_0, .slice A1 l1.length c1, .int .i64 a0_1, .int .i64 a0_2] ?_; (with_reducible refine (edit_Alike.calls kj3 _ _ l0_0 _ _ l1 a0_1 a0_2 t1129 t1130 _ ?side1 ?side2 ?side3 ?side4 A18.out).mono ?_); (case side1 => exact cz HR0_0); (case side2 => exact HC0_0.out); (case side3 => exact cz HR1); (case side4 => exact HC1.out); rintro e w36 ⟨rfl, hb⟩; refine ⟨_, rfl, ?_⟩; replace HO1116 := Aside0.mk (Kd.R_below (rz HO1116) hb); replace HO1120 := Aside0.mk (Kd.R_below (rz HO1120) hb); replace HO1124 := Aside0.mk (Kd.R_below (rz HO1124) hb); replace HO1128 := Aside0.mk (Kd.R_below (rz HO1128) hb); replace BK1109 := kb BK1109 hb; replace HB := bp hb; clear hb; obtain ⟨hcz37_0, hcz37_1, hcz37_2, hfz37_0, hfz37_1, hfz37_2⟩ := xc3 BK1109) | ((with_reducible refine gate_callee (f := 52) rfl ?_); refine zC 90 Try.func52 #[.slice A0_0 l0_0.length c0_0, .slice A1 l1.length c1, .int .i64 a0_1, .int .i64 a0_2] ?_; (with_reducible refine (dioramaref10_Alike.calls kj3 _ _ l0_0 _ _ l1 a0_1 a0_2 t1131 t1132 _ ?side1 ?side2 ?side3 ?side4 A19.out).mono ?_); (case side1 => exact cz HR0_0); (case side2 => exact HC0_0.out); (case side3 => exact cz HR1); (case side4 => exact HC1.out); rintro e w38 ⟨rfl, hb⟩; refine ⟨_, rfl, ?_⟩; replace HO1116 := Aside0.mk (Kd.R_below (rz HO1116) hb); replace HO1120 := Aside0.mk (Kd.R_below (rz HO1120) hb); replace HO1124 := Aside0.mk (Kd.R_below (rz HO1124) hb); replace HO1128 := Aside0.mk (Kd.R_below (rz HO1128) hb); replace BK1109 := kb BK1109 hb; replace HB := bp hb; clear hb; obtain ⟨Ao39, co39, eo39⟩ := Kd.R_slice HO1116.out; subst eo39; obtain ⟨Ao40, co40, eo40⟩ := Kd.R_slice HO1120.out; subst eo40) | ((with_reducible refine gate_callee (f := 23) rfl ?_); refine zC 97 Try.func23 #[.slice Ao39 t1113.length co39, .int .i64 t1114, .slice Ao40 t1117.length co40, .int .i64 t1118] ?_; (with_reducible refine (dioramalaw10_eq.calls kj3 _ _ t1113 t1114 _ _ t1117 t1118 true _ ?side1 ?side2 ?side3 ?side4 A20.out).mono ?_); (case side1 => exact cr HO1116); (case side2 => exact (Kd.R_reads' HO1116.out).2.1); (case side3 => exact cr HO1120); (case side4 => exact (Kd.R_reads' HO1120.out).2.1); rintro e w' ⟨rfl, ⟨nd, rfl⟩⟩; refine ⟨_, rfl, ?_⟩; obtain ⟨Ao41, co41, eo41⟩ := Kd.R_slice HO1124.out; subst eo41; obtain ⟨Ao42, co42, eo42⟩ := Kd.R_slice HO1128.out; subst eo42) | (go_at_call 23; (with_reducible refine (dioramalaw10_eq.calls kj3 _ _ t1121 t1122 _ _ t1125 t1126 true _ ?side1 ?side2 ?side3 ?side4 A22.out).mono ?_); (case side1 => exact cr HO1124); (case side2 => exact (Kd.R_reads' HO1124.out).2.1); (case side3 => exact cr HO1128); (case side4 => exact (Kd.R_reads' HO1128.out).2.1); rintro e w' ⟨rfl, ⟨nd, rfl⟩⟩) | (go_at_call 20; (with_reducible refine (dioramalaw10_awake.calls kj3  t1135 _ A26.out).mono ?_); rintro e w43 ⟨rfl, hb⟩; replace HO1116 := Aside0.mk (Kd.R_below (rz HO1116) hb); replace HO1120 := Aside0.mk (Kd.R_below (rz HO1120) hb); replace HO1124 := Aside0.mk (Kd.R_below (rz HO1124) hb); replace HO1128 := Aside0.mk (Kd.R_below (rz HO1128) hb); replace BK1109 := kb BK1109 hb; replace HB := bp hb; clear hb))
        go_ret
        exact ⟨ez, bz⟩
       ·rw [if_neg c25] at H; have c25b0 : (t1130 == t1132) = false := beq_eq_false_iff_ne.mpr c25; have c25b1 : (t1130 != t1132) = true := bne_iff_ne.mpr c25; obtain rfl := Option.some.inj H; obtain ⟨hcz44_0, hcz44_1, hcz44_2, hfz44_0, hfz44_1, hfz44_2⟩ := xc3 BK1109
        go_wp2_with (first | ((with_reducible refine gate_callee (f := 48) rfl ?_); refine zC 35 Try.func48 #[.slice A0_0 l0_0.length c0_0, .slice A1 l1.length c1, .int .i64 a0_1, .int .i64 a0_2] ?_; (with_reducible refine (edit_Join.calls _ _ l0_0 _ _ l1 a0_1 a0_2 t1113 t1114 _ ?side1 ?side2 ?side3 ?side4 A14.out).mono ?_); (case side1 => exact cz HR0_0); (case side2 => exact HC0_0.out); (case side3 => exact cz HR1); (case side4 => exact HC1.out); rintro e w45 ⟨v1115, rfl, ho0, hb⟩; refine ⟨_, rfl, ?_⟩; have HO1116 := Aside0.mk (Kd.R_lower ho0 sz); replace BK1109 := kb BK1109 hb; replace HB := bp hb; clear hb ho0; obtain ⟨hcz46_0, hcz46_1, hcz46_2, hfz46_0, hfz46_1, hfz46_2⟩ := xc3 BK1109) | ((with_reducible refine gate_callee (f := 49) rfl ?_); refine zC 46 Try.func49 #[.slice A0_0 l0_0.length c0_0, .slice A1 l1.length c1, .int .i64 a0_1, .int .i64 a0_2] ?_; (with_reducible refine (dioramaref10_Join.calls _ _ l0_0 _ _ l1 a0_1 a0_2 t1117 t1118 _ ?side1 ?side2 ?side3 ?side4 A15.out).mono ?_); (case side1 => exact cz HR0_0); (case side2 => exact HC0_0.out); (case side3 => exact cz HR1); (case side4 => exact HC1.out); rintro e w47 ⟨v1119, rfl, ho0, hb⟩; refine ⟨_, rfl, ?_⟩; have HO1120 := Aside0.mk (Kd.R_lower (Kd.R_new' ho0 (Kd.R_lt (rz HO1116))) sz); replace HO1116 := Aside0.mk (Kd.R_elder' (rz HO1116) (Kd.R_base ho0) hb); replace BK1109 := kb BK1109 hb; replace HB := bp hb; clear hb ho0; obtain ⟨hcz48_0, hcz48_1, hcz48_2, hfz48_0, hfz48_1, hfz48_2⟩ := xc3 BK1109) | ((with_reducible refine gate_callee (f := 50) rfl ?_); refine zC 57 Try.func50 #[.slice A0_0 l0_0.length c0_0, .int .i64 a0_1, .int .i64 a0_2, .int .i64 a2] ?_; (with_reducible refine (edit_Repeat.calls _ _ l0_0 a0_1 a0_2 a2 t1121 t1122 _ ?side1 ?side2 A16.out).mono ?_); (case side1 => exact cz HR0_0); (case side2 => exact HC0_0.out); rintro e w49 ⟨v1123, rfl, ho0, hb⟩; refine ⟨_, rfl, ?_⟩; have HO1124 := Aside0.mk (Kd.R_lower (Kd.R_new' (Kd.R_new' ho0 (Kd.R_lt (rz HO1116))) (Kd.R_lt (rz HO1120))) sz); replace HO1116 := Aside0.mk (Kd.R_elder' (rz HO1116) (Kd.R_base ho0) hb); replace HO1120 := Aside0.mk (Kd.R_elder' (rz HO1120) (Kd.R_base ho0) hb); replace BK1109 := kb BK1109 hb; replace HB := bp hb; clear hb ho0; obtain ⟨hcz50_0, hcz50_1, hcz50_2, hfz50_0, hfz50_1, hfz50_2⟩ := xc3 BK1109) | ((with_reducible refine gate_callee (f := 51) rfl ?_); refine zC 68 Try.func51 #[.slice A0_0 l0_0.length c0_0, .int .i64 a0_1, .int .i64 a0_2, .int .i64 a2] ?_; (with_reducible refine (dioramaref10_Repeat.calls kj3 _ _ l0_0 a0_1 a0_2 a2 t1125 t1126 _ ?side1 ?side2 A17.out).mono ?_); (case side1 => exact cz HR0_0); (case side2 => exact HC0_0.out); rintro e w51 ⟨v1127, rfl, ho0, hb⟩; refine ⟨_, rfl, ?_⟩; have HO1128 := Aside0.mk (Kd.R_lower (Kd.R_new' (Kd.R_new' (Kd.R_new' ho0 (Kd.R_lt (rz HO1116))) (Kd.R_lt (rz HO1120))) (Kd.R_lt (rz HO1124))) sz); replace HO1116 := Aside0.mk (Kd.R_elder' (rz HO1116) (Kd.R_base ho0) hb); replace HO1120 := Aside0.mk (Kd.R_elder' (rz HO1120) (Kd.R_base ho0) hb); replace HO1124 := Aside0.mk (Kd.R_elder' (rz HO1124) (Kd.R_base ho0) hb); replace BK1109 := kb BK1109 hb; replace HB := bp hb; clear hb ho0; obtain ⟨hcz52_0, hcz52_1, hcz52_2, hfz52_0, hfz52_1, hfz52_2⟩ := xc3 BK1109) | ((with_reducible refine gate_callee (f := 34) rfl ?_); refine zC 79 Try.func34 #[.slice A0_0 l0_0.length c0_0, .slice A1 l1.length c1, .int .i64 a0_1, .int .i64 a0_2] ?_; (with_reducible refine (edit_Alike.calls kj3 _ _ l0_0 _ _ l1 a0_1 a0_2 t1129 t1130 _ ?side1 ?side2 ?side3 ?side4 A18.out).mono ?_); (case side1 => exact cz HR0_0); (case side2 => exact HC0_0.out); (case side3 => exact cz HR1); (case side4 => exact HC1.out); rintro e w53 ⟨rfl, hb⟩; refine ⟨_, rfl, ?_⟩; replace HO1116 := Aside0.mk (Kd.R_below (rz HO1116) hb); replace HO1120 := Aside0.mk (Kd.R_below (rz HO1120) hb); replace HO1124 := Aside0.mk (Kd.R_below (rz HO1124) hb); replace HO1128 := Aside0.mk (Kd.R_below (rz HO1128) hb); replace BK1109 := kb BK1109 hb; replace HB := bp hb; clear hb; obtain ⟨hcz54_0, hcz54_1, hcz54_2, hfz54_0, hfz54_1, hfz54_2⟩ := xc3 BK1109) | ((with_reducible refine gate_callee (f := 52) rfl ?_); refine zC 90 Try.func52 #[.slice A0_0 l0_0.length c0_0, .slice A1 l1.length c1, .int .i64 a0_1, .int .i64 a0_2] ?_; (with_reducible refine (dioramaref10_Alike.calls kj3 _ _ l0_0 _ _ l1 a0_1 a0_2 t1131 t1132 _ ?side1 ?side2 ?side3 ?side4 A19.out).mono ?_); (case side1 => exact cz HR0_0); (case side2 => exact HC0_0.out); (case side3 => exact cz HR1); (case side4 => exact HC1.out); rintro e w55 ⟨rfl, hb⟩; refine ⟨_, rfl, ?_⟩; replace HO1116 := Aside0.mk (Kd.R_below (rz HO1116) hb); replace HO1120 := Aside0.mk (Kd.R_below (rz HO1120) hb); replace HO1124 := Aside0.mk (Kd.R_below (rz HO1124) hb); replace HO1128 := Aside0.mk (Kd.R_below (rz HO1128) hb); replace BK1109 := kb BK1109 hb; replace HB := bp hb; clear hb; obtain ⟨Ao56, co56, eo56⟩ := Kd.R_slice HO1116.out; subst eo56; obtain ⟨Ao57, co57, eo57⟩ := Kd.R_slice HO1120.out; subst eo57) | ((with_reducible refine gate_callee (f := 23) rfl ?_); refine zC 97 Try.func23 #[.slice Ao56 t1113.length co56, .int .i64 t1114, .slice Ao57 t1117.length co57, .int .i64 t1118] ?_; (with_reducible refine (dioramalaw10_eq.calls kj3 _ _ t1113 t1114 _ _ t1117 t1118 true _ ?side1 ?side2 ?side3 ?side4 A20.out).mono ?_); (case side1 => exact cr HO1116); (case side2 => exact (Kd.R_reads' HO1116.out).2.1); (case side3 => exact cr HO1120); (case side4 => exact (Kd.R_reads' HO1120.out).2.1); rintro e w' ⟨rfl, ⟨nd, rfl⟩⟩; refine ⟨_, rfl, ?_⟩; obtain ⟨Ao58, co58, eo58⟩ := Kd.R_slice HO1124.out; subst eo58; obtain ⟨Ao59, co59, eo59⟩ := Kd.R_slice HO1128.out; subst eo59) | (go_at_call 23; (with_reducible refine (dioramalaw10_eq.calls kj3 _ _ t1121 t1122 _ _ t1125 t1126 true _ ?side1 ?side2 ?side3 ?side4 A22.out).mono ?_); (case side1 => exact cr HO1124); (case side2 => exact (Kd.R_reads' HO1124.out).2.1); (case side3 => exact cr HO1128); (case side4 => exact (Kd.R_reads' HO1128.out).2.1); rintro e w' ⟨rfl, ⟨nd, rfl⟩⟩))
        go_ret
        exact ⟨ez, bz⟩
      ·rw [if_neg c24] at H; have c24b0 : (t1129 == t1131) = false := by simpa using c24
       (try (have c24b1 : decide (t1129 = t1131) = false := by simpa using c24))
       (try (have c24b2 : (t1129 == t1131) = false := by simpa using c24))
       (try (have c24b3 : ¬ (t1129 = t1131) := by simpa using c24))
       clear c24; obtain rfl := Option.some.inj H; obtain ⟨hcz60_0, hcz60_1, hcz60_2, hfz60_0, hfz60_1, hfz60_2⟩ := xc3 BK1109
       go_wp2_with (first | ((with_reducible refine gate_callee (f := 48) rfl ?_); refine zC 35 Try.func48 #[.slice A0_0 l0_0.length c0_0, .slice A1 l1.length c1, .int .i64 a0_1, .int .i64 a0_2] ?_; (with_reducible refine (edit_Join.calls _ _ l0_0 _ _ l1 a0_1 a0_2 t1113 t1114 _ ?side1 ?side2 ?side3 ?side4 A14.out).mono ?_); (case side1 => exact cz HR0_0); (case side2 => exact HC0_0.out); (case side3 => exact cz HR1); (case side4 => exact HC1.out); rintro e w61 ⟨v1115, rfl, ho0, hb⟩; refine ⟨_, rfl, ?_⟩; have HO1116 := Aside0.mk (Kd.R_lower ho0 sz); replace BK1109 := kb BK1109 hb; replace HB := bp hb; clear hb ho0; obtain ⟨hcz62_0, hcz62_1, hcz62_2, hfz62_0, hfz62_1, hfz62_2⟩ := xc3 BK1109) | ((with_reducible refine gate_callee (f := 49) rfl ?_); refine zC 46 Try.func49 #[.slice A0_0 l0_0.length c0_0, .slice A1 l1.length c1, .int .i64 a0_1, .int .i64 a0_2] ?_; (with_reducible refine (dioramaref10_Join.calls _ _ l0_0 _ _ l1 a0_1 a0_2 t1117 t1118 _ ?side1 ?side2 ?side3 ?side4 A15.out).mono ?_); (case side1 => exact cz HR0_0); (case side2 => exact HC0_0.out); (case side3 => exact cz HR1); (case side4 => exact HC1.out); rintro e w63 ⟨v1119, rfl, ho0, hb⟩; refine ⟨_, rfl, ?_⟩; have HO1120 := Aside0.mk (Kd.R_lower (Kd.R_new' ho0 (Kd.R_lt (rz HO1116))) sz); replace HO1116 := Aside0.mk (Kd.R_elder' (rz HO1116) (Kd.R_base ho0) hb); replace BK1109 := kb BK1109 hb; replace HB := bp hb; clear hb ho0; obtain ⟨hcz64_0, hcz64_1, hcz64_2, hfz64_0, hfz64_1, hfz64_2⟩ := xc3 BK1109) | ((with_reducible refine gate_callee (f := 50) rfl ?_); refine zC 57 Try.func50 #[.slice A0_0 l0_0.length c0_0, .int .i64 a0_1, .int .i64 a0_2, .int .i64 a2] ?_; (with_reducible refine (edit_Repeat.calls _ _ l0_0 a0_1 a0_2 a2 t1121 t1122 _ ?side1 ?side2 A16.out).mono ?_); (case side1 => exact cz HR0_0); (case side2 => exact HC0_0.out); rintro e w65 ⟨v1123, rfl, ho0, hb⟩; refine ⟨_, rfl, ?_⟩; have HO1124 := Aside0.mk (Kd.R_lower (Kd.R_new' (Kd.R_new' ho0 (Kd.R_lt (rz HO1116))) (Kd.R_lt (rz HO1120))) sz); replace HO1116 := Aside0.mk (Kd.R_elder' (rz HO1116) (Kd.R_base ho0) hb); replace HO1120 := Aside0.mk (Kd.R_elder' (rz HO1120) (Kd.R_base ho0) hb); replace BK1109 := kb BK1109 hb; replace HB := bp hb; clear hb ho0; obtain ⟨hcz66_0, hcz66_1, hcz66_2, hfz66_0, hfz66_1, hfz66_2⟩ := xc3 BK1109) | ((with_reducible refine gate_callee (f := 51) rfl ?_); refine zC 68 Try.func51 #[.slice A0_0 l0_0.length c0_0, .int .i64 a0_1, .int .i64 a0_2, .int .i64 a2] ?_; (with_reducible refine (dioramaref10_Repeat.calls kj3 _ _ l0_0 a0_1 a0_2 a2 t1125 t1126 _ ?side1 ?side2 A17.out).mono ?_); (case side1 => exact cz HR0_0); (case side2 => exact HC0_0.out); rintro e w67 ⟨v1127, rfl, ho0, hb⟩; refine ⟨_, rfl, ?_⟩; have HO1128 := Aside0.mk (Kd.R_lower (Kd.R_new' (Kd.R_new' (Kd.R_new' ho0 (Kd.R_lt (rz HO1116))) (Kd.R_lt (rz HO1120))) (Kd.R_lt (rz HO1124))) sz); replace HO1116 := Aside0.mk (Kd.R_elder' (rz HO1116) (Kd.R_base ho0) hb); replace HO1120 := Aside0.mk (Kd.R_elder' (rz HO1120) (Kd.R_base ho0) hb); replace HO1124 := Aside0.mk (Kd.R_elder' (rz HO1124) (Kd.R_base ho0) hb); replace BK1109 := kb BK1109 hb; replace HB := bp hb; clear hb ho0; obtain ⟨hcz68_0, hcz68_1, hcz68_2, hfz68_0, hfz68_1, hfz68_2⟩ := xc3 BK1109) | ((with_reducible refine gate_callee (f := 34) rfl ?_); refine zC 79 Try.func34 #[.slice A0_0 l0_0.length c0_0, .slice A1 l1.length c1, .int .i64 a0_1, .int .i64 a0_2] ?_; (with_reducible refine (edit_Alike.calls kj3 _ _ l0_0 _ _ l1 a0_1 a0_2 t1129 t1130 _ ?side1 ?side2 ?side3 ?side4 A18.out).mono ?_); (case side1 => exact cz HR0_0); (case side2 => exact HC0_0.out); (case side3 => exact cz HR1); (case side4 => exact HC1.out); rintro e w69 ⟨rfl, hb⟩; refine ⟨_, rfl, ?_⟩; replace HO1116 := Aside0.mk (Kd.R_below (rz HO1116) hb); replace HO1120 := Aside0.mk (Kd.R_below (rz HO1120) hb); replace HO1124 := Aside0.mk (Kd.R_below (rz HO1124) hb); replace HO1128 := Aside0.mk (Kd.R_below (rz HO1128) hb); replace BK1109 := kb BK1109 hb; replace HB := bp hb; clear hb; obtain ⟨hcz70_0, hcz70_1, hcz70_2, hfz70_0, hfz70_1, hfz70_2⟩ := xc3 BK1109) | ((with_reducible refine gate_callee (f := 52) rfl ?_); refine zC 90 Try.func52 #[.slice A0_0 l0_0.length c0_0, .slice A1 l1.length c1, .int .i64 a0_1, .int .i64 a0_2] ?_; (with_reducible refine (dioramaref10_Alike.calls kj3 _ _ l0_0 _ _ l1 a0_1 a0_2 t1131 t1132 _ ?side1 ?side2 ?side3 ?side4 A19.out).mono ?_); (case side1 => exact cz HR0_0); (case side2 => exact HC0_0.out); (case side3 => exact cz HR1); (case side4 => exact HC1.out); rintro e w71 ⟨rfl, hb⟩; refine ⟨_, rfl, ?_⟩; replace HO1116 := Aside0.mk (Kd.R_below (rz HO1116) hb); replace HO1120 := Aside0.mk (Kd.R_below (rz HO1120) hb); replace HO1124 := Aside0.mk (Kd.R_below (rz HO1124) hb); replace HO1128 := Aside0.mk (Kd.R_below (rz HO1128) hb); replace BK1109 := kb BK1109 hb; replace HB := bp hb; clear hb; obtain ⟨Ao72, co72, eo72⟩ := Kd.R_slice HO1116.out; subst eo72; obtain ⟨Ao73, co73, eo73⟩ := Kd.R_slice HO1120.out; subst eo73) | ((with_reducible refine gate_callee (f := 23) rfl ?_); refine zC 97 Try.func23 #[.slice Ao72 t1113.length co72, .int .i64 t1114, .slice Ao73 t1117.length co73, .int .i64 t1118] ?_; (with_reducible refine (dioramalaw10_eq.calls kj3 _ _ t1113 t1114 _ _ t1117 t1118 true _ ?side1 ?side2 ?side3 ?side4 A20.out).mono ?_); (case side1 => exact cr HO1116); (case side2 => exact (Kd.R_reads' HO1116.out).2.1); (case side3 => exact cr HO1120); (case side4 => exact (Kd.R_reads' HO1120.out).2.1); rintro e w' ⟨rfl, ⟨nd, rfl⟩⟩; refine ⟨_, rfl, ?_⟩; obtain ⟨Ao74, co74, eo74⟩ := Kd.R_slice HO1124.out; subst eo74; obtain ⟨Ao75, co75, eo75⟩ := Kd.R_slice HO1128.out; subst eo75) | (go_at_call 23; (with_reducible refine (dioramalaw10_eq.calls kj3 _ _ t1121 t1122 _ _ t1125 t1126 true _ ?side1 ?side2 ?side3 ?side4 A22.out).mono ?_); (case side1 => exact cr HO1124); (case side2 => exact (Kd.R_reads' HO1124.out).2.1); (case side3 => exact cr HO1128); (case side4 => exact (Kd.R_reads' HO1128.out).2.1); rintro e w' ⟨rfl, ⟨nd, rfl⟩⟩))
       go_ret
       exact ⟨ez, bz⟩
     ·obtain rfl := bf c23; rw [if_neg (show ¬ (false = true) by decide)] at H; obtain rfl := Option.some.inj H; obtain ⟨hcz76_0, hcz76_1, hcz76_2, hfz76_0, hfz76_1, hfz76_2⟩ := xc3 BK1109
      go_wp2_with (first | ((with_reducible refine gate_callee (f := 48) rfl ?_); refine zC 35 Try.func48 #[.slice A0_0 l0_0.length c0_0, .slice A1 l1.length c1, .int .i64 a0_1, .int .i64 a0_2] ?_; (with_reducible refine (edit_Join.calls _ _ l0_0 _ _ l1 a0_1 a0_2 t1113 t1114 _ ?side1 ?side2 ?side3 ?side4 A14.out).mono ?_); (case side1 => exact cz HR0_0); (case side2 => exact HC0_0.out); (case side3 => exact cz HR1); (case side4 => exact HC1.out); rintro e w77 ⟨v1115, rfl, ho0, hb⟩; refine ⟨_, rfl, ?_⟩; have HO1116 := Aside0.mk (Kd.R_lower ho0 sz); replace BK1109 := kb BK1109 hb; replace HB := bp hb; clear hb ho0; obtain ⟨hcz78_0, hcz78_1, hcz78_2, hfz78_0, hfz78_1, hfz78_2⟩ := xc3 BK1109) | ((with_reducible refine gate_callee (f := 49) rfl ?_); refine zC 46 Try.func49 #[.slice A0_0 l0_0.length c0_0, .slice A1 l1.length c1, .int .i64 a0_1, .int .i64 a0_2] ?_; (with_reducible refine (dioramaref10_Join.calls _ _ l0_0 _ _ l1 a0_1 a0_2 t1117 t1118 _ ?side1 ?side2 ?side3 ?side4 A15.out).mono ?_); (case side1 => exact cz HR0_0); (case side2 => exact HC0_0.out); (case side3 => exact cz HR1); (case side4 => exact HC1.out); rintro e w79 ⟨v1119, rfl, ho0, hb⟩; refine ⟨_, rfl, ?_⟩; have HO1120 := Aside0.mk (Kd.R_lower (Kd.R_new' ho0 (Kd.R_lt (rz HO1116))) sz); replace HO1116 := Aside0.mk (Kd.R_elder' (rz HO1116) (Kd.R_base ho0) hb); replace BK1109 := kb BK1109 hb; replace HB := bp hb; clear hb ho0; obtain ⟨hcz80_0, hcz80_1, hcz80_2, hfz80_0, hfz80_1, hfz80_2⟩ := xc3 BK1109) | ((with_reducible refine gate_callee (f := 50) rfl ?_); refine zC 57 Try.func50 #[.slice A0_0 l0_0.length c0_0, .int .i64 a0_1, .int .i64 a0_2, .int .i64 a2] ?_; (with_reducible refine (edit_Repeat.calls _ _ l0_0 a0_1 a0_2 a2 t1121 t1122 _ ?side1 ?side2 A16.out).mono ?_); (case side1 => exact cz HR0_0); (case side2 => exact HC0_0.out); rintro e w81 ⟨v1123, rfl, ho0, hb⟩; refine ⟨_, rfl, ?_⟩; have HO1124 := Aside0.mk (Kd.R_lower (Kd.R_new' (Kd.R_new' ho0 (Kd.R_lt (rz HO1116))) (Kd.R_lt (rz HO1120))) sz); replace HO1116 := Aside0.mk (Kd.R_elder' (rz HO1116) (Kd.R_base ho0) hb); replace HO1120 := Aside0.mk (Kd.R_elder' (rz HO1120) (Kd.R_base ho0) hb); replace BK1109 := kb BK1109 hb; replace HB := bp hb; clear hb ho0; obtain ⟨hcz82_0, hcz82_1, hcz82_2, hfz82_0, hfz82_1, hfz82_2⟩ := xc3 BK1109) | ((with_reducible refine gate_callee (f := 51) rfl ?_); refine zC 68 Try.func51 #[.slice A0_0 l0_0.length c0_0, .int .i64 a0_1, .int .i64 a0_2, .int .i64 a2] ?_; (with_reducible refine (dioramaref10_Repeat.calls kj3 _ _ l0_0 a0_1 a0_2 a2 t1125 t1126 _ ?side1 ?side2 A17.out).mono ?_); (case side1 => exact cz HR0_0); (case side2 => exact HC0_0.out); rintro e w83 ⟨v1127, rfl, ho0, hb⟩; refine ⟨_, rfl, ?_⟩; have HO1128 := Aside0.mk (Kd.R_lower (Kd.R_new' (Kd.R_new' (Kd.R_new' ho0 (Kd.R_lt (rz HO1116))) (Kd.R_lt (rz HO1120))) (Kd.R_lt (rz HO1124))) sz); replace HO1116 := Aside0.mk (Kd.R_elder' (rz HO1116) (Kd.R_base ho0) hb); replace HO1120 := Aside0.mk (Kd.R_elder' (rz HO1120) (Kd.R_base ho0) hb); replace HO1124 := Aside0.mk (Kd.R_elder' (rz HO1124) (Kd.R_base ho0) hb); replace BK1109 := kb BK1109 hb; replace HB := bp hb; clear hb ho0; obtain ⟨hcz84_0, hcz84_1, hcz84_2, hfz84_0, hfz84_1, hfz84_2⟩ := xc3 BK1109) | ((with_reducible refine gate_callee (f := 34) rfl ?_); refine zC 79 Try.func34 #[.slice A0_0 l0_0.length c0_0, .slice A1 l1.length c1, .int .i64 a0_1, .int .i64 a0_2] ?_; (with_reducible refine (edit_Alike.calls kj3 _ _ l0_0 _ _ l1 a0_1 a0_2 t1129 t1130 _ ?side1 ?side2 ?side3 ?side4 A18.out).mono ?_); (case side1 => exact cz HR0_0); (case side2 => exact HC0_0.out); (case side3 => exact cz HR1); (case side4 => exact HC1.out); rintro e w85 ⟨rfl, hb⟩; refine ⟨_, rfl, ?_⟩; replace HO1116 := Aside0.mk (Kd.R_below (rz HO1116) hb); replace HO1120 := Aside0.mk (Kd.R_below (rz HO1120) hb); replace HO1124 := Aside0.mk (Kd.R_below (rz HO1124) hb); replace HO1128 := Aside0.mk (Kd.R_below (rz HO1128) hb); replace BK1109 := kb BK1109 hb; replace HB := bp hb; clear hb; obtain ⟨hcz86_0, hcz86_1, hcz86_2, hfz86_0, hfz86_1, hfz86_2⟩ := xc3 BK1109) | ((with_reducible refine gate_callee (f := 52) rfl ?_); refine zC 90 Try.func52 #[.slice A0_0 l0_0.length c0_0, .slice A1 l1.length c1, .int .i64 a0_1, .int .i64 a0_2] ?_; (with_reducible refine (dioramaref10_Alike.calls kj3 _ _ l0_0 _ _ l1 a0_1 a0_2 t1131 t1132 _ ?side1 ?side2 ?side3 ?side4 A19.out).mono ?_); (case side1 => exact cz HR0_0); (case side2 => exact HC0_0.out); (case side3 => exact cz HR1); (case side4 => exact HC1.out); rintro e w87 ⟨rfl, hb⟩; refine ⟨_, rfl, ?_⟩; replace HO1116 := Aside0.mk (Kd.R_below (rz HO1116) hb); replace HO1120 := Aside0.mk (Kd.R_below (rz HO1120) hb); replace HO1124 := Aside0.mk (Kd.R_below (rz HO1124) hb); replace HO1128 := Aside0.mk (Kd.R_below (rz HO1128) hb); replace BK1109 := kb BK1109 hb; replace HB := bp hb; clear hb; obtain ⟨Ao88, co88, eo88⟩ := Kd.R_slice HO1116.out; subst eo88; obtain ⟨Ao89, co89, eo89⟩ := Kd.R_slice HO1120.out; subst eo89) | ((with_reducible refine gate_callee (f := 23) rfl ?_); refine zC 97 Try.func23 #[.slice Ao88 t1113.length co88, .int .i64 t1114, .slice Ao89 t1117.length co89, .int .i64 t1118] ?_; (with_reducible refine (dioramalaw10_eq.calls kj3 _ _ t1113 t1114 _ _ t1117 t1118 true _ ?side1 ?side2 ?side3 ?side4 A20.out).mono ?_); (case side1 => exact cr HO1116); (case side2 => exact (Kd.R_reads' HO1116.out).2.1); (case side3 => exact cr HO1120); (case side4 => exact (Kd.R_reads' HO1120.out).2.1); rintro e w' ⟨rfl, ⟨nd, rfl⟩⟩; refine ⟨_, rfl, ?_⟩; obtain ⟨Ao90, co90, eo90⟩ := Kd.R_slice HO1124.out; subst eo90; obtain ⟨Ao91, co91, eo91⟩ := Kd.R_slice HO1128.out; subst eo91) | (go_at_call 23; (with_reducible refine (dioramalaw10_eq.calls kj3 _ _ t1121 t1122 _ _ t1125 t1126 false _ ?side1 ?side2 ?side3 ?side4 A22.out).mono ?_); (case side1 => exact cr HO1124); (case side2 => exact (Kd.R_reads' HO1124.out).2.1); (case side3 => exact cr HO1128); (case side4 => exact (Kd.R_reads' HO1128.out).2.1); rintro e w' ⟨rfl, ⟨nd, rfl⟩⟩))
      go_ret
      exact ⟨ez, bz⟩
    ·obtain rfl := bf c21; rw [if_neg (show ¬ (false = true) by decide)] at H; obtain rfl := Option.some.inj H; obtain ⟨hcz92_0, hcz92_1, hcz92_2, hfz92_0, hfz92_1, hfz92_2⟩ := xc3 BK1109
     go_wp2_with (first | ((with_reducible refine gate_callee (f := 48) rfl ?_); refine zC 35 Try.func48 #[.slice A0_0 l0_0.length c0_0, .slice A1 l1.length c1, .int .i64 a0_1, .int .i64 a0_2] ?_; (with_reducible refine (edit_Join.calls _ _ l0_0 _ _ l1 a0_1 a0_2 t1113 t1114 _ ?side1 ?side2 ?side3 ?side4 A14.out).mono ?_); (case side1 => exact cz HR0_0); (case side2 => exact HC0_0.out); (case side3 => exact cz HR1); (case side4 => exact HC1.out); rintro e w93 ⟨v1115, rfl, ho0, hb⟩; refine ⟨_, rfl, ?_⟩; have HO1116 := Aside0.mk (Kd.R_lower ho0 sz); replace BK1109 := kb BK1109 hb; replace HB := bp hb; clear hb ho0; obtain ⟨hcz94_0, hcz94_1, hcz94_2, hfz94_0, hfz94_1, hfz94_2⟩ := xc3 BK1109) | ((with_reducible refine gate_callee (f := 49) rfl ?_); refine zC 46 Try.func49 #[.slice A0_0 l0_0.length c0_0, .slice A1 l1.length c1, .int .i64 a0_1, .int .i64 a0_2] ?_; (with_reducible refine (dioramaref10_Join.calls _ _ l0_0 _ _ l1 a0_1 a0_2 t1117 t1118 _ ?side1 ?side2 ?side3 ?side4 A15.out).mono ?_); (case side1 => exact cz HR0_0); (case side2 => exact HC0_0.out); (case side3 => exact cz HR1); (case side4 => exact HC1.out); rintro e w95 ⟨v1119, rfl, ho0, hb⟩; refine ⟨_, rfl, ?_⟩; have HO1120 := Aside0.mk (Kd.R_lower (Kd.R_new' ho0 (Kd.R_lt (rz HO1116))) sz); replace HO1116 := Aside0.mk (Kd.R_elder' (rz HO1116) (Kd.R_base ho0) hb); replace BK1109 := kb BK1109 hb; replace HB := bp hb; clear hb ho0; obtain ⟨hcz96_0, hcz96_1, hcz96_2, hfz96_0, hfz96_1, hfz96_2⟩ := xc3 BK1109) | ((with_reducible refine gate_callee (f := 50) rfl ?_); refine zC 57 Try.func50 #[.slice A0_0 l0_0.length c0_0, .int .i64 a0_1, .int .i64 a0_2, .int .i64 a2] ?_; (with_reducible refine (edit_Repeat.calls _ _ l0_0 a0_1 a0_2 a2 t1121 t1122 _ ?side1 ?side2 A16.out).mono ?_); (case side1 => exact cz HR0_0); (case side2 => exact HC0_0.out); rintro e w97 ⟨v1123, rfl, ho0, hb⟩; refine ⟨_, rfl, ?_⟩; have HO1124 := Aside0.mk (Kd.R_lower (Kd.R_new' (Kd.R_new' ho0 (Kd.R_lt (rz HO1116))) (Kd.R_lt (rz HO1120))) sz); replace HO1116 := Aside0.mk (Kd.R_elder' (rz HO1116) (Kd.R_base ho0) hb); replace HO1120 := Aside0.mk (Kd.R_elder' (rz HO1120) (Kd.R_base ho0) hb); replace BK1109 := kb BK1109 hb; replace HB := bp hb; clear hb ho0; obtain ⟨hcz98_0, hcz98_1, hcz98_2, hfz98_0, hfz98_1, hfz98_2⟩ := xc3 BK1109) | ((with_reducible refine gate_callee (f := 51) rfl ?_); refine zC 68 Try.func51 #[.slice A0_0 l0_0.length c0_0, .int .i64 a0_1, .int .i64 a0_2, .int .i64 a2] ?_; (with_reducible refine (dioramaref10_Repeat.calls kj3 _ _ l0_0 a0_1 a0_2 a2 t1125 t1126 _ ?side1 ?side2 A17.out).mono ?_); (case side1 => exact cz HR0_0); (case side2 => exact HC0_0.out); rintro e w99 ⟨v1127, rfl, ho0, hb⟩; refine ⟨_, rfl, ?_⟩; have HO1128 := Aside0.mk (Kd.R_lower (Kd.R_new' (Kd.R_new' (Kd.R_new' ho0 (Kd.R_lt (rz HO1116))) (Kd.R_lt (rz HO1120))) (Kd.R_lt (rz HO1124))) sz); replace HO1116 := Aside0.mk (Kd.R_elder' (rz HO1116) (Kd.R_base ho0) hb); replace HO1120 := Aside0.mk (Kd.R_elder' (rz HO1120) (Kd.R_base ho0) hb); replace HO1124 := Aside0.mk (Kd.R_elder' (rz HO1124) (Kd.R_base ho0) hb); replace BK1109 := kb BK1109 hb; replace HB := bp hb; clear hb ho0; obtain ⟨hcz100_0, hcz100_1, hcz100_2, hfz100_0, hfz100_1, hfz100_2⟩ := xc3 BK1109) | ((with_reducible refine gate_callee (f := 34) rfl ?_); refine zC 79 Try.func34 #[.slice A0_0 l0_0.length c0_0, .slice A1 l1.length c1, .int .i64 a0_1, .int .i64 a0_2] ?_; (with_reducible refine (edit_Alike.calls kj3 _ _ l0_0 _ _ l1 a0_1 a0_2 t1129 t1130 _ ?side1 ?side2 ?side3 ?side4 A18.out).mono ?_); (case side1 => exact cz HR0_0); (case side2 => exact HC0_0.out); (case side3 => exact cz HR1); (case side4 => exact HC1.out); rintro e w101 ⟨rfl, hb⟩; refine ⟨_, rfl, ?_⟩; replace HO1116 := Aside0.mk (Kd.R_below (rz HO1116) hb); replace HO1120 := Aside0.mk (Kd.R_below (rz HO1120) hb); replace HO1124 := Aside0.mk (Kd.R_below (rz HO1124) hb); replace HO1128 := Aside0.mk (Kd.R_below (rz HO1128) hb); replace BK1109 := kb BK1109 hb; replace HB := bp hb; clear hb; obtain ⟨hcz102_0, hcz102_1, hcz102_2, hfz102_0, hfz102_1, hfz102_2⟩ := xc3 BK1109) | ((with_reducible refine gate_callee (f := 52) rfl ?_); refine zC 90 Try.func52 #[.slice A0_0 l0_0.length c0_0, .slice A1 l1.length c1, .int .i64 a0_1, .int .i64 a0_2] ?_; (with_reducible refine (dioramaref10_Alike.calls kj3 _ _ l0_0 _ _ l1 a0_1 a0_2 t1131 t1132 _ ?side1 ?side2 ?side3 ?side4 A19.out).mono ?_); (case side1 => exact cz HR0_0); (case side2 => exact HC0_0.out); (case side3 => exact cz HR1); (case side4 => exact HC1.out); rintro e w103 ⟨rfl, hb⟩; refine ⟨_, rfl, ?_⟩; replace HO1116 := Aside0.mk (Kd.R_below (rz HO1116) hb); replace HO1120 := Aside0.mk (Kd.R_below (rz HO1120) hb); replace HO1124 := Aside0.mk (Kd.R_below (rz HO1124) hb); replace HO1128 := Aside0.mk (Kd.R_below (rz HO1128) hb); replace BK1109 := kb BK1109 hb; replace HB := bp hb; clear hb; obtain ⟨Ao104, co104, eo104⟩ := Kd.R_slice HO1116.out; subst eo104; obtain ⟨Ao105, co105, eo105⟩ := Kd.R_slice HO1120.out; subst eo105) | ((with_reducible refine gate_callee (f := 23) rfl ?_); refine zC 97 Try.func23 #[.slice Ao104 t1113.length co104, .int .i64 t1114, .slice Ao105 t1117.length co105, .int .i64 t1118] ?_; (with_reducible refine (dioramalaw10_eq.calls kj3 _ _ t1113 t1114 _ _ t1117 t1118 false _ ?side1 ?side2 ?side3 ?side4 A20.out).mono ?_); (case side1 => exact cr HO1116); (case side2 => exact (Kd.R_reads' HO1116.out).2.1); (case side3 => exact cr HO1120); (case side4 => exact (Kd.R_reads' HO1120.out).2.1); rintro e w' ⟨rfl, ⟨nd, rfl⟩⟩; refine ⟨_, rfl, ?_⟩))
     go_ret
     exact ⟨ez, bz⟩
end Go.Proofs.Ytpbhepdgamoiaaa.E

namespace Go.Proofs.Ytpbhepdgamoiaaa.Jo
open Go.RowKit Go Go.Proofs.YtpbhepdgamoiaaaW.PrintWords Go.Proofs.YtpbhepdgamoiaaaW.PrintLast Go.Proofs.YtpbhepdgamoiaaaW.PrintMore Go.Proofs.Ytpbhepdgamoiaaa.Mn Go.Proofs.Ytpbhepdgamoiaaa.Rf Go.Proofs.Ytpbhepdgamoiaaa.Er Go.Proofs.Ytpbhepdgamoiaaa.Ek Go.Proofs.Ytpbhepdgamoiaaa.Et Go.Proofs.Ytpbhepdgamoiaaa.E Go.Proofs.Ytpbhepdgamoiaaa.Pe Go.Proofs.Ytpbhepdgamoiaaa.Pf Go.Proofs.Ytpbhepdgamoiaaa.Pg Go.Proofs.Ytpbhepdgamoiaaa.Ph Go.Proofs.Ytpbhepdgamoiaaa.Qo Go.Proofs.Ytpbhepdgamoiaaa.Qp Go.Proofs.Ytpbhepdgamoiaaa.Qe Go.Proofs.Ytpbhepdgamoiaaa.Fr Go.Proofs.Ytpbhepdgamoiaaa.Ct Go.Proofs.Ytpbhepdgamoiaaa.Jn Go.Proofs.Ytpbhepdgamoiaaa.Rp Go.Proofs.Ytpbhepdgamoiaaa.Oe
set_option linter.unusedVariables false
set_option linter.unusedSimpArgs false
theorem rrep_l {ms ts n : Int} (hc : Ck ms ts) (l : List Ed) (hV : ∀ x ∈ l, Vd x) (hl : l.length ≤ 20) (h1 : n ≤ 100) : ∀ m a : Nat, (a : Int) + (m : Int) = n → Ev (fun k => dioramaref10_Repeat.l0 k l ms ts n (rep a l) (a : Int)) (nrmV ms ts (rep n.toNat l))
 | 0, a, h => by
  refine Ev.step (fun k => by rw [dioramaref10_Repeat.l0]) (Ev.congr (fun k => if_neg (by omega)) ?_)
  rw [show n.toNat = a by omega]
  have hle := rep_le (n := n) hl (by omega) h1
  rw [show n.toNat = a by omega] at hle
  exact Ev.bind (told_f hc _ (fun x hx => hV x (rep_mem x hx)) (by omega)) (Ev.now _)
 | m + 1, a, h => by
  have ih := rrep_l hc l hV hl h1 m (a + 1) (by omega)
  have hle := rep_le (n := (a : Int)) hl (by omega) (by omega)
  rw [Int.toNat_natCast] at hle
  refine Ev.step (fun k => by rw [dioramaref10_Repeat.l0]) (Ev.congr (fun k => if_pos (by omega)) (Ev.congr (fun k => if_pos (by omega)) ?_))
  refine Ev.congr (fun k => ?_) ih
  congr 1
  ·rw [rep_add]
   simp [rep]
  ·rw [w64 (by omega) (by omega)]
   omega
theorem rRepeat_f (l : List Ed) (ms ts n : Int) : Ev (fun k => dioramaref10_Repeat.f k l ms ts n) (repV ms ts n l) := by
 unfold repV
 refine Ev.congr (fun k => rfl) (Ev.bind (rcheck_f l ms ts) ?_)
 by_cases h0 : chk l ms ts = 0
 ·obtain ⟨hc, hl, hV, hs⟩ := chk_ok.1 h0
  rw [if_pos h0]
  refine Ev.congr (fun k => if_pos h0) ?_
  by_cases h1 : n < 0
  ·rw [if_pos (.inl h1)]
   refine Ev.congr (fun k => if_pos h1) (Ev.step (fun k => by rw [dioramaref10_Repeat.j0]) (Ev.congr (fun k => if_pos rfl) (Ev.now _)))
  ·refine Ev.congr (fun k => if_neg h1) ?_
   by_cases h2 : 100 < n
   ·rw [if_pos (.inr h2), decide_eq_true (show n > 100 from h2)]
    exact Ev.step (fun k => by rw [dioramaref10_Repeat.j0]) (Ev.congr (fun k => if_pos rfl) (Ev.now _))
   ·rw [if_neg (by omega), decide_eq_false (show ¬ n > 100 from h2)]
    refine Ev.step (f := fun k => dioramaref10_Repeat.l0 k l ms ts n (rep 0 l) ((0 : Nat) : Int)) (fun k => ?_) (rrep_l hc l hV hl (by omega) n.toNat 0 (by omega))
    rw [dioramaref10_Repeat.j0, if_neg (by decide)]
    rfl
 ·rw [if_neg h0]
  exact Ev.congr (fun k => if_neg h0) (Ev.now _)
theorem eqEd10_l (a b : List Ed) (hl : a.length ≤ 1000000) (ra : List Ed) : ∀ (pre rb : List Ed), a = pre ++ ra → b = pre ++ rb → ra.length = rb.length → Ev (fun k => dioramaref10_EqEdits.l0 k a b (pre.length : Int)) (decide (ra = rb)) := by
 induction ra with
 | nil =>
  intro pre rb ha hb hr
  have : rb = [] := by cases rb with | nil => rfl | cons _ _ => simp at hr
  subst this
  refine Ev.step (f := fun _ => some (decide (([] : List Ed) = []))) (fun k => ?_) (Ev.now _)
  simp only [dioramaref10_EqEdits.l0]
  rw [if_neg (by rw [ha]; simp)]
  simp
 | cons x t ih =>
  intro pre rb ha hb hr
  cases rb with
  | nil => simp at hr
  | cons y u =>
   have hx : rd_T77 a (pre.length : Int) = x := by rw [ha]; exact rd_at pre x t
   have hy : rd_T77 b (pre.length : Int) = y := by rw [hb]; exact rd_at pre y u
   have hla : a.length = pre.length + (t.length + 1) := by rw [ha]; simp
   have hlb : b.length = pre.length + (u.length + 1) := by rw [hb]; simp
   simp only [List.length_cons, Nat.add_right_cancel_iff] at hr
   by_cases hxy : x = y
   ·subst hxy
    have hi := ih (pre ++ [x]) u (by rw [ha]; simp) (by rw [hb]; simp) hr
    have e : decide (x :: t = x :: u) = decide (t = u) := by simp
    rw [e]
    refine Ev.step (fun k => ?_) hi
    simp only [dioramaref10_EqEdits.l0]
    rw [if_pos (by omega), if_pos (by omega), if_pos (by omega), hx, hy, ed_ne, if_neg (by simp), w64 (by omega) (by omega)]
    simp
   ·rw [decide_eq_false (by intro h; injection h with h _; exact hxy h)]
    refine Ev.step (f := fun _ => some false) (fun k => ?_) (Ev.now _)
    simp only [dioramaref10_EqEdits.l0]
    rw [if_pos (by omega), if_pos (by omega), if_pos (by omega), hx, hy, ed_ne, if_pos (by simpa using hxy)]
theorem eqEd10_f (a b : List Ed) (hl : a.length ≤ 1000000) : Ev (fun k => dioramaref10_EqEdits.f k a b) (decide (a = b)) := by
 by_cases h : a.length = b.length
 ·refine Ev.congr (fun k => ?_) (eqEd10_l a b hl a [] b rfl rfl h)
  unfold dioramaref10_EqEdits.f
  rw [if_pos (by omega)]; rfl
 ·rw [decide_eq_false (fun e => h (by rw [e]))]
  refine Ev.congr (fun k => ?_) (Ev.now _)
  unfold dioramaref10_EqEdits.f
  rw [if_neg (by omega)]
theorem rAlike_f (a b : List Ed) (ms ts : Int) : Ev (fun k => dioramaref10_Alike.f k a b ms ts) (aliV ms ts a b) := by
 unfold aliV
 refine Ev.congr (fun k => rfl) (Ev.bind (rcheck_f a ms ts) ?_)
 by_cases h0 : chk a ms ts = 0
 ·obtain ⟨hc, hl, hV, hs⟩ := chk_ok.1 h0
  rw [if_pos h0]
  refine Ev.congr (fun k => if_pos h0) (Ev.bind (rcheck_f b ms ts) ?_)
  by_cases h1 : chk b ms ts = 0
  ·obtain ⟨hc', hl', hV', hs'⟩ := chk_ok.1 h1
   rw [if_pos h1]
   refine Ev.congr (fun k => if_pos h1) (Ev.bind (rnormal_f hc a hV (by omega) hs) (Ev.bind (rnormal_f hc b hV' (by omega) hs') ?_))
   exact Ev.bind (eqEd10_f _ _ (by have := nrm_len ms ts a; omega)) (Ev.now _)
  ·rw [if_neg h1]
   exact Ev.congr (fun k => if_neg h1) (Ev.now _)
 ·rw [if_neg h0]
  exact Ev.congr (fun k => if_neg h0) (Ev.now _)
theorem joinV_len (ms ts : Int) (a b : List Ed) : (joinV ms ts a b).1.length ≤ 20 := by
 unfold joinV
 split
 ·split
  ·exact nrmV_len ms ts _
  ·simp
 ·simp
theorem repV_len (ms ts n : Int) (a : List Ed) : (repV ms ts n a).1.length ≤ 20 := by
 unfold repV
 split
 ·split
  ·simp
  ·exact nrmV_len ms ts _
 ·simp
theorem pure_Jo (l m : List Ed) (ms ts n : Int) : Ev (fun k => dioramalaw10_EditJoins.f k l ms ts m n) true := by
 have aw : Ev (fun k => (dioramalaw10_awake.f k).bind fun t => (some t)) true := Ev.bind awake_f (Ev.now _)
 have off : Ev (fun k => dioramalaw10_EditJoins.j0 k m n true l ms ts) true := Ev.step (fun k => by rw [dioramalaw10_EditJoins.j0]) (Ev.congr (fun k => if_pos rfl) aw)
 refine Ev.congr (f := fun k => if 60 < l.length then (dioramalaw10_EditJoins.j0 k m n true l ms ts) else (dioramalaw10_EditJoins.j0 k m n (decide (60 < m.length)) l ms ts)) (fun k => ?_) ?_
 ·unfold dioramalaw10_EditJoins.f
  rw [many_f, many_f]
  simp only [Option.bind_some, decide_eq_true_eq]
 by_cases h1 : 60 < l.length
 ·exact Ev.congr (fun k => if_pos h1) off
 refine Ev.congr (fun k => if_neg h1) ?_
 by_cases h2 : 60 < m.length
 ·rw [decide_eq_true h2]
  exact off
 rw [decide_eq_false h2]
 refine Ev.step (fun k => by rw [dioramalaw10_EditJoins.j0]) (Ev.congr (fun k => if_neg (by decide)) ?_)
 unfold edit_Join.f dioramaref10_Join.f edit_Repeat.f
 simp only [Option.bind_some]
 refine Ev.bind (rRepeat_f l ms ts n) (Ev.bind (Alike_f l m ms ts) (Ev.bind (rAlike_f l m ms ts) ?_))
 refine Ev.bind (eq_f _ _ (by have := joinV_len ms ts l m; omega)) (Ev.congr (fun k => if_pos rfl) ?_)
 refine Ev.bind (eq_f _ _ (by have := repV_len ms ts n l; omega)) (Ev.congr (fun k => if_pos rfl) ?_)
 exact Ev.congr (fun k => if_pos (by simp)) (Ev.congr (fun k => if_pos rfl) aw)
theorem walk_Jo (a : Option Addr) (len c : Nat) (l : List Ed) (ms ts : Int) (a1 : Option Addr) (len1 c1 : Nat) (l1 : List Ed) (n : Int) (w : World) (h : Eds w a len c l) (_ : (Lit.int .i64 ms).wf = true) (_ : (Lit.int .i64 ts).wf = true) (h1 : Eds w a1 len1 c1 l1) (_ : (Lit.int .i64 n).wf = true) :
  Calls Try.prog 16 #[.agg #[.slice a len c, .int .i64 ms, .int .i64 ts], .slice a1 len1 c1, .int .i64 n] w (fun e w' => e = .returned (.bool true) ∧ Below w.heap.size w w') := by
 obtain ⟨k, hk⟩ := (pure_Jo l l1 ms ts n).rounds
 rw [← h.n, ← h1.n]
 exact dioramalaw10_EditJoins.calls k a c l ms ts a1 c1 l1 n true w h.c h.h h1.c h1.h hk
end Go.Proofs.Ytpbhepdgamoiaaa.Jo
namespace Go.Proofs.Ytpbhepdgamoiaaa.editJoinsRow
open Go.ChangeShapes Go.WideShapes Go.ChangeAt Go.RowKit Go.Proofs.Ytpbhepdgamoiaaa.Oe
set_option linter.unusedVariables false
set_option maxRecDepth 100000 in
theorem lifted (os : Os) (started : os.Started) (H : Type) (enc : TypeId × Value → H) :
  ReturnsInHanded {} Try.checked os 16 .any (Rows.editJoinsSpec.pre6 enc Try.prog Try.f16 Rows.editJoinsRow.domain false) (Rows.editJoinsSpec.post enc Try.prog Try.f16 false true false false) := by
 refine returnsInHanded_of_change_sized (C := Try.checked) own started (by kernel_rfl) Try.func16
  (ChangeSpec.witness6 (enc := enc) (C := Try.checked) false ⟨#[], #[.agg #[.slice none 0 0, .int .i64 0, .int .i64 0], .slice none 0 0, .int .i64 0], []⟩ 8 (by kernel_rfl) (by kernel_rfl) (by kernel_rfl) (by kernel_rfl)) ?_
 intro W base args ds gs before hval0 hW hcnd hsz0 _
 have hval : ∀ (j : Nat) t v, Try.f16.params[j]? = some t → args[j]? = some v → Value.okWide Try.prog W .any base t v := hval0
 have hW' := hW
 obtain ⟨p, q, hA0, hV, rfl, hfz, hnd⟩ := hW
 have hA : DataW.TrodAll enc Try.prog W 0 (fun _ => true) true Try.f16.params.toList args.toList ds p := hA0
 rw [Try.params16] at hA hval
 obtain ⟨v0, vs0, d0, ds0, p0, q0, hargs, rfl, rfl, h0, r0⟩ := trodAll_cons hA
 obtain ⟨v1, vs1, d1, ds1, p1, q1, rfl, rfl, rfl, h1, r1⟩ := trodAll_cons r0
 obtain ⟨v2, vs2, d2, ds2, p2, q2, rfl, rfl, rfl, h2, r2⟩ := trodAll_cons r1
 obtain ⟨rfl, rfl, rfl⟩ := trodAll_nil r2
 obtain rfl : args = #[v0, v1, v2] := by cases args; simp_all
 obtain ⟨rfl, rfl⟩ := trodVars_none hV
 have k0 := h0
 have lt0 : ∀ x ∈ p0, x.block < W.heap.size := by obtain ⟨m, hm⟩ := k0; exact DataW.trod_lt m _ _ _ hm
 obtain ⟨a0, len0, cap0, z0, m0, t0, rfl, w0, wm0, wt0⟩ := open_list (hval 0 24 v0 rfl rfl) h0
 have k1 := h1
 have lt1 : ∀ x ∈ p1, x.block < W.heap.size := by obtain ⟨m, hm⟩ := k1; exact DataW.trod_lt m _ _ _ hm
 obtain ⟨a1, len1, cap1, z1, rfl, w1⟩ := open_edits (hval 1 22 v1 rfl rfl) h1
 obtain ⟨a2, rfl, rfl, rfl, w2⟩ := open_int Try.underlying3 (hval 2 3 v2 rfl rfl) h2
 clear hA0 hval0 hsz0
 refine (Jo.walk_Jo a0 len0 cap0 z0 m0 t0 a1 len1 cap1 z1 a2 W w0 wm0 wt0 w1 w2).mono fun e W' ⟨he, bel⟩ => ?_
 subst he
 exact ⟨_, rfl, _, _, _, [], _, [], hW', trodAll_mk1 (shut_bool Try.underlying4 _), (trodAll_cons_mk (Below.trod laidOut (by kernel_rfl) (of_decide_eq_true (by kernel_rfl)) k0 bel lt0) (trodAll_cons_mk (Below.trod laidOut (by kernel_rfl) (of_decide_eq_true (by kernel_rfl)) k1 bel lt1) (trodAll_cons_mk (shut_int Try.underlying3 w2) trodAll_mk0))), rfl, bel.frame _, fun h => by cases h⟩
theorem over : Rows.editJoinsRow.holds Try.pinned (OpenSpec.ofChange Rows.editJoinsSpec) :=
 OpenClaim.holds_of_wide 16 Try.f16 rfl rfl rfl rfl rfl rfl rfl ⟨rfl, rfl, rfl, rfl, rfl⟩ rfl rfl rfl rfl rfl (by kernel_rfl) Try.func16 (by kernel_rfl)
  (of_decide_eq_true (by kernel_rfl)) (by unfold Func.isWrapper; first | (rw [if_pos (by decide +kernel)]; kernel_rfl) | (rw [if_neg (by decide +kernel)]; exact ⟨rfl, rfl⟩))
  (fun os started H enc _ => lifted os started H enc)
end Go.Proofs.Ytpbhepdgamoiaaa.editJoinsRow
namespace Go.Proofs.Ytpbhepdgamoiaaa
theorem editJoins_holds : Rows.EditJoinsSaid := editJoinsRow.over
#print axioms editJoins_holds
end Go.Proofs.Ytpbhepdgamoiaaa

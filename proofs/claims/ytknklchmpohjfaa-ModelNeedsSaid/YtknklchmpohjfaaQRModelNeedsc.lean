/-
  Printed walks.
-/
import Derived.Test.YtknklchmpohjfaaQRModelNeedsa
import Derived.Test.YtknklchmpohjfaaQRModelNeedsb
namespace Go.Proofs.Ytknklchmpohjfaa.E
open Go.Proofs.Ytknklchmpohjfaa.Z Go.RowKit Go.Proofs.YtknklchmpohjfaaW.PrintWords Go.Proofs.YtknklchmpohjfaaW.PrintLast Go.Proofs.YtknklchmpohjfaaW.PrintMore
attribute [local go_sem] max2_int min2_int max_two min_two max_three min_three max_four min_four
set_option linter.unusedVariables false
set_option linter.unusedSimpArgs false
def dioramaref03_Needs.f (k : Nat) (a0_0 : Int) (a0_1 : Int) (a0_2 : ByteArray) (a0_3 : Int) (l0_4 : List Int) (a0_5 : ByteArray) (a0_6 : ByteArray) (a0_7 : Int) (l0_8 : List (S86)) (l0_9 : List (S68)) (l0_10 : List (S51)) (a1 : Int) : Option (List Int × Int) := (dioramaref03_CheckTrack.f k a0_0 a0_1 a0_2 a0_3 l0_4 a0_5 a0_6 a0_7 l0_8 l0_9 l0_10).bind fun t159 => (if t159 = 0 then (if a1 < 0 then (some (([] : List Int), 1)) else (if a1 ≥ (l0_10.length : Int) then (some (([] : List Int), 1)) else ((dioramaref03_needs.f k a0_0 a0_1 a0_2 a0_3 l0_4 a0_5 a0_6 a0_7 l0_8 l0_9 l0_10 a1).bind fun t160 => (some (t160, 0))))) else (some (([] : List Int), t159)))
set_option maxHeartbeats 8000000 in
set_option maxRecDepth 100000 in
theorem dioramaref03_Needs.calls (k : Nat) (a0_0 : Int) (a0_1 : Int) (a0_2 : ByteArray) (a0_3 : Int) (A0_4 : Option Addr) (c0_4 : Nat) (l0_4 : List Int) (a0_5 : ByteArray) (a0_6 : ByteArray) (a0_7 : Int) (A0_8 : Option Addr) (c0_8 : Nat) (l0_8 : List (S86)) (A0_9 : Option Addr) (c0_9 : Nat) (l0_9 : List (S68)) (A0_10 : Option Addr) (c0_10 : Nat) (l0_10 : List (S51)) (a1 : Int) (r1 : List Int) (r2 : Int) (w : World) (hr0_4 : Kd.C (Kd.int .u8) w A0_4 l0_4.length l0_4) (hc0_4 : l0_4.length ≤ c0_4) (hr0_8 : Kd.C k86 w A0_8 l0_8.length l0_8) (hc0_8 : l0_8.length ≤ c0_8) (hr0_9 : Kd.C k68 w A0_9 l0_9.length l0_9) (hc0_9 : l0_9.length ≤ c0_9) (hr0_10 : Kd.C k51 w A0_10 l0_10.length l0_10) (hc0_10 : l0_10.length ≤ c0_10) (h : dioramaref03_Needs.f k a0_0 a0_1 a0_2 a0_3 l0_4 a0_5 a0_6 a0_7 l0_8 l0_9 l0_10 a1 = some (r1, r2)) :
  Calls Try.prog 17 #[.agg #[.int .i64 a0_0, .int .i64 a0_1, .string a0_2, .int .i64 a0_3, .slice A0_4 l0_4.length c0_4, .string a0_5, .string a0_6, .int .i64 a0_7, .slice A0_8 l0_8.length c0_8, .slice A0_9 l0_9.length c0_9, .slice A0_10 l0_10.length c0_10], .int .i64 a1] w fun e w' => ∃ v0_ : Value, e = .returned (.tuple #[v0_, .int .i64 r2]) ∧ Kd.R (Kd.int .i64) 3 w' w.heap.size (fun _ => True) v0_ r1 ∧ Below w.heap.size w w' := by
 have hu40 := Try.underlying40; have HR0_4 := Aside0.mk hr0_4; have HC0_4 := Aside0.mk hc0_4; clear hr0_4 hc0_4; have HR0_8 := Aside0.mk hr0_8; have HC0_8 := Aside0.mk hc0_8; clear hr0_8 hc0_8; have HR0_9 := Aside0.mk hr0_9; have HC0_9 := Aside0.mk hc0_9; clear hr0_9 hc0_9; have HR0_10 := Aside0.mk hr0_10; have HC0_10 := Aside0.mk hc0_10; clear hr0_10 hc0_10; have HB := Aside0.mk (Below.refl w.heap.size w); have H : ((dioramaref03_CheckTrack.f k a0_0 a0_1 a0_2 a0_3 l0_4 a0_5 a0_6 a0_7 l0_8 l0_9 l0_10).bind fun t159 => (if t159 = 0 then (if a1 < 0 then (some (([] : List Int), 1)) else (if a1 ≥ (l0_10.length : Int) then (some (([] : List Int), 1)) else ((dioramaref03_needs.f k a0_0 a0_1 a0_2 a0_3 l0_4 a0_5 a0_6 a0_7 l0_8 l0_9 l0_10 a1).bind fun t160 => (some (t160, 0))))) else (some (([] : List Int), t159)))) = some (r1, r2) := h
 clear h; obtain ⟨t159, A3, H⟩ := ob H
 by_cases c4 : t159 = 0
 ·rw [if_pos c4] at H; have c4b0 : (t159 == 0) = true := beq_iff_eq.mpr c4; have c4b1 : (t159 != 0) = false := bne_eq_false_iff_eq.mpr c4; clear c4
  by_cases c5 : a1 < 0
  ·rw [if_pos c5] at H; have c5b0 : decide (a1 < 0) = true := decide_eq_true c5; clear c5; simp only [Option.some.injEq, Prod.mk.injEq] at H; obtain ⟨rfl, rfl⟩ := H
   go_enter Try.func17, Try.ntmps17
   go_wp2_with (first | ((with_reducible refine gate_dst (N := 2) rfl ?_); refine zB 2 40 #[.int .i64 a0_0, .int .i64 a0_1, .string a0_2, .int .i64 a0_3, .slice A0_4 l0_4.length c0_4, .string a0_5, .string a0_6, .int .i64 a0_7, .slice A0_8 l0_8.length c0_8, .slice A0_9 l0_9.length c0_9, .slice A0_10 l0_10.length c0_10] ?_; intro gb158 hg w6 hbox hb; have BK158 := Aside0.mk hbox; have GW158 := gz hg; have GE158 := gz hg; replace HB := bp hb; clear hb hbox hg; have hcz7_0 : w6.cell? ⟨gb158, 0, none⟩ = some (.int .i64 a0_0) := ct BK158 0; have hcz7_1 : w6.cell? ⟨gb158, 1, none⟩ = some (.int .i64 a0_1) := ct BK158 1; have hcz7_2 : w6.cell? ⟨gb158, 2, none⟩ = some (.string a0_2) := ct BK158 2; have hcz7_3 : w6.cell? ⟨gb158, 3, none⟩ = some (.int .i64 a0_3) := ct BK158 3; have hcz7_4 : w6.cell? ⟨gb158, 4, none⟩ = some (.slice A0_4 l0_4.length c0_4) := ct BK158 4; have hcz7_5 : w6.cell? ⟨gb158, 5, none⟩ = some (.string a0_5) := ct BK158 5; have hcz7_6 : w6.cell? ⟨gb158, 6, none⟩ = some (.string a0_6) := ct BK158 6; have hcz7_7 : w6.cell? ⟨gb158, 7, none⟩ = some (.int .i64 a0_7) := ct BK158 7; have hcz7_8 : w6.cell? ⟨gb158, 8, none⟩ = some (.slice A0_8 l0_8.length c0_8) := ct BK158 8; have hcz7_9 : w6.cell? ⟨gb158, 9, none⟩ = some (.slice A0_9 l0_9.length c0_9) := ct BK158 9; have hcz7_10 : w6.cell? ⟨gb158, 10, none⟩ = some (.slice A0_10 l0_10.length c0_10) := ct BK158 10; have hfz7_0 := blk_frozen BK158.out 0; have hfz7_1 := blk_frozen BK158.out 1; have hfz7_2 := blk_frozen BK158.out 2; have hfz7_3 := blk_frozen BK158.out 3; have hfz7_4 := blk_frozen BK158.out 4; have hfz7_5 := blk_frozen BK158.out 5; have hfz7_6 := blk_frozen BK158.out 6; have hfz7_7 := blk_frozen BK158.out 7; have hfz7_8 := blk_frozen BK158.out 8; have hfz7_9 := blk_frozen BK158.out 9; have hfz7_10 := blk_frozen BK158.out 10) | ((with_reducible refine gate_callee (f := 21) rfl ?_); refine zC 8 Try.func21 #[.agg #[.int .i64 a0_0, .int .i64 a0_1, .string a0_2, .int .i64 a0_3, .slice A0_4 l0_4.length c0_4, .string a0_5, .string a0_6, .int .i64 a0_7, .slice A0_8 l0_8.length c0_8, .slice A0_9 l0_9.length c0_9, .slice A0_10 l0_10.length c0_10]] ?_; (with_reducible refine (dioramaref03_CheckTrack.calls k a0_0 a0_1 a0_2 a0_3 _ _ l0_4 a0_5 a0_6 a0_7 _ _ l0_8 _ _ l0_9 _ _ l0_10 t159 _ ?side1 ?side2 ?side3 ?side4 ?side5 ?side6 ?side7 ?side8 A3.out).mono ?_); (case side1 => exact cz HR0_4); (case side2 => exact HC0_4.out); (case side3 => exact cz HR0_8); (case side4 => exact HC0_8.out); (case side5 => exact cz HR0_9); (case side6 => exact HC0_9.out); (case side7 => exact cz HR0_10); (case side8 => exact HC0_10.out); rintro e w8 ⟨rfl, hb⟩; refine ⟨_, rfl, ?_⟩; replace BK158 := kb BK158 hb; replace HB := bp hb; clear hb))
   go_ret2
   exact ⟨_, ez, by first | exact Kd.R_nil _ _ _ _ _ | exact Kd.N_nil _ _ _ _ _ | exact Kd.V_nil _ _ _ _ _ | exact Kd.Q_nil _ _ _ _ _ | exact Kd.S_nil _ _ _ _ _, bz⟩
  ·rw [if_neg c5] at H; have c5b0 : decide (a1 < 0) = false := decide_eq_false c5; clear c5
   by_cases c9 : a1 ≥ (l0_10.length : Int)
   ·rw [if_pos c9] at H; have c9b0 : decide ((l0_10.length : Int) ≤ a1) = true := decide_eq_true c9; clear c9; simp only [Option.some.injEq, Prod.mk.injEq] at H; obtain ⟨rfl, rfl⟩ := H
    go_enter Try.func17, Try.ntmps17
    go_wp2_with (first | ((with_reducible refine gate_dst (N := 2) rfl ?_); refine zB 2 40 #[.int .i64 a0_0, .int .i64 a0_1, .string a0_2, .int .i64 a0_3, .slice A0_4 l0_4.length c0_4, .string a0_5, .string a0_6, .int .i64 a0_7, .slice A0_8 l0_8.length c0_8, .slice A0_9 l0_9.length c0_9, .slice A0_10 l0_10.length c0_10] ?_; intro gb158 hg w10 hbox hb; have BK158 := Aside0.mk hbox; have GW158 := gz hg; have GE158 := gz hg; replace HB := bp hb; clear hb hbox hg; have hcz11_0 : w10.cell? ⟨gb158, 0, none⟩ = some (.int .i64 a0_0) := ct BK158 0; have hcz11_1 : w10.cell? ⟨gb158, 1, none⟩ = some (.int .i64 a0_1) := ct BK158 1; have hcz11_2 : w10.cell? ⟨gb158, 2, none⟩ = some (.string a0_2) := ct BK158 2; have hcz11_3 : w10.cell? ⟨gb158, 3, none⟩ = some (.int .i64 a0_3) := ct BK158 3; have hcz11_4 : w10.cell? ⟨gb158, 4, none⟩ = some (.slice A0_4 l0_4.length c0_4) := ct BK158 4; have hcz11_5 : w10.cell? ⟨gb158, 5, none⟩ = some (.string a0_5) := ct BK158 5; have hcz11_6 : w10.cell? ⟨gb158, 6, none⟩ = some (.string a0_6) := ct BK158 6; have hcz11_7 : w10.cell? ⟨gb158, 7, none⟩ = some (.int .i64 a0_7) := ct BK158 7; have hcz11_8 : w10.cell? ⟨gb158, 8, none⟩ = some (.slice A0_8 l0_8.length c0_8) := ct BK158 8; have hcz11_9 : w10.cell? ⟨gb158, 9, none⟩ = some (.slice A0_9 l0_9.length c0_9) := ct BK158 9; have hcz11_10 : w10.cell? ⟨gb158, 10, none⟩ = some (.slice A0_10 l0_10.length c0_10) := ct BK158 10; have hfz11_0 := blk_frozen BK158.out 0; have hfz11_1 := blk_frozen BK158.out 1; have hfz11_2 := blk_frozen BK158.out 2; have hfz11_3 := blk_frozen BK158.out 3; have hfz11_4 := blk_frozen BK158.out 4; have hfz11_5 := blk_frozen BK158.out 5; have hfz11_6 := blk_frozen BK158.out 6; have hfz11_7 := blk_frozen BK158.out 7; have hfz11_8 := blk_frozen BK158.out 8; have hfz11_9 := blk_frozen BK158.out 9; have hfz11_10 := blk_frozen BK158.out 10) | ((with_reducible refine gate_callee (f := 21) rfl ?_); refine zC 8 Try.func21 #[.agg #[.int .i64 a0_0, .int .i64 a0_1, .string a0_2, .int .i64 a0_3, .slice A0_4 l0_4.length c0_4, .string a0_5, .string a0_6, .int .i64 a0_7, .slice A0_8 l0_8.length c0_8, .slice A0_9 l0_9.length c0_9, .slice A0_10 l0_10.length c0_10]] ?_; (with_reducible refine (dioramaref03_CheckTrack.calls k a0_0 a0_1 a0_2 a0_3 _ _ l0_4 a0_5 a0_6 a0_7 _ _ l0_8 _ _ l0_9 _ _ l0_10 t159 _ ?side1 ?side2 ?side3 ?side4 ?side5 ?side6 ?side7 ?side8 A3.out).mono ?_); (case side1 => exact cz HR0_4); (case side2 => exact HC0_4.out); (case side3 => exact cz HR0_8); (case side4 => exact HC0_8.out); (case side5 => exact cz HR0_9); (case side6 => exact HC0_9.out); (case side7 => exact cz HR0_10); (case side8 => exact HC0_10.out); rintro e w12 ⟨rfl, hb⟩; refine ⟨_, rfl, ?_⟩; replace BK158 := kb BK158 hb; replace HB := bp hb; clear hb; have hcz13_0 : w12.cell? ⟨gb158, 0, none⟩ = some (.int .i64 a0_0) := ct BK158 0; have hcz13_1 : w12.cell? ⟨gb158, 1, none⟩ = some (.int .i64 a0_1) := ct BK158 1; have hcz13_2 : w12.cell? ⟨gb158, 2, none⟩ = some (.string a0_2) := ct BK158 2; have hcz13_3 : w12.cell? ⟨gb158, 3, none⟩ = some (.int .i64 a0_3) := ct BK158 3; have hcz13_4 : w12.cell? ⟨gb158, 4, none⟩ = some (.slice A0_4 l0_4.length c0_4) := ct BK158 4; have hcz13_5 : w12.cell? ⟨gb158, 5, none⟩ = some (.string a0_5) := ct BK158 5; have hcz13_6 : w12.cell? ⟨gb158, 6, none⟩ = some (.string a0_6) := ct BK158 6; have hcz13_7 : w12.cell? ⟨gb158, 7, none⟩ = some (.int .i64 a0_7) := ct BK158 7; have hcz13_8 : w12.cell? ⟨gb158, 8, none⟩ = some (.slice A0_8 l0_8.length c0_8) := ct BK158 8; have hcz13_9 : w12.cell? ⟨gb158, 9, none⟩ = some (.slice A0_9 l0_9.length c0_9) := ct BK158 9; have hcz13_10 : w12.cell? ⟨gb158, 10, none⟩ = some (.slice A0_10 l0_10.length c0_10) := ct BK158 10; have hfz13_0 := blk_frozen BK158.out 0; have hfz13_1 := blk_frozen BK158.out 1; have hfz13_2 := blk_frozen BK158.out 2; have hfz13_3 := blk_frozen BK158.out 3; have hfz13_4 := blk_frozen BK158.out 4; have hfz13_5 := blk_frozen BK158.out 5; have hfz13_6 := blk_frozen BK158.out 6; have hfz13_7 := blk_frozen BK158.out 7; have hfz13_8 := blk_frozen BK158.out 8; have hfz13_9 := blk_frozen BK158.out 9; have hfz13_10 := blk_frozen BK158.out 10))
    go_ret2
    exact ⟨_, ez, by first | exact Kd.R_nil _ _ _ _ _ | exact Kd.N_nil _ _ _ _ _ | exact Kd.V_nil _ _ _ _ _ | exact Kd.Q_nil _ _ _ _ _ | exact Kd.S_nil _ _ _ _ _, bz⟩
   ·rw [if_neg c9] at H; have c9b0 : decide ((l0_10.length : Int) ≤ a1) = false := decide_eq_false c9; clear c9; obtain ⟨t160, A14, H⟩ := ob H; simp only [Option.some.injEq, Prod.mk.injEq] at H; obtain ⟨rfl, rfl⟩ := H
    go_enter Try.func17, Try.ntmps17
    go_wp2_with (first | ((with_reducible refine gate_dst (N := 2) rfl ?_); refine zB 2 40 #[.int .i64 a0_0, .int .i64 a0_1, .string a0_2, .int .i64 a0_3, .slice A0_4 l0_4.length c0_4, .string a0_5, .string a0_6, .int .i64 a0_7, .slice A0_8 l0_8.length c0_8, .slice A0_9 l0_9.length c0_9, .slice A0_10 l0_10.length c0_10] ?_; intro gb158 hg w15 hbox hb; have BK158 := Aside0.mk hbox; have GW158 := gz hg; have GE158 := gz hg; replace HB := bp hb; clear hb hbox hg; have hcz16_0 : w15.cell? ⟨gb158, 0, none⟩ = some (.int .i64 a0_0) := ct BK158 0; have hcz16_1 : w15.cell? ⟨gb158, 1, none⟩ = some (.int .i64 a0_1) := ct BK158 1; have hcz16_2 : w15.cell? ⟨gb158, 2, none⟩ = some (.string a0_2) := ct BK158 2; have hcz16_3 : w15.cell? ⟨gb158, 3, none⟩ = some (.int .i64 a0_3) := ct BK158 3; have hcz16_4 : w15.cell? ⟨gb158, 4, none⟩ = some (.slice A0_4 l0_4.length c0_4) := ct BK158 4; have hcz16_5 : w15.cell? ⟨gb158, 5, none⟩ = some (.string a0_5) := ct BK158 5; have hcz16_6 : w15.cell? ⟨gb158, 6, none⟩ = some (.string a0_6) := ct BK158 6; have hcz16_7 : w15.cell? ⟨gb158, 7, none⟩ = some (.int .i64 a0_7) := ct BK158 7; have hcz16_8 : w15.cell? ⟨gb158, 8, none⟩ = some (.slice A0_8 l0_8.length c0_8) := ct BK158 8; have hcz16_9 : w15.cell? ⟨gb158, 9, none⟩ = some (.slice A0_9 l0_9.length c0_9) := ct BK158 9; have hcz16_10 : w15.cell? ⟨gb158, 10, none⟩ = some (.slice A0_10 l0_10.length c0_10) := ct BK158 10; have hfz16_0 := blk_frozen BK158.out 0; have hfz16_1 := blk_frozen BK158.out 1; have hfz16_2 := blk_frozen BK158.out 2; have hfz16_3 := blk_frozen BK158.out 3; have hfz16_4 := blk_frozen BK158.out 4; have hfz16_5 := blk_frozen BK158.out 5; have hfz16_6 := blk_frozen BK158.out 6; have hfz16_7 := blk_frozen BK158.out 7; have hfz16_8 := blk_frozen BK158.out 8; have hfz16_9 := blk_frozen BK158.out 9; have hfz16_10 := blk_frozen BK158.out 10) | ((with_reducible refine gate_callee (f := 21) rfl ?_); refine zC 8 Try.func21 #[.agg #[.int .i64 a0_0, .int .i64 a0_1, .string a0_2, .int .i64 a0_3, .slice A0_4 l0_4.length c0_4, .string a0_5, .string a0_6, .int .i64 a0_7, .slice A0_8 l0_8.length c0_8, .slice A0_9 l0_9.length c0_9, .slice A0_10 l0_10.length c0_10]] ?_; (with_reducible refine (dioramaref03_CheckTrack.calls k a0_0 a0_1 a0_2 a0_3 _ _ l0_4 a0_5 a0_6 a0_7 _ _ l0_8 _ _ l0_9 _ _ l0_10 t159 _ ?side1 ?side2 ?side3 ?side4 ?side5 ?side6 ?side7 ?side8 A3.out).mono ?_); (case side1 => exact cz HR0_4); (case side2 => exact HC0_4.out); (case side3 => exact cz HR0_8); (case side4 => exact HC0_8.out); (case side5 => exact cz HR0_9); (case side6 => exact HC0_9.out); (case side7 => exact cz HR0_10); (case side8 => exact HC0_10.out); rintro e w17 ⟨rfl, hb⟩; refine ⟨_, rfl, ?_⟩; replace BK158 := kb BK158 hb; replace HB := bp hb; clear hb; have hcz18_0 : w17.cell? ⟨gb158, 0, none⟩ = some (.int .i64 a0_0) := ct BK158 0; have hcz18_1 : w17.cell? ⟨gb158, 1, none⟩ = some (.int .i64 a0_1) := ct BK158 1; have hcz18_2 : w17.cell? ⟨gb158, 2, none⟩ = some (.string a0_2) := ct BK158 2; have hcz18_3 : w17.cell? ⟨gb158, 3, none⟩ = some (.int .i64 a0_3) := ct BK158 3; have hcz18_4 : w17.cell? ⟨gb158, 4, none⟩ = some (.slice A0_4 l0_4.length c0_4) := ct BK158 4; have hcz18_5 : w17.cell? ⟨gb158, 5, none⟩ = some (.string a0_5) := ct BK158 5; have hcz18_6 : w17.cell? ⟨gb158, 6, none⟩ = some (.string a0_6) := ct BK158 6; have hcz18_7 : w17.cell? ⟨gb158, 7, none⟩ = some (.int .i64 a0_7) := ct BK158 7; have hcz18_8 : w17.cell? ⟨gb158, 8, none⟩ = some (.slice A0_8 l0_8.length c0_8) := ct BK158 8; have hcz18_9 : w17.cell? ⟨gb158, 9, none⟩ = some (.slice A0_9 l0_9.length c0_9) := ct BK158 9; have hcz18_10 : w17.cell? ⟨gb158, 10, none⟩ = some (.slice A0_10 l0_10.length c0_10) := ct BK158 10; have hfz18_0 := blk_frozen BK158.out 0; have hfz18_1 := blk_frozen BK158.out 1; have hfz18_2 := blk_frozen BK158.out 2; have hfz18_3 := blk_frozen BK158.out 3; have hfz18_4 := blk_frozen BK158.out 4; have hfz18_5 := blk_frozen BK158.out 5; have hfz18_6 := blk_frozen BK158.out 6; have hfz18_7 := blk_frozen BK158.out 7; have hfz18_8 := blk_frozen BK158.out 8; have hfz18_9 := blk_frozen BK158.out 9; have hfz18_10 := blk_frozen BK158.out 10) | ((with_reducible refine gate_callee (f := 45) rfl ?_); refine zC 23 Try.func45 #[.agg #[.int .i64 a0_0, .int .i64 a0_1, .string a0_2, .int .i64 a0_3, .slice A0_4 l0_4.length c0_4, .string a0_5, .string a0_6, .int .i64 a0_7, .slice A0_8 l0_8.length c0_8, .slice A0_9 l0_9.length c0_9, .slice A0_10 l0_10.length c0_10], .int .i64 a1] ?_; (with_reducible refine (dioramaref03_needs.calls k a0_0 a0_1 a0_2 a0_3 _ _ l0_4 a0_5 a0_6 a0_7 _ _ l0_8 _ _ l0_9 _ _ l0_10 a1 t160 _ ?side1 ?side2 ?side3 ?side4 ?side5 ?side6 ?side7 ?side8 A14.out).mono ?_); (case side1 => exact cz HR0_4); (case side2 => exact HC0_4.out); (case side3 => exact cz HR0_8); (case side4 => exact HC0_8.out); (case side5 => exact cz HR0_9); (case side6 => exact HC0_9.out); (case side7 => exact cz HR0_10); (case side8 => exact HC0_10.out); rintro e w19 ⟨v161, rfl, ho0, hb⟩; refine ⟨_, rfl, ?_⟩; have HO162 := Aside0.mk (Kd.R_lower ho0 sz); replace BK158 := kb BK158 hb; replace HB := bp hb; clear hb ho0))
    go_ret2
    exact ⟨_, ez, by (with_reducible repeat (first | apply Kd.R_alloc | apply Kd.R_drewN | apply Kd.R_drew)); exact HO162.out, bz⟩
 ·rw [if_neg c4] at H; have c4b0 : (t159 == 0) = false := beq_eq_false_iff_ne.mpr c4; have c4b1 : (t159 != 0) = true := bne_iff_ne.mpr c4; simp only [Option.some.injEq, Prod.mk.injEq] at H; obtain ⟨rfl, rfl⟩ := H
  go_enter Try.func17, Try.ntmps17
  go_wp2_with (first | ((with_reducible refine gate_dst (N := 2) rfl ?_); refine zB 2 40 #[.int .i64 a0_0, .int .i64 a0_1, .string a0_2, .int .i64 a0_3, .slice A0_4 l0_4.length c0_4, .string a0_5, .string a0_6, .int .i64 a0_7, .slice A0_8 l0_8.length c0_8, .slice A0_9 l0_9.length c0_9, .slice A0_10 l0_10.length c0_10] ?_; intro gb158 hg w20 hbox hb; have BK158 := Aside0.mk hbox; have GW158 := gz hg; have GE158 := gz hg; replace HB := bp hb; clear hb hbox hg; have hcz21_0 : w20.cell? ⟨gb158, 0, none⟩ = some (.int .i64 a0_0) := ct BK158 0; have hcz21_1 : w20.cell? ⟨gb158, 1, none⟩ = some (.int .i64 a0_1) := ct BK158 1; have hcz21_2 : w20.cell? ⟨gb158, 2, none⟩ = some (.string a0_2) := ct BK158 2; have hcz21_3 : w20.cell? ⟨gb158, 3, none⟩ = some (.int .i64 a0_3) := ct BK158 3; have hcz21_4 : w20.cell? ⟨gb158, 4, none⟩ = some (.slice A0_4 l0_4.length c0_4) := ct BK158 4; have hcz21_5 : w20.cell? ⟨gb158, 5, none⟩ = some (.string a0_5) := ct BK158 5; have hcz21_6 : w20.cell? ⟨gb158, 6, none⟩ = some (.string a0_6) := ct BK158 6; have hcz21_7 : w20.cell? ⟨gb158, 7, none⟩ = some (.int .i64 a0_7) := ct BK158 7; have hcz21_8 : w20.cell? ⟨gb158, 8, none⟩ = some (.slice A0_8 l0_8.length c0_8) := ct BK158 8; have hcz21_9 : w20.cell? ⟨gb158, 9, none⟩ = some (.slice A0_9 l0_9.length c0_9) := ct BK158 9; have hcz21_10 : w20.cell? ⟨gb158, 10, none⟩ = some (.slice A0_10 l0_10.length c0_10) := ct BK158 10; have hfz21_0 := blk_frozen BK158.out 0; have hfz21_1 := blk_frozen BK158.out 1; have hfz21_2 := blk_frozen BK158.out 2; have hfz21_3 := blk_frozen BK158.out 3; have hfz21_4 := blk_frozen BK158.out 4; have hfz21_5 := blk_frozen BK158.out 5; have hfz21_6 := blk_frozen BK158.out 6; have hfz21_7 := blk_frozen BK158.out 7; have hfz21_8 := blk_frozen BK158.out 8; have hfz21_9 := blk_frozen BK158.out 9; have hfz21_10 := blk_frozen BK158.out 10) | ((with_reducible refine gate_callee (f := 21) rfl ?_); refine zC 8 Try.func21 #[.agg #[.int .i64 a0_0, .int .i64 a0_1, .string a0_2, .int .i64 a0_3, .slice A0_4 l0_4.length c0_4, .string a0_5, .string a0_6, .int .i64 a0_7, .slice A0_8 l0_8.length c0_8, .slice A0_9 l0_9.length c0_9, .slice A0_10 l0_10.length c0_10]] ?_; (with_reducible refine (dioramaref03_CheckTrack.calls k a0_0 a0_1 a0_2 a0_3 _ _ l0_4 a0_5 a0_6 a0_7 _ _ l0_8 _ _ l0_9 _ _ l0_10 t159 _ ?side1 ?side2 ?side3 ?side4 ?side5 ?side6 ?side7 ?side8 A3.out).mono ?_); (case side1 => exact cz HR0_4); (case side2 => exact HC0_4.out); (case side3 => exact cz HR0_8); (case side4 => exact HC0_8.out); (case side5 => exact cz HR0_9); (case side6 => exact HC0_9.out); (case side7 => exact cz HR0_10); (case side8 => exact HC0_10.out); rintro e w22 ⟨rfl, hb⟩; refine ⟨_, rfl, ?_⟩; replace BK158 := kb BK158 hb; replace HB := bp hb; clear hb))
  go_ret2
  exact ⟨_, ez, by first | exact Kd.R_nil _ _ _ _ _ | exact Kd.N_nil _ _ _ _ _ | exact Kd.V_nil _ _ _ _ _ | exact Kd.Q_nil _ _ _ _ _ | exact Kd.S_nil _ _ _ _ _, bz⟩
def dioramaref03_Start.l0 : Nat → Int → Int → Int → ByteArray → Int → List Int → ByteArray → ByteArray → Int → List (S86) → List (S68) → List (S51) → Option (Int × Int)
  | 0, _, _, _, _, _, _, _, _, _, _, _, _ => none
  | k + 1, x8, x171000, x171001, x171002, x171003, x171004, x171005, x171006, x171007, x171008, x171009, x171010 => if x8 ≥ 0 then (if 0 ≤ x8 then (if x8 < (x171010.length : Int) then (if (rd_T51 x171010 x8).f3 = true then (some (x8, 0)) else (dioramaref03_Start.l0 k (wrap64 (x8 - 1)) x171000 x171001 x171002 x171003 x171004 x171005 x171006 x171007 x171008 x171009 x171010)) else (none)) else (none)) else (some (0, 5))
def dioramaref03_Start.f (k : Nat) (a0_0 : Int) (a0_1 : Int) (a0_2 : ByteArray) (a0_3 : Int) (l0_4 : List Int) (a0_5 : ByteArray) (a0_6 : ByteArray) (a0_7 : Int) (l0_8 : List (S86)) (l0_9 : List (S68)) (l0_10 : List (S51)) (a1 : Int) : Option (Int × Int) := (dioramaref03_Needs.f k a0_0 a0_1 a0_2 a0_3 l0_4 a0_5 a0_6 a0_7 l0_8 l0_9 l0_10 a1).bind fun bt171 => (if bt171.2 = 0 then (if 0 < (bt171.1.length : Int) then (dioramaref03_Start.l0 k (rd bt171.1 0) a0_0 a0_1 a0_2 a0_3 l0_4 a0_5 a0_6 a0_7 l0_8 l0_9 l0_10) else (none)) else (some (0, bt171.2)))
set_option maxHeartbeats 8000000 in
set_option maxRecDepth 100000 in
theorem dioramaref03_Start.calls (k : Nat) (a0_0 : Int) (a0_1 : Int) (a0_2 : ByteArray) (a0_3 : Int) (A0_4 : Option Addr) (c0_4 : Nat) (l0_4 : List Int) (a0_5 : ByteArray) (a0_6 : ByteArray) (a0_7 : Int) (A0_8 : Option Addr) (c0_8 : Nat) (l0_8 : List (S86)) (A0_9 : Option Addr) (c0_9 : Nat) (l0_9 : List (S68)) (A0_10 : Option Addr) (c0_10 : Nat) (l0_10 : List (S51)) (a1 : Int) (r1 : Int) (r2 : Int) (w : World) (hr0_4 : Kd.C (Kd.int .u8) w A0_4 l0_4.length l0_4) (hc0_4 : l0_4.length ≤ c0_4) (hr0_8 : Kd.C k86 w A0_8 l0_8.length l0_8) (hc0_8 : l0_8.length ≤ c0_8) (hr0_9 : Kd.C k68 w A0_9 l0_9.length l0_9) (hc0_9 : l0_9.length ≤ c0_9) (hr0_10 : Kd.C k51 w A0_10 l0_10.length l0_10) (hc0_10 : l0_10.length ≤ c0_10) (h : dioramaref03_Start.f k a0_0 a0_1 a0_2 a0_3 l0_4 a0_5 a0_6 a0_7 l0_8 l0_9 l0_10 a1 = some (r1, r2)) :
  Calls Try.prog 19 #[.agg #[.int .i64 a0_0, .int .i64 a0_1, .string a0_2, .int .i64 a0_3, .slice A0_4 l0_4.length c0_4, .string a0_5, .string a0_6, .int .i64 a0_7, .slice A0_8 l0_8.length c0_8, .slice A0_9 l0_9.length c0_9, .slice A0_10 l0_10.length c0_10], .int .i64 a1] w fun e w' => e = .returned (.tuple #[.int .i64 r1, .int .i64 r2]) ∧ Below w.heap.size w w' := by
 have hu40 := Try.underlying40; have HR0_4 := Aside0.mk hr0_4; have HC0_4 := Aside0.mk hc0_4; clear hr0_4 hc0_4; have HR0_8 := Aside0.mk hr0_8; have HC0_8 := Aside0.mk hc0_8; clear hr0_8 hc0_8; have HR0_9 := Aside0.mk hr0_9; have HC0_9 := Aside0.mk hc0_9; clear hr0_9 hc0_9; have HR0_10 := Aside0.mk hr0_10; have HC0_10 := Aside0.mk hc0_10; clear hr0_10 hc0_10; have HB := Aside0.mk (Below.refl w.heap.size w); have H : ((dioramaref03_Needs.f k a0_0 a0_1 a0_2 a0_3 l0_4 a0_5 a0_6 a0_7 l0_8 l0_9 l0_10 a1).bind fun bt171 => (if bt171.2 = 0 then (if 0 < (bt171.1.length : Int) then (dioramaref03_Start.l0 k (rd bt171.1 0) a0_0 a0_1 a0_2 a0_3 l0_4 a0_5 a0_6 a0_7 l0_8 l0_9 l0_10) else (none)) else (some (0, bt171.2)))) = some (r1, r2) := h
 clear h; obtain ⟨⟨t171, t174⟩, A3, H⟩ := ob H
 (try dsimp only at H)
 by_cases c4 : t174 = 0
 ·rw [if_pos c4] at H; have c4b0 : (t174 == 0) = true := beq_iff_eq.mpr c4; have c4b1 : (t174 != 0) = false := bne_eq_false_iff_eq.mpr c4; clear c4
  by_cases c5 : 0 < (t171.length : Int)
  ·rw [if_pos c5] at H; have c5b0 : decide (0 < (t171.length : Int)) = true := decide_eq_true c5; have c5b1 : decide (0 < t171.length) = true := decide_eq_true (by omega); clear c5; have H' := Aside0.mk H; clear H
   go_enter Try.func19, Try.ntmps19
   go_wp2_with (first | ((with_reducible refine gate_dst (N := 2) rfl ?_); refine zB 2 40 #[.int .i64 a0_0, .int .i64 a0_1, .string a0_2, .int .i64 a0_3, .slice A0_4 l0_4.length c0_4, .string a0_5, .string a0_6, .int .i64 a0_7, .slice A0_8 l0_8.length c0_8, .slice A0_9 l0_9.length c0_9, .slice A0_10 l0_10.length c0_10] ?_; intro gb170 hg w6 hbox hb; have BK170 := Aside0.mk hbox; have GW170 := gz hg; have GE170 := gz hg; replace HB := bp hb; clear hb hbox hg; have hcz7_0 : w6.cell? ⟨gb170, 0, none⟩ = some (.int .i64 a0_0) := ct BK170 0; have hcz7_1 : w6.cell? ⟨gb170, 1, none⟩ = some (.int .i64 a0_1) := ct BK170 1; have hcz7_2 : w6.cell? ⟨gb170, 2, none⟩ = some (.string a0_2) := ct BK170 2; have hcz7_3 : w6.cell? ⟨gb170, 3, none⟩ = some (.int .i64 a0_3) := ct BK170 3; have hcz7_4 : w6.cell? ⟨gb170, 4, none⟩ = some (.slice A0_4 l0_4.length c0_4) := ct BK170 4; have hcz7_5 : w6.cell? ⟨gb170, 5, none⟩ = some (.string a0_5) := ct BK170 5; have hcz7_6 : w6.cell? ⟨gb170, 6, none⟩ = some (.string a0_6) := ct BK170 6; have hcz7_7 : w6.cell? ⟨gb170, 7, none⟩ = some (.int .i64 a0_7) := ct BK170 7; have hcz7_8 : w6.cell? ⟨gb170, 8, none⟩ = some (.slice A0_8 l0_8.length c0_8) := ct BK170 8; have hcz7_9 : w6.cell? ⟨gb170, 9, none⟩ = some (.slice A0_9 l0_9.length c0_9) := ct BK170 9; have hcz7_10 : w6.cell? ⟨gb170, 10, none⟩ = some (.slice A0_10 l0_10.length c0_10) := ct BK170 10; have hfz7_0 := blk_frozen BK170.out 0; have hfz7_1 := blk_frozen BK170.out 1; have hfz7_2 := blk_frozen BK170.out 2; have hfz7_3 := blk_frozen BK170.out 3; have hfz7_4 := blk_frozen BK170.out 4; have hfz7_5 := blk_frozen BK170.out 5; have hfz7_6 := blk_frozen BK170.out 6; have hfz7_7 := blk_frozen BK170.out 7; have hfz7_8 := blk_frozen BK170.out 8; have hfz7_9 := blk_frozen BK170.out 9; have hfz7_10 := blk_frozen BK170.out 10) | ((with_reducible refine gate_callee (f := 17) rfl ?_); refine zC 12 Try.func17 #[.agg #[.int .i64 a0_0, .int .i64 a0_1, .string a0_2, .int .i64 a0_3, .slice A0_4 l0_4.length c0_4, .string a0_5, .string a0_6, .int .i64 a0_7, .slice A0_8 l0_8.length c0_8, .slice A0_9 l0_9.length c0_9, .slice A0_10 l0_10.length c0_10], .int .i64 a1] ?_; (with_reducible refine (dioramaref03_Needs.calls k a0_0 a0_1 a0_2 a0_3 _ _ l0_4 a0_5 a0_6 a0_7 _ _ l0_8 _ _ l0_9 _ _ l0_10 a1 t171 t174 _ ?side1 ?side2 ?side3 ?side4 ?side5 ?side6 ?side7 ?side8 A3.out).mono ?_); (case side1 => exact cz HR0_4); (case side2 => exact HC0_4.out); (case side3 => exact cz HR0_8); (case side4 => exact HC0_8.out); (case side5 => exact cz HR0_9); (case side6 => exact HC0_9.out); (case side7 => exact cz HR0_10); (case side8 => exact HC0_10.out); rintro e w8 ⟨v172, rfl, ho0, hb⟩; refine ⟨_, rfl, ?_⟩; have HO173 := Aside0.mk (Kd.R_lower ho0 sz); replace BK170 := kb BK170 hb; replace HB := bp hb; clear hb ho0; obtain ⟨Ao9, co9, eo9⟩ := Kd.R_slice HO173.out; subst eo9; have p175 : 0 ≤ (0 : Int) := (by omega); have q175 : 0 < (t171.length : Int) := od; obtain ⟨ad175, e175, hx175_0⟩ := Kd.at_int (Kd.R_reads' HO173.out).2.2 0 p175 q175; cases e175; have qi175 : (0 < t171.length) = True := eq_true (by omega); (try rw [show ((0 : Int)).toNat = 0 from rfl] at hx175_0); (try rw [Addr.add_zero'] at hx175_0); replace p175 := eq_true p175; replace q175 := eq_true q175))
   go_loopg [8] k (fun kq v8 w' => ∃ (x8_1 : Int), v8 = .int .i64 x8_1 ∧ Aside0 (dioramaref03_Start.l0 kq x8_1 a0_0 a0_1 a0_2 a0_3 l0_4 a0_5 a0_6 a0_7 l0_8 l0_9 l0_10 = some (r1, r2)) ∧ Aside0 (kq ≤ k) ∧ Aside0 (w'.heap[gb170]? = some (.cells #[.int .i64 a0_0, .int .i64 a0_1, .string a0_2, .int .i64 a0_3, (.slice A0_4 l0_4.length c0_4), .string a0_5, .string a0_6, .int .i64 a0_7, (.slice A0_8 l0_8.length c0_8), (.slice A0_9 l0_9.length c0_9), (.slice A0_10 l0_10.length c0_10)] 40 (0, 0))) ∧ Aside0 (Below w.heap.size w w'))
   case atStart => exact ⟨(rd t171 0), jz, H', ⟨Nat.le_refl _⟩, ⟨kz⟩, ⟨bz⟩⟩
   case round =>
    clear H'
    try clear c1
    try clear p1
    try clear q1
    try clear hx1
    try clear qi1
    try clear p2
    try clear c4
    try clear c4b0
    try clear c4b1
    try clear c5
    try clear c5b0
    try clear c5b1
    try clear hcz7_0
    try clear hcz7_1
    try clear hcz7_10
    try clear hcz7_2
    try clear hcz7_3
    try clear hcz7_4
    try clear hcz7_5
    try clear hcz7_6
    try clear hcz7_7
    try clear hcz7_8
    try clear hcz7_9
    try clear hfz7_0
    try clear hfz7_1
    try clear hfz7_10
    try clear hfz7_2
    try clear hfz7_3
    try clear hfz7_4
    try clear hfz7_5
    try clear hfz7_6
    try clear hfz7_7
    try clear hfz7_8
    try clear hfz7_9
    try clear hx175_0
    try clear p175
    try clear q175
    obtain ⟨x8_1, rfl, HA, HK1, BK170, HB⟩ := hrel
    cases gk with
    | zero => exact absurd HA.out (by simp [dioramaref03_Start.l0])
    | succ k1 =>
     have H := HA.out; clear HA; simp only [dioramaref03_Start.l0] at H
     by_cases c10 : x8_1 ≥ 0
     ·rw [if_pos c10] at H; have c10b0 : decide (0 ≤ x8_1) = true := decide_eq_true c10; clear c10
      by_cases c11 : 0 ≤ x8_1
      ·rw [if_pos c11] at H; have c11b0 : decide (0 ≤ x8_1) = true := decide_eq_true c11; clear c11
       by_cases c12 : x8_1 < (l0_10.length : Int)
       ·rw [if_pos c12] at H; have c12b0 : decide (x8_1 < (l0_10.length : Int)) = true := decide_eq_true c12; clear c12; obtain ⟨bq13, hbq13⟩ : ∃ b_ : Bool, b_ = ((rd_T51 l0_10 x8_1).f3) := ⟨_, rfl⟩; replace H : (if bq13 = true then (some (x8_1, 0)) else (dioramaref03_Start.l0 k1 (wrap64 (x8_1 - 1)) a0_0 a0_1 a0_2 a0_3 l0_4 a0_5 a0_6 a0_7 l0_8 l0_9 l0_10)) = some (r1, r2) := by rw [← hbq13] at H; exact H
        have Nbq13 := Aside0.mk hbq13; clear hbq13
        by_cases c14 : bq13 = true
        ·subst c14; rw [if_pos rfl] at H; simp only [Option.some.injEq, Prod.mk.injEq] at H; obtain ⟨rfl, rfl⟩ := H; have hcz15_0 : wr.cell? ⟨gb170, 0, none⟩ = some (.int .i64 a0_0) := ct BK170 0; have hcz15_1 : wr.cell? ⟨gb170, 1, none⟩ = some (.int .i64 a0_1) := ct BK170 1; have hcz15_2 : wr.cell? ⟨gb170, 2, none⟩ = some (.string a0_2) := ct BK170 2; have hcz15_3 : wr.cell? ⟨gb170, 3, none⟩ = some (.int .i64 a0_3) := ct BK170 3; have hcz15_4 : wr.cell? ⟨gb170, 4, none⟩ = some (.slice A0_4 l0_4.length c0_4) := ct BK170 4; have hcz15_5 : wr.cell? ⟨gb170, 5, none⟩ = some (.string a0_5) := ct BK170 5; have hcz15_6 : wr.cell? ⟨gb170, 6, none⟩ = some (.string a0_6) := ct BK170 6; have hcz15_7 : wr.cell? ⟨gb170, 7, none⟩ = some (.int .i64 a0_7) := ct BK170 7; have hcz15_8 : wr.cell? ⟨gb170, 8, none⟩ = some (.slice A0_8 l0_8.length c0_8) := ct BK170 8; have hcz15_9 : wr.cell? ⟨gb170, 9, none⟩ = some (.slice A0_9 l0_9.length c0_9) := ct BK170 9; have hcz15_10 : wr.cell? ⟨gb170, 10, none⟩ = some (.slice A0_10 l0_10.length c0_10) := ct BK170 10; have hfz15_0 := blk_frozen BK170.out 0; have hfz15_1 := blk_frozen BK170.out 1; have hfz15_2 := blk_frozen BK170.out 2; have hfz15_3 := blk_frozen BK170.out 3; have hfz15_4 := blk_frozen BK170.out 4; have hfz15_5 := blk_frozen BK170.out 5; have hfz15_6 := blk_frozen BK170.out 6; have hfz15_7 := blk_frozen BK170.out 7; have hfz15_8 := blk_frozen BK170.out 8; have hfz15_9 := blk_frozen BK170.out 9; have hfz15_10 := blk_frozen BK170.out 10; have p176 : 0 ≤ (x8_1 : Int) := od; have q176 : x8_1 < (l0_10.length : Int) := od; obtain ⟨ad176, A176_4, c176_4, A176_5, c176_5, e176, hx176_0, hx176_1, hx176_2, hx176_3, hx176_4, hx176_5, hl176_4, hi176_4, hl176_5, hi176_5⟩ := at_T51 HR0_10.out x8_1 p176 q176
         (try rw [← Nbq13.out] at hx176_3)
         cases e176
         replace hx176_0 := cl HB hx176_0; replace hx176_1 := cl HB hx176_1; replace hx176_2 := cl HB hx176_2; replace hx176_3 := cl HB hx176_3; replace hx176_4 := cl HB hx176_4; replace hx176_5 := cl HB hx176_5; have HR176_4 := Aside0.mk hi176_4; have HC176_4 := Aside0.mk hl176_4; clear hi176_4 hl176_4; have HR176_5 := Aside0.mk hi176_5; have HC176_5 := Aside0.mk hl176_5; clear hi176_5 hl176_5; replace p176 := eq_true p176; replace q176 := eq_true q176
         go_wp2
         go_ret2
         exact ⟨ez, bz⟩
        ·obtain rfl := bf c14; rw [if_neg (show ¬ (false = true) by decide)] at H; have H' := Aside0.mk H; clear H; have hcz16_0 : wr.cell? ⟨gb170, 0, none⟩ = some (.int .i64 a0_0) := ct BK170 0; have hcz16_1 : wr.cell? ⟨gb170, 1, none⟩ = some (.int .i64 a0_1) := ct BK170 1; have hcz16_2 : wr.cell? ⟨gb170, 2, none⟩ = some (.string a0_2) := ct BK170 2; have hcz16_3 : wr.cell? ⟨gb170, 3, none⟩ = some (.int .i64 a0_3) := ct BK170 3; have hcz16_4 : wr.cell? ⟨gb170, 4, none⟩ = some (.slice A0_4 l0_4.length c0_4) := ct BK170 4; have hcz16_5 : wr.cell? ⟨gb170, 5, none⟩ = some (.string a0_5) := ct BK170 5; have hcz16_6 : wr.cell? ⟨gb170, 6, none⟩ = some (.string a0_6) := ct BK170 6; have hcz16_7 : wr.cell? ⟨gb170, 7, none⟩ = some (.int .i64 a0_7) := ct BK170 7; have hcz16_8 : wr.cell? ⟨gb170, 8, none⟩ = some (.slice A0_8 l0_8.length c0_8) := ct BK170 8; have hcz16_9 : wr.cell? ⟨gb170, 9, none⟩ = some (.slice A0_9 l0_9.length c0_9) := ct BK170 9; have hcz16_10 : wr.cell? ⟨gb170, 10, none⟩ = some (.slice A0_10 l0_10.length c0_10) := ct BK170 10; have hfz16_0 := blk_frozen BK170.out 0; have hfz16_1 := blk_frozen BK170.out 1; have hfz16_2 := blk_frozen BK170.out 2; have hfz16_3 := blk_frozen BK170.out 3; have hfz16_4 := blk_frozen BK170.out 4; have hfz16_5 := blk_frozen BK170.out 5; have hfz16_6 := blk_frozen BK170.out 6; have hfz16_7 := blk_frozen BK170.out 7; have hfz16_8 := blk_frozen BK170.out 8; have hfz16_9 := blk_frozen BK170.out 9; have hfz16_10 := blk_frozen BK170.out 10; have p176 : 0 ≤ (x8_1 : Int) := od; have q176 : x8_1 < (l0_10.length : Int) := od; obtain ⟨ad176, A176_4, c176_4, A176_5, c176_5, e176, hx176_0, hx176_1, hx176_2, hx176_3, hx176_4, hx176_5, hl176_4, hi176_4, hl176_5, hi176_5⟩ := at_T51 HR0_10.out x8_1 p176 q176
         (try rw [← Nbq13.out] at hx176_3)
         cases e176
         replace hx176_0 := cl HB hx176_0; replace hx176_1 := cl HB hx176_1; replace hx176_2 := cl HB hx176_2; replace hx176_3 := cl HB hx176_3; replace hx176_4 := cl HB hx176_4; replace hx176_5 := cl HB hx176_5; have HR176_4 := Aside0.mk hi176_4; have HC176_4 := Aside0.mk hl176_4; clear hi176_4 hl176_4; have HR176_5 := Aside0.mk hi176_5; have HC176_5 := Aside0.mk hl176_5; clear hi176_5 hl176_5; replace p176 := eq_true p176; replace q176 := eq_true q176
         go_wp2
         go_roundg k1
         case measure => have := HK1.out; omega
         case rel => exact ⟨(wrap64 (x8_1 - 1)), jz, H', ⟨by have := HK1.out; omega⟩, ⟨kz⟩, ⟨bz⟩⟩
       ·rw [if_neg c12] at H
        exact absurd H (by simp)
      ·rw [if_neg c11] at H
       exact absurd H (by simp)
     ·rw [if_neg c10] at H; have c10b0 : decide (0 ≤ x8_1) = false := decide_eq_false c10; clear c10; simp only [Option.some.injEq, Prod.mk.injEq] at H; obtain ⟨rfl, rfl⟩ := H
      go_wp2
      go_ret2
      exact ⟨ez, bz⟩
  ·rw [if_neg c5] at H
   exact absurd H (by simp)
 ·rw [if_neg c4] at H; have c4b0 : (t174 == 0) = false := beq_eq_false_iff_ne.mpr c4; have c4b1 : (t174 != 0) = true := bne_iff_ne.mpr c4; simp only [Option.some.injEq, Prod.mk.injEq] at H; obtain ⟨rfl, rfl⟩ := H
  go_enter Try.func19, Try.ntmps19
  go_wp2_with (first | ((with_reducible refine gate_dst (N := 2) rfl ?_); refine zB 2 40 #[.int .i64 a0_0, .int .i64 a0_1, .string a0_2, .int .i64 a0_3, .slice A0_4 l0_4.length c0_4, .string a0_5, .string a0_6, .int .i64 a0_7, .slice A0_8 l0_8.length c0_8, .slice A0_9 l0_9.length c0_9, .slice A0_10 l0_10.length c0_10] ?_; intro gb170 hg w17 hbox hb; have BK170 := Aside0.mk hbox; have GW170 := gz hg; have GE170 := gz hg; replace HB := bp hb; clear hb hbox hg; have hcz18_0 : w17.cell? ⟨gb170, 0, none⟩ = some (.int .i64 a0_0) := ct BK170 0; have hcz18_1 : w17.cell? ⟨gb170, 1, none⟩ = some (.int .i64 a0_1) := ct BK170 1; have hcz18_2 : w17.cell? ⟨gb170, 2, none⟩ = some (.string a0_2) := ct BK170 2; have hcz18_3 : w17.cell? ⟨gb170, 3, none⟩ = some (.int .i64 a0_3) := ct BK170 3; have hcz18_4 : w17.cell? ⟨gb170, 4, none⟩ = some (.slice A0_4 l0_4.length c0_4) := ct BK170 4; have hcz18_5 : w17.cell? ⟨gb170, 5, none⟩ = some (.string a0_5) := ct BK170 5; have hcz18_6 : w17.cell? ⟨gb170, 6, none⟩ = some (.string a0_6) := ct BK170 6; have hcz18_7 : w17.cell? ⟨gb170, 7, none⟩ = some (.int .i64 a0_7) := ct BK170 7; have hcz18_8 : w17.cell? ⟨gb170, 8, none⟩ = some (.slice A0_8 l0_8.length c0_8) := ct BK170 8; have hcz18_9 : w17.cell? ⟨gb170, 9, none⟩ = some (.slice A0_9 l0_9.length c0_9) := ct BK170 9; have hcz18_10 : w17.cell? ⟨gb170, 10, none⟩ = some (.slice A0_10 l0_10.length c0_10) := ct BK170 10; have hfz18_0 := blk_frozen BK170.out 0; have hfz18_1 := blk_frozen BK170.out 1; have hfz18_2 := blk_frozen BK170.out 2; have hfz18_3 := blk_frozen BK170.out 3; have hfz18_4 := blk_frozen BK170.out 4; have hfz18_5 := blk_frozen BK170.out 5; have hfz18_6 := blk_frozen BK170.out 6; have hfz18_7 := blk_frozen BK170.out 7; have hfz18_8 := blk_frozen BK170.out 8; have hfz18_9 := blk_frozen BK170.out 9; have hfz18_10 := blk_frozen BK170.out 10) | ((with_reducible refine gate_callee (f := 17) rfl ?_); refine zC 12 Try.func17 #[.agg #[.int .i64 a0_0, .int .i64 a0_1, .string a0_2, .int .i64 a0_3, .slice A0_4 l0_4.length c0_4, .string a0_5, .string a0_6, .int .i64 a0_7, .slice A0_8 l0_8.length c0_8, .slice A0_9 l0_9.length c0_9, .slice A0_10 l0_10.length c0_10], .int .i64 a1] ?_; (with_reducible refine (dioramaref03_Needs.calls k a0_0 a0_1 a0_2 a0_3 _ _ l0_4 a0_5 a0_6 a0_7 _ _ l0_8 _ _ l0_9 _ _ l0_10 a1 t171 t174 _ ?side1 ?side2 ?side3 ?side4 ?side5 ?side6 ?side7 ?side8 A3.out).mono ?_); (case side1 => exact cz HR0_4); (case side2 => exact HC0_4.out); (case side3 => exact cz HR0_8); (case side4 => exact HC0_8.out); (case side5 => exact cz HR0_9); (case side6 => exact HC0_9.out); (case side7 => exact cz HR0_10); (case side8 => exact HC0_10.out); rintro e w19 ⟨v172, rfl, ho0, hb⟩; refine ⟨_, rfl, ?_⟩; have HO173 := Aside0.mk (Kd.R_lower ho0 sz); replace BK170 := kb BK170 hb; replace HB := bp hb; clear hb ho0))
  go_ret2
  exact ⟨ez, bz⟩
def dioramaref00_EqInts.l0 : Nat → List Int → List Int → Int → Option (Bool)
  | 0, _, _, _ => none
  | k + 1, x0, x1, x5 => if x5 < (x0.length : Int) then (if 0 ≤ x5 then (if x5 < (x1.length : Int) then (if (rd x0 x5) = (rd x1 x5) then (dioramaref00_EqInts.l0 k x0 x1 (wrap64 (x5 + 1))) else (some false)) else (none)) else (none)) else (some true)
def dioramaref00_EqInts.f (k : Nat) (l0 : List Int) (l1 : List Int) : Option (Bool) := if (l0.length : Int) = (l1.length : Int) then (dioramaref00_EqInts.l0 k l0 l1 0) else (some false)
set_option maxHeartbeats 8000000 in
set_option maxRecDepth 100000 in
theorem dioramaref00_EqInts.calls (k : Nat) (A0 : Option Addr) (c0 : Nat) (l0 : List Int) (A1 : Option Addr) (c1 : Nat) (l1 : List Int) (r : Bool) (w : World) (hr0 : Kd.C (Kd.int .i64) w A0 l0.length l0) (hc0 : l0.length ≤ c0) (hr1 : Kd.C (Kd.int .i64) w A1 l1.length l1) (hc1 : l1.length ≤ c1) (h : dioramaref00_EqInts.f k l0 l1 = some r) :
  Calls Try.prog 20 #[.slice A0 l0.length c0, .slice A1 l1.length c1] w fun e w' => e = .returned (.bool r) ∧ Drawn0 w w' := by
 have HR0 := Aside0.mk hr0; have HC0 := Aside0.mk hc0; clear hr0 hc0; have HR1 := Aside0.mk hr1; have HC1 := Aside0.mk hc1; clear hr1 hc1; have H : (if (l0.length : Int) = (l1.length : Int) then (dioramaref00_EqInts.l0 k l0 l1 0) else (some false)) = some r := h; clear h
 by_cases c3 : (l0.length : Int) = (l1.length : Int)
 ·rw [if_pos c3] at H; have c3b0 : ((l0.length : Int) == (l1.length : Int)) = true := beq_iff_eq.mpr c3; have c3b1 : ((l0.length : Int) != (l1.length : Int)) = false := bne_eq_false_iff_eq.mpr c3; have c3b2 : (l0.length == l1.length) = true := by first | simpa using c3 | (simp at c3 ⊢; omega)
  clear c3; have H' := Aside0.mk H; clear H
  go_enter Try.func20, Try.ntmps20
  go_wp2
  repeat (go_quiet (fail); try go_wp2)
  go_loopg [5] k (fun kq v5 w' => ∃ (x5_1 : Int), v5 = .int .i64 x5_1 ∧ Aside0 (dioramaref00_EqInts.l0 kq l0 l1 x5_1 = some r) ∧ Aside0 (kq ≤ k) ∧ Drawn0 w w')
  case atStart => exact ⟨(0), jz, H', ⟨Nat.le_refl _⟩, by repeat (first | exact Drawn0.refl _ | apply Drawn0.step)⟩
  case round =>
   clear H'
   try clear c1
   try clear c2
   try clear p2
   try clear c3
   try clear c3b0
   try clear c3b1
   try clear c3b2
   obtain ⟨x5_1, rfl, HA, HK1, ⟨m1, rfl⟩⟩ := hrel
   cases gk with
   | zero => exact absurd HA.out (by simp [dioramaref00_EqInts.l0])
   | succ k1 =>
    have H := HA.out; clear HA; simp only [dioramaref00_EqInts.l0] at H
    by_cases c4 : x5_1 < (l0.length : Int)
    ·rw [if_pos c4] at H; have c4b0 : decide (x5_1 < (l0.length : Int)) = true := decide_eq_true c4; clear c4
     by_cases c5 : 0 ≤ x5_1
     ·rw [if_pos c5] at H; have c5b0 : decide (0 ≤ x5_1) = true := decide_eq_true c5; clear c5
      by_cases c6 : x5_1 < (l1.length : Int)
      ·rw [if_pos c6] at H; have c6b0 : decide (x5_1 < (l1.length : Int)) = true := decide_eq_true c6; clear c6
       by_cases c7 : (rd l0 x5_1) = (rd l1 x5_1)
       ·rw [if_pos c7] at H; have c7b0 : ((rd l0 x5_1) == (rd l1 x5_1)) = true := beq_iff_eq.mpr c7; have c7b1 : ((rd l0 x5_1) != (rd l1 x5_1)) = false := bne_eq_false_iff_eq.mpr c7; clear c7; have H' := Aside0.mk H; clear H; have p177 : 0 ≤ (x5_1 : Int) := od; have q177 : x5_1 < (l0.length : Int) := od; obtain ⟨ad177, e177, hx177_0⟩ := Kd.at_int HR0.out x5_1 p177 q177
        cases e177
        replace p177 := eq_true p177; replace q177 := eq_true q177; have p178 : 0 ≤ (x5_1 : Int) := od; have q178 : x5_1 < (l1.length : Int) := od; obtain ⟨ad178, e178, hx178_0⟩ := Kd.at_int HR1.out x5_1 p178 q178
        cases e178
        replace p178 := eq_true p178; replace q178 := eq_true q178
        go_wp2
        repeat (go_quiet (fail); try go_wp2)
        go_roundg k1
        case measure => have := HK1.out; omega
        case rel => exact ⟨(wrap64 (x5_1 + 1)), jz, H', ⟨by have := HK1.out; omega⟩, by repeat (first | exact Drawn0.refl _ | apply Drawn0.step)⟩
       ·rw [if_neg c7] at H; have c7b0 : ((rd l0 x5_1) == (rd l1 x5_1)) = false := beq_eq_false_iff_ne.mpr c7; have c7b1 : ((rd l0 x5_1) != (rd l1 x5_1)) = true := bne_iff_ne.mpr c7; obtain rfl := Option.some.inj H; have p177 : 0 ≤ (x5_1 : Int) := od; have q177 : x5_1 < (l0.length : Int) := od; obtain ⟨ad177, e177, hx177_0⟩ := Kd.at_int HR0.out x5_1 p177 q177
        cases e177
        replace p177 := eq_true p177; replace q177 := eq_true q177; have p178 : 0 ≤ (x5_1 : Int) := od; have q178 : x5_1 < (l1.length : Int) := od; obtain ⟨ad178, e178, hx178_0⟩ := Kd.at_int HR1.out x5_1 p178 q178
        cases e178
        replace p178 := eq_true p178; replace q178 := eq_true q178
        go_wp2
        repeat (go_quiet (fail); try go_wp2)
        go_ret
        exact ⟨by first | rfl | (simp; done) | (simp [*]; done), by repeat (first | exact Drawn0.refl _ | apply Drawn0.step)⟩
      ·rw [if_neg c6] at H
       exact absurd H (by simp)
     ·rw [if_neg c5] at H
      exact absurd H (by simp)
    ·rw [if_neg c4] at H; have c4b0 : decide (x5_1 < (l0.length : Int)) = false := decide_eq_false c4; clear c4; obtain rfl := Option.some.inj H
     go_wp2
     repeat (go_quiet (fail); try go_wp2)
     go_ret
     exact ⟨by first | rfl | (simp; done) | (simp [*]; done), by repeat (first | exact Drawn0.refl _ | apply Drawn0.step)⟩
 ·rw [if_neg c3] at H; have c3b0 : ((l0.length : Int) == (l1.length : Int)) = false := beq_eq_false_iff_ne.mpr c3; have c3b1 : ((l0.length : Int) != (l1.length : Int)) = true := bne_iff_ne.mpr c3; have c3b2 : (l0.length == l1.length) = false := by first | simpa using c3 | (simp at c3 ⊢; omega)
  obtain rfl := Option.some.inj H
  go_enter Try.func20, Try.ntmps20
  go_wp2
  repeat (go_quiet (fail); try go_wp2)
  go_ret
  exact ⟨by first | rfl | (simp; done) | (simp [*]; done), by repeat (first | exact Drawn0.refl _ | apply Drawn0.step)⟩
def model_letters.l0 : Nat → ByteArray → Int → Bool → Int → Int → Option (Bool)
  | 0, _, _, _, _, _ => none
  | k + 1, x0, x1, x2, x11, x12 => if x12 < x11 then (if 0 ≤ x12 then (if x12 < (x0.size : Int) then (if (bt x0 x12) ≥ 97 then (if (bt x0 x12) ≥ 48 then (if ((bt x0 x12) ≤ 122) then (model_letters.l0 k x0 x1 x2 x11 (wrap64 (x12 + 1))) else (if (bt x0 x12) ≤ 57 then (if x2 = true then (model_letters.l0 k x0 x1 x2 x11 (wrap64 (x12 + 1))) else (some false)) else (some false))) else (if ((bt x0 x12) ≤ 122) then (model_letters.l0 k x0 x1 x2 x11 (wrap64 (x12 + 1))) else (some false))) else (if (bt x0 x12) ≥ 48 then (if (bt x0 x12) ≤ 57 then (if x2 = true then (model_letters.l0 k x0 x1 x2 x11 (wrap64 (x12 + 1))) else (some false)) else (some false)) else (some false))) else (none)) else (none)) else (some ((x0.size : Int) == x1))
def model_letters.f (k : Nat) (a0 : ByteArray) (a1 : Int) (a2 : Bool) : Option (Bool) := model_letters.l0 k a0 a1 a2 (a0.size : Int) 0
set_option maxHeartbeats 8000000 in
set_option maxRecDepth 100000 in
theorem model_letters.calls (k : Nat) (a0 : ByteArray) (a1 : Int) (a2 : Bool) (r : Bool) (w : World) (h : model_letters.f k a0 a1 a2 = some r) :
  Calls Try.prog 50 #[.string a0, .int .i64 a1, .bool a2] w fun e w' => e = .returned (.bool r) ∧ Drawn0 w w' := by
 have H : (model_letters.l0 k a0 a1 a2 (a0.size : Int) 0) = some r := h; clear h; have H' := Aside0.mk H; clear H
 go_enter Try.func50, Try.ntmps50
 go_wp2
 go_loopg [12] k (fun kq v12 w' => ∃ (x12_1 : Int), v12 = .int .i64 x12_1 ∧ Aside0 (model_letters.l0 kq a0 a1 a2 (a0.size : Int) x12_1 = some r) ∧ Aside0 (kq ≤ k) ∧ Drawn0 w w')
 case atStart => exact ⟨(0), jz, H', ⟨Nat.le_refl _⟩, by repeat (first | exact Drawn0.refl _ | apply Drawn0.step)⟩
 case round =>
  clear H'
  try clear p2
  obtain ⟨x12_1, rfl, HA, HK1, ⟨m1, rfl⟩⟩ := hrel
  cases gk with
  | zero => exact absurd HA.out (by simp [model_letters.l0])
  | succ k1 =>
   have H := HA.out; clear HA; simp only [model_letters.l0] at H
   by_cases c4 : x12_1 < (a0.size : Int)
   ·rw [if_pos c4] at H; have c4b0 : decide (x12_1 < (a0.size : Int)) = true := decide_eq_true c4; clear c4
    by_cases c5 : 0 ≤ x12_1
    ·rw [if_pos c5] at H; have c5b0 : decide (0 ≤ x12_1) = true := decide_eq_true c5; clear c5
     by_cases c6 : x12_1 < (a0.size : Int)
     ·rw [if_pos c6] at H; have c6b0 : decide (x12_1 < (a0.size : Int)) = true := decide_eq_true c6; clear c6
      by_cases c8 : (bt a0 x12_1) ≥ 97
      ·rw [if_pos c8] at H; have c8b0 : decide (97 ≤ (bt a0 x12_1)) = true := decide_eq_true c8; clear c8
       by_cases c11 : (bt a0 x12_1) ≥ 48
       ·rw [if_pos c11] at H; have c11b0 : decide (48 ≤ (bt a0 x12_1)) = true := decide_eq_true c11; clear c11
        by_cases c13 : ((bt a0 x12_1) ≤ 122)
        ·rw [if_pos c13] at H; have c13b0 : decide ((bt a0 x12_1) ≤ 122) = true := decide_eq_true c13; clear c13; have H' := Aside0.mk H; clear H; have p7 : 0 ≤ (x12_1 : Int) := od; have q7 : x12_1 < (a0.size : Int) := od; have hx7 := bt_at a0 x12_1; replace p7 := eq_true p7; replace q7 := eq_true q7; have p9 : 0 ≤ (x12_1 : Int) := od; have q9 : x12_1 < (a0.size : Int) := od; have hx9 := bt_at a0 x12_1; replace p9 := eq_true p9; replace q9 := eq_true q9; have p10 : 0 ≤ (x12_1 : Int) := od; have q10 : x12_1 < (a0.size : Int) := od; have hx10 := bt_at a0 x12_1; replace p10 := eq_true p10; replace q10 := eq_true q10; have p12 : 0 ≤ (x12_1 : Int) := od; have q12 : x12_1 < (a0.size : Int) := od; have hx12 := bt_at a0 x12_1; replace p12 := eq_true p12; replace q12 := eq_true q12
         go_wp2
         go_roundg k1
         case measure => have := HK1.out; omega
         case rel => exact ⟨(wrap64 (x12_1 + 1)), jz, H', ⟨by have := HK1.out; omega⟩, by repeat (first | exact Drawn0.refl _ | apply Drawn0.step)⟩
        ·rw [if_neg c13] at H; have c13b0 : decide ((bt a0 x12_1) ≤ 122) = false := decide_eq_false c13; clear c13
         by_cases c14 : (bt a0 x12_1) ≤ 57
         ·rw [if_pos c14] at H; have c14b0 : decide ((bt a0 x12_1) ≤ 57) = true := decide_eq_true c14; clear c14
          by_cases c15 : a2 = true
          ·subst c15; rw [if_pos rfl] at H; have H' := Aside0.mk H; clear H; have p7 : 0 ≤ (x12_1 : Int) := od; have q7 : x12_1 < (a0.size : Int) := od; have hx7 := bt_at a0 x12_1; replace p7 := eq_true p7; replace q7 := eq_true q7; have p9 : 0 ≤ (x12_1 : Int) := od; have q9 : x12_1 < (a0.size : Int) := od; have hx9 := bt_at a0 x12_1; replace p9 := eq_true p9; replace q9 := eq_true q9; have p10 : 0 ≤ (x12_1 : Int) := od; have q10 : x12_1 < (a0.size : Int) := od; have hx10 := bt_at a0 x12_1; replace p10 := eq_true p10; replace q10 := eq_true q10; have p12 : 0 ≤ (x12_1 : Int) := od; have q12 : x12_1 < (a0.size : Int) := od; have hx12 := bt_at a0 x12_1; replace p12 := eq_true p12; replace q12 := eq_true q12
           go_wp2
           go_roundg k1
           case measure => have := HK1.out; omega
           case rel => exact ⟨(wrap64 (x12_1 + 1)), jz, H', ⟨by have := HK1.out; omega⟩, by repeat (first | exact Drawn0.refl _ | apply Drawn0.step)⟩
          ·obtain rfl := bf c15; rw [if_neg (show ¬ (false = true) by decide)] at H; obtain rfl := Option.some.inj H; have p7 : 0 ≤ (x12_1 : Int) := od; have q7 : x12_1 < (a0.size : Int) := od; have hx7 := bt_at a0 x12_1; replace p7 := eq_true p7; replace q7 := eq_true q7; have p9 : 0 ≤ (x12_1 : Int) := od; have q9 : x12_1 < (a0.size : Int) := od; have hx9 := bt_at a0 x12_1; replace p9 := eq_true p9; replace q9 := eq_true q9; have p10 : 0 ≤ (x12_1 : Int) := od; have q10 : x12_1 < (a0.size : Int) := od; have hx10 := bt_at a0 x12_1; replace p10 := eq_true p10; replace q10 := eq_true q10; have p12 : 0 ≤ (x12_1 : Int) := od; have q12 : x12_1 < (a0.size : Int) := od; have hx12 := bt_at a0 x12_1; replace p12 := eq_true p12; replace q12 := eq_true q12
           go_wp2
           go_ret
           exact ⟨by first | rfl | (simp; done) | (simp [*]; done), by repeat (first | exact Drawn0.refl _ | apply Drawn0.step)⟩
         ·rw [if_neg c14] at H; have c14b0 : decide ((bt a0 x12_1) ≤ 57) = false := decide_eq_false c14; clear c14; obtain rfl := Option.some.inj H; have p7 : 0 ≤ (x12_1 : Int) := od; have q7 : x12_1 < (a0.size : Int) := od; have hx7 := bt_at a0 x12_1; replace p7 := eq_true p7; replace q7 := eq_true q7; have p9 : 0 ≤ (x12_1 : Int) := od; have q9 : x12_1 < (a0.size : Int) := od; have hx9 := bt_at a0 x12_1; replace p9 := eq_true p9; replace q9 := eq_true q9; have p10 : 0 ≤ (x12_1 : Int) := od; have q10 : x12_1 < (a0.size : Int) := od; have hx10 := bt_at a0 x12_1; replace p10 := eq_true p10; replace q10 := eq_true q10; have p12 : 0 ≤ (x12_1 : Int) := od; have q12 : x12_1 < (a0.size : Int) := od; have hx12 := bt_at a0 x12_1; replace p12 := eq_true p12; replace q12 := eq_true q12
          go_wp2
          go_ret
          exact ⟨by first | rfl | (simp; done) | (simp [*]; done), by repeat (first | exact Drawn0.refl _ | apply Drawn0.step)⟩
       ·rw [if_neg c11] at H; have c11b0 : decide (48 ≤ (bt a0 x12_1)) = false := decide_eq_false c11; clear c11
        by_cases c16 : ((bt a0 x12_1) ≤ 122)
        ·rw [if_pos c16] at H; have c16b0 : decide ((bt a0 x12_1) ≤ 122) = true := decide_eq_true c16; clear c16; have H' := Aside0.mk H; clear H; have p7 : 0 ≤ (x12_1 : Int) := od; have q7 : x12_1 < (a0.size : Int) := od; have hx7 := bt_at a0 x12_1; replace p7 := eq_true p7; replace q7 := eq_true q7; have p9 : 0 ≤ (x12_1 : Int) := od; have q9 : x12_1 < (a0.size : Int) := od; have hx9 := bt_at a0 x12_1; replace p9 := eq_true p9; replace q9 := eq_true q9; have p10 : 0 ≤ (x12_1 : Int) := od; have q10 : x12_1 < (a0.size : Int) := od; have hx10 := bt_at a0 x12_1; replace p10 := eq_true p10; replace q10 := eq_true q10
         go_wp2
         go_roundg k1
         case measure => have := HK1.out; omega
         case rel => exact ⟨(wrap64 (x12_1 + 1)), jz, H', ⟨by have := HK1.out; omega⟩, by repeat (first | exact Drawn0.refl _ | apply Drawn0.step)⟩
        ·rw [if_neg c16] at H; have c16b0 : decide ((bt a0 x12_1) ≤ 122) = false := decide_eq_false c16; clear c16; obtain rfl := Option.some.inj H; have p7 : 0 ≤ (x12_1 : Int) := od; have q7 : x12_1 < (a0.size : Int) := od; have hx7 := bt_at a0 x12_1; replace p7 := eq_true p7; replace q7 := eq_true q7; have p9 : 0 ≤ (x12_1 : Int) := od; have q9 : x12_1 < (a0.size : Int) := od; have hx9 := bt_at a0 x12_1; replace p9 := eq_true p9; replace q9 := eq_true q9; have p10 : 0 ≤ (x12_1 : Int) := od; have q10 : x12_1 < (a0.size : Int) := od; have hx10 := bt_at a0 x12_1; replace p10 := eq_true p10; replace q10 := eq_true q10
         go_wp2
         go_ret
         exact ⟨by first | rfl | (simp; done) | (simp [*]; done), by repeat (first | exact Drawn0.refl _ | apply Drawn0.step)⟩
      ·rw [if_neg c8] at H; have c8b0 : decide (97 ≤ (bt a0 x12_1)) = false := decide_eq_false c8; clear c8
       by_cases c18 : (bt a0 x12_1) ≥ 48
       ·rw [if_pos c18] at H; have c18b0 : decide (48 ≤ (bt a0 x12_1)) = true := decide_eq_true c18; clear c18
        by_cases c20 : (bt a0 x12_1) ≤ 57
        ·rw [if_pos c20] at H; have c20b0 : decide ((bt a0 x12_1) ≤ 57) = true := decide_eq_true c20; clear c20
         by_cases c21 : a2 = true
         ·subst c21; rw [if_pos rfl] at H; have H' := Aside0.mk H; clear H; have p7 : 0 ≤ (x12_1 : Int) := od; have q7 : x12_1 < (a0.size : Int) := od; have hx7 := bt_at a0 x12_1; replace p7 := eq_true p7; replace q7 := eq_true q7; have p17 : 0 ≤ (x12_1 : Int) := od; have q17 : x12_1 < (a0.size : Int) := od; have hx17 := bt_at a0 x12_1; replace p17 := eq_true p17; replace q17 := eq_true q17; have p19 : 0 ≤ (x12_1 : Int) := od; have q19 : x12_1 < (a0.size : Int) := od; have hx19 := bt_at a0 x12_1; replace p19 := eq_true p19; replace q19 := eq_true q19
          go_wp2
          go_roundg k1
          case measure => have := HK1.out; omega
          case rel => exact ⟨(wrap64 (x12_1 + 1)), jz, H', ⟨by have := HK1.out; omega⟩, by repeat (first | exact Drawn0.refl _ | apply Drawn0.step)⟩
         ·obtain rfl := bf c21; rw [if_neg (show ¬ (false = true) by decide)] at H; obtain rfl := Option.some.inj H; have p7 : 0 ≤ (x12_1 : Int) := od; have q7 : x12_1 < (a0.size : Int) := od; have hx7 := bt_at a0 x12_1; replace p7 := eq_true p7; replace q7 := eq_true q7; have p17 : 0 ≤ (x12_1 : Int) := od; have q17 : x12_1 < (a0.size : Int) := od; have hx17 := bt_at a0 x12_1; replace p17 := eq_true p17; replace q17 := eq_true q17; have p19 : 0 ≤ (x12_1 : Int) := od; have q19 : x12_1 < (a0.size : Int) := od; have hx19 := bt_at a0 x12_1; replace p19 := eq_true p19; replace q19 := eq_true q19
          go_wp2
          go_ret
          exact ⟨by first | rfl | (simp; done) | (simp [*]; done), by repeat (first | exact Drawn0.refl _ | apply Drawn0.step)⟩
        ·rw [if_neg c20] at H; have c20b0 : decide ((bt a0 x12_1) ≤ 57) = false := decide_eq_false c20; clear c20; obtain rfl := Option.some.inj H; have p7 : 0 ≤ (x12_1 : Int) := od; have q7 : x12_1 < (a0.size : Int) := od; have hx7 := bt_at a0 x12_1; replace p7 := eq_true p7; replace q7 := eq_true q7; have p17 : 0 ≤ (x12_1 : Int) := od; have q17 : x12_1 < (a0.size : Int) := od; have hx17 := bt_at a0 x12_1; replace p17 := eq_true p17; replace q17 := eq_true q17; have p19 : 0 ≤ (x12_1 : Int) := od; have q19 : x12_1 < (a0.size : Int) := od; have hx19 := bt_at a0 x12_1; replace p19 := eq_true p19; replace q19 := eq_true q19
         go_wp2
         go_ret
         exact ⟨by first | rfl | (simp; done) | (simp [*]; done), by repeat (first | exact Drawn0.refl _ | apply Drawn0.step)⟩
       ·rw [if_neg c18] at H; have c18b0 : decide (48 ≤ (bt a0 x12_1)) = false := decide_eq_false c18; clear c18; obtain rfl := Option.some.inj H; have p7 : 0 ≤ (x12_1 : Int) := od; have q7 : x12_1 < (a0.size : Int) := od; have hx7 := bt_at a0 x12_1; replace p7 := eq_true p7; replace q7 := eq_true q7; have p17 : 0 ≤ (x12_1 : Int) := od; have q17 : x12_1 < (a0.size : Int) := od; have hx17 := bt_at a0 x12_1; replace p17 := eq_true p17; replace q17 := eq_true q17
        go_wp2
        go_ret
        exact ⟨by first | rfl | (simp; done) | (simp [*]; done), by repeat (first | exact Drawn0.refl _ | apply Drawn0.step)⟩
     ·rw [if_neg c6] at H
      exact absurd H (by simp)
    ·rw [if_neg c5] at H
     exact absurd H (by simp)
   ·rw [if_neg c4] at H; have c4b0 : decide (x12_1 < (a0.size : Int)) = false := decide_eq_false c4; clear c4; obtain rfl := Option.some.inj H
    go_wp2
    go_ret
    exact ⟨by first | rfl | (simp; done) | (simp [*]; done), by repeat (first | exact Drawn0.refl _ | apply Drawn0.step)⟩
def model_letters.Pure : Prop := ∀ (a0 : ByteArray) (a1 : Int) (a2 : Bool), a0.size ≤ 140737488351232 → (Lit.int .i64 a1).wf = true → ∃ k, model_letters.f k a0 a1 a2 = some true
theorem model_letters.walk (P : model_letters.Pure) (a0 : ByteArray) (a1 : Int) (a2 : Bool) (w : World) (w0 : a0.size ≤ 140737488351232) (w1 : (Lit.int .i64 a1).wf = true) :
  Calls Try.prog 50 #[.string a0, .int .i64 a1, .bool a2] w fun e w' => e = .returned (.bool true) ∧ Below w.heap.size w w' := by
 obtain ⟨k, h⟩ := P a0 a1 a2 w0 w1; refine (model_letters.calls k a0 a1 a2 true w h).mono ?_; rintro e w' ⟨rfl, hd⟩
 exact ⟨rfl, hd.below⟩
def model_isName.l0 : Nat → ByteArray → Int → Int → Option (Bool)
  | 0, _, _, _ => none
  | k + 1, x0, x8, x9 => if x9 < x8 then (if 0 ≤ x9 then (if x9 < (x0.size : Int) then (if (bt x0 x9) < 32 then (some false) else (if (bt x0 x9) > 126 then (some false) else (model_isName.l0 k x0 x8 (wrap64 (x9 + 1))))) else (none)) else (none)) else (some true)
def model_isName.f (k : Nat) (a0 : ByteArray) : Option (Bool) := if (a0.size : Int) > 40 then (some false) else (model_isName.l0 k a0 (a0.size : Int) 0)
set_option maxHeartbeats 8000000 in
set_option maxRecDepth 100000 in
theorem model_isName.calls (k : Nat) (a0 : ByteArray) (r : Bool) (w : World) (h : model_isName.f k a0 = some r) :
  Calls Try.prog 31 #[.string a0] w fun e w' => e = .returned (.bool r) ∧ Drawn0 w w' := by
 have H : (if (a0.size : Int) > 40 then (some false) else (model_isName.l0 k a0 (a0.size : Int) 0)) = some r := h; clear h
 by_cases c2 : (a0.size : Int) > 40
 ·rw [if_pos c2] at H; have c2b0 : decide (40 < (a0.size : Int)) = true := decide_eq_true c2; have c2b1 : decide (40 < a0.size) = true := decide_eq_true (by omega); clear c2; obtain rfl := Option.some.inj H
  go_enter Try.func31, Try.ntmps31
  go_wp2
  go_ret
  exact ⟨by first | rfl | (simp; done) | (simp [*]; done), by repeat (first | exact Drawn0.refl _ | apply Drawn0.step)⟩
 ·rw [if_neg c2] at H; have c2b0 : decide (40 < (a0.size : Int)) = false := decide_eq_false c2; have c2b1 : decide (40 < a0.size) = false := decide_eq_false (by omega); clear c2; have H' := Aside0.mk H; clear H
  go_enter Try.func31, Try.ntmps31
  go_wp2
  go_loopg [9] k (fun kq v9 w' => ∃ (x9_1 : Int), v9 = .int .i64 x9_1 ∧ Aside0 (model_isName.l0 kq a0 (a0.size : Int) x9_1 = some r) ∧ Aside0 (kq ≤ k) ∧ Drawn0 w w')
  case atStart => exact ⟨(0), jz, H', ⟨Nat.le_refl _⟩, by repeat (first | exact Drawn0.refl _ | apply Drawn0.step)⟩
  case round =>
   clear H'
   try clear c2
   try clear c2b0
   try clear c2b1
   try clear p2
   obtain ⟨x9_1, rfl, HA, HK1, ⟨m1, rfl⟩⟩ := hrel
   cases gk with
   | zero => exact absurd HA.out (by simp [model_isName.l0])
   | succ k1 =>
    have H := HA.out; clear HA; simp only [model_isName.l0] at H
    by_cases c3 : x9_1 < (a0.size : Int)
    ·rw [if_pos c3] at H; have c3b0 : decide (x9_1 < (a0.size : Int)) = true := decide_eq_true c3; clear c3
     by_cases c4 : 0 ≤ x9_1
     ·rw [if_pos c4] at H; have c4b0 : decide (0 ≤ x9_1) = true := decide_eq_true c4; clear c4
      by_cases c5 : x9_1 < (a0.size : Int)
      ·rw [if_pos c5] at H; have c5b0 : decide (x9_1 < (a0.size : Int)) = true := decide_eq_true c5; clear c5
       by_cases c7 : (bt a0 x9_1) < 32
       ·rw [if_pos c7] at H; have c7b0 : decide ((bt a0 x9_1) < 32) = true := decide_eq_true c7; clear c7; obtain rfl := Option.some.inj H; have p6 : 0 ≤ (x9_1 : Int) := od; have q6 : x9_1 < (a0.size : Int) := od; have hx6 := bt_at a0 x9_1; replace p6 := eq_true p6; replace q6 := eq_true q6
        go_wp2
        go_ret
        exact ⟨by first | rfl | (simp; done) | (simp [*]; done), by repeat (first | exact Drawn0.refl _ | apply Drawn0.step)⟩
       ·rw [if_neg c7] at H; have c7b0 : decide ((bt a0 x9_1) < 32) = false := decide_eq_false c7; clear c7
        by_cases c9 : (bt a0 x9_1) > 126
        ·rw [if_pos c9] at H; have c9b0 : decide (126 < (bt a0 x9_1)) = true := decide_eq_true c9; clear c9; obtain rfl := Option.some.inj H; have p6 : 0 ≤ (x9_1 : Int) := od; have q6 : x9_1 < (a0.size : Int) := od; have hx6 := bt_at a0 x9_1; replace p6 := eq_true p6; replace q6 := eq_true q6; have p8 : 0 ≤ (x9_1 : Int) := od; have q8 : x9_1 < (a0.size : Int) := od; have hx8 := bt_at a0 x9_1; replace p8 := eq_true p8; replace q8 := eq_true q8
         go_wp2
         go_ret
         exact ⟨by first | rfl | (simp; done) | (simp [*]; done), by repeat (first | exact Drawn0.refl _ | apply Drawn0.step)⟩
        ·rw [if_neg c9] at H; have c9b0 : decide (126 < (bt a0 x9_1)) = false := decide_eq_false c9; clear c9; have H' := Aside0.mk H; clear H; have p6 : 0 ≤ (x9_1 : Int) := od; have q6 : x9_1 < (a0.size : Int) := od; have hx6 := bt_at a0 x9_1; replace p6 := eq_true p6; replace q6 := eq_true q6; have p8 : 0 ≤ (x9_1 : Int) := od; have q8 : x9_1 < (a0.size : Int) := od; have hx8 := bt_at a0 x9_1; replace p8 := eq_true p8; replace q8 := eq_true q8
         go_wp2
         go_roundg k1
         case measure => have := HK1.out; omega
         case rel => exact ⟨(wrap64 (x9_1 + 1)), jz, H', ⟨by have := HK1.out; omega⟩, by repeat (first | exact Drawn0.refl _ | apply Drawn0.step)⟩
      ·rw [if_neg c5] at H
       exact absurd H (by simp)
     ·rw [if_neg c4] at H
      exact absurd H (by simp)
    ·rw [if_neg c3] at H; have c3b0 : decide (x9_1 < (a0.size : Int)) = false := decide_eq_false c3; clear c3; obtain rfl := Option.some.inj H
     go_wp2
     go_ret
     exact ⟨by first | rfl | (simp; done) | (simp [*]; done), by repeat (first | exact Drawn0.refl _ | apply Drawn0.step)⟩
def model_isName.Pure : Prop := ∀ (a0 : ByteArray), a0.size ≤ 140737488351232 → ∃ k, model_isName.f k a0 = some true
theorem model_isName.walk (P : model_isName.Pure) (a0 : ByteArray) (w : World) (w0 : a0.size ≤ 140737488351232) :
  Calls Try.prog 31 #[.string a0] w fun e w' => e = .returned (.bool true) ∧ Below w.heap.size w w' := by
 obtain ⟨k, h⟩ := P a0 w0; refine (model_isName.calls k a0 true w h).mono ?_; rintro e w' ⟨rfl, hd⟩
 exact ⟨rfl, hd.below⟩
def model_within.f (a0 : Int) (a1 : Int) (a2 : Int) : Option (Bool) := if a0 ≥ a1 then (some (decide (a0 ≤ a2))) else (some false)
set_option maxHeartbeats 8000000 in
set_option maxRecDepth 100000 in
theorem model_within.calls (a0 : Int) (a1 : Int) (a2 : Int) (r : Bool) (w : World) (h : model_within.f a0 a1 a2 = some r) :
  Calls Try.prog 30 #[.int .i64 a0, .int .i64 a1, .int .i64 a2] w fun e w' => e = .returned (.bool r) ∧ Drawn0 w w' := by
 have H : (if a0 ≥ a1 then (some (decide (a0 ≤ a2))) else (some false)) = some r := h; clear h
 by_cases c4 : a0 ≥ a1
 ·rw [if_pos c4] at H; have c4b0 : decide (a1 ≤ a0) = true := decide_eq_true c4; clear c4; obtain rfl := Option.some.inj H
  go_enter Try.func30, Try.ntmps30
  go_wp2
  go_ret
  exact ⟨by first | rfl | (simp; done) | (simp [*]; done), by repeat (first | exact Drawn0.refl _ | apply Drawn0.step)⟩
 ·rw [if_neg c4] at H; have c4b0 : decide (a1 ≤ a0) = false := decide_eq_false c4; clear c4; obtain rfl := Option.some.inj H
  go_enter Try.func30, Try.ntmps30
  go_wp2
  go_ret
  exact ⟨by first | rfl | (simp; done) | (simp [*]; done), by repeat (first | exact Drawn0.refl _ | apply Drawn0.step)⟩
def model_tick.f (a0 : Int) : Option (Bool) := (model_within.f a0 (-1099511627776) 1099511627776).bind fun t219 => (some t219)
set_option maxHeartbeats 8000000 in
set_option maxRecDepth 100000 in
theorem model_tick.calls (a0 : Int) (r : Bool) (w : World) (h : model_tick.f a0 = some r) :
  Calls Try.prog 65 #[.int .i64 a0] w fun e w' => e = .returned (.bool r) ∧ Drawn0 w w' := by
 have H : ((model_within.f a0 (-1099511627776) 1099511627776).bind fun t219 => (some t219)) = some r := h
 clear h; obtain ⟨t219, A2, H⟩ := ob H; obtain rfl := Option.some.inj H
 go_enter Try.func65, Try.ntmps65
 go_wp2_with (first | ((with_reducible refine gate_callee (f := 30) rfl ?_); refine zC 4 Try.func30 #[.int .i64 a0, .int .i64 (-1099511627776), .int .i64 1099511627776] ?_; (with_reducible refine (model_within.calls a0 (-1099511627776) 1099511627776 t219 _ A2.out).mono ?_); rintro e w' ⟨rfl, ⟨nd, rfl⟩⟩; refine ⟨_, rfl, ?_⟩))
 go_ret
 exact ⟨by first | rfl | (simp; done) | (simp [*]; done), by repeat (first | exact Drawn0.refl _ | apply Drawn0.step)⟩
def model_tick.Pure : Prop := ∀ (a0 : Int), (Lit.int .i64 a0).wf = true → model_tick.f a0 = some true
theorem model_tick.walk (P : model_tick.Pure) (a0 : Int) (w : World) (w0 : (Lit.int .i64 a0).wf = true) :
  Calls Try.prog 65 #[.int .i64 a0] w fun e w' => e = .returned (.bool true) ∧ Below w.heap.size w w' := by
 have h := P a0 w0; refine (model_tick.calls a0 true w h).mono ?_; rintro e w' ⟨rfl, hd⟩
 exact ⟨rfl, hd.below⟩
mutual
def model_checkSample.j3 : Nat → Int → Int → Int → Int → Bool → List Int → List Int → Option (Int)
  | 0, _, _, _, _, _, _, _ => none
  | k + 1, x1, x222000, x222001, x222002, x222003, x222004, x222005 => model_checkSample.l0 k x1 (-1) x222004 (x222004.length : Int) 0
def model_checkSample.l0 : Nat → Int → Int → List Int → Int → Int → Option (Int)
  | 0, _, _, _, _, _ => none
  | k + 1, x1, x7, x63, x64, x65 => if x65 < x64 then (if 0 ≤ x65 then (if x65 < (x63.length : Int) then (if (rd x63 x65) ≤ x7 then (some 32) else (if (rd x63 x65) ≥ x1 then (some 32) else (model_checkSample.l0 k x1 (rd x63 x65) x63 x64 (wrap64 (x65 + 1))))) else (none)) else (none)) else (some 0)
def model_checkSample.j0 : Nat → Int → Bool → Int → Int → ByteArray → Int → List Int → ByteArray → ByteArray → Int → List (S86) → List (S68) → List (S51) → Int → Int → Int → Bool → List Int → List Int → Option (Int)
  | 0, _, _, _, _, _, _, _, _, _, _, _, _, _, _, _, _, _, _, _ => none
  | k + 1, x1, x10, x221000, x221001, x221002, x221003, x221004, x221005, x221006, x221007, x221008, x221009, x221010, x222000, x222001, x222002, x222003, x222004, x222005 => if x10 = true then (some 1) else (if (x222005.length : Int) > 65536 then (model_checkSample.j1 k x1 true x221000 x221001 x221002 x221003 x221004 x221005 x221006 x221007 x221008 x221009 x221010 x222000 x222001 x222002 x222003 x222004 x222005) else (model_checkSample.j1 k x1 (decide ((x222004.length : Int) > 4)) x221000 x221001 x221002 x221003 x221004 x221005 x221006 x221007 x221008 x221009 x221010 x222000 x222001 x222002 x222003 x222004 x222005))
def model_checkSample.j1 : Nat → Int → Bool → Int → Int → ByteArray → Int → List Int → ByteArray → ByteArray → Int → List (S86) → List (S68) → List (S51) → Int → Int → Int → Bool → List Int → List Int → Option (Int)
  | 0, _, _, _, _, _, _, _, _, _, _, _, _, _, _, _, _, _, _, _ => none
  | k + 1, x1, x27, x221000, x221001, x221002, x221003, x221004, x221005, x221006, x221007, x221008, x221009, x221010, x222000, x222001, x222002, x222003, x222004, x222005 => if x27 = true then (some 2) else (if x1 > 0 then (if 0 ≤ (wrap64 (x1 - 1)) then (if (wrap64 (x1 - 1)) < (x221010.length : Int) then (model_checkSample.j2 k x1 (decide (x222000 ≤ ((rd_T51 x221010 (wrap64 (x1 - 1))).f0))) x222000 x222001 x222002 x222003 x222004 x222005) else (none)) else (none)) else (model_checkSample.j2 k x1 false x222000 x222001 x222002 x222003 x222004 x222005))
def model_checkSample.j2 : Nat → Int → Bool → Int → Int → Int → Bool → List Int → List Int → Option (Int)
  | 0, _, _, _, _, _, _, _, _ => none
  | k + 1, x1, x38, x222000, x222001, x222002, x222003, x222004, x222005 => if x38 = true then (some 31) else (if x222003 = true then (if (x222004.length : Int) > 0 then (some 32) else (model_checkSample.j3 k x1 x222000 x222001 x222002 x222003 x222004 x222005)) else (model_checkSample.j3 k x1 x222000 x222001 x222002 x222003 x222004 x222005))
end
def model_checkSample.f (k : Nat) (a0_0 : Int) (a0_1 : Int) (a0_2 : ByteArray) (a0_3 : Int) (l0_4 : List Int) (a0_5 : ByteArray) (a0_6 : ByteArray) (a0_7 : Int) (l0_8 : List (S86)) (l0_9 : List (S68)) (l0_10 : List (S51)) (a1 : Int) (a2_0 : Int) (a2_1 : Int) (a2_2 : Int) (a2_3 : Bool) (l2_4 : List Int) (l2_5 : List Int) : Option (Int) := (model_tick.f a2_0).bind fun t222 => (if t222 = true then ((model_tick.f a2_1).bind fun t223 => (if t223 = true then ((model_within.f a2_2 0 1099511627776).bind fun t224 => (model_checkSample.j0 k a1 (!t224) a0_0 a0_1 a0_2 a0_3 l0_4 a0_5 a0_6 a0_7 l0_8 l0_9 l0_10 a2_0 a2_1 a2_2 a2_3 l2_4 l2_5)) else (model_checkSample.j0 k a1 true a0_0 a0_1 a0_2 a0_3 l0_4 a0_5 a0_6 a0_7 l0_8 l0_9 l0_10 a2_0 a2_1 a2_2 a2_3 l2_4 l2_5))) else (model_checkSample.j0 k a1 true a0_0 a0_1 a0_2 a0_3 l0_4 a0_5 a0_6 a0_7 l0_8 l0_9 l0_10 a2_0 a2_1 a2_2 a2_3 l2_4 l2_5))
set_option maxHeartbeats 8000000 in
set_option maxRecDepth 100000 in
theorem model_checkSample.calls (k : Nat) (a0_0 : Int) (a0_1 : Int) (a0_2 : ByteArray) (a0_3 : Int) (A0_4 : Option Addr) (c0_4 : Nat) (l0_4 : List Int) (a0_5 : ByteArray) (a0_6 : ByteArray) (a0_7 : Int) (A0_8 : Option Addr) (c0_8 : Nat) (l0_8 : List (S86)) (A0_9 : Option Addr) (c0_9 : Nat) (l0_9 : List (S68)) (A0_10 : Option Addr) (c0_10 : Nat) (l0_10 : List (S51)) (a1 : Int) (a2_0 : Int) (a2_1 : Int) (a2_2 : Int) (a2_3 : Bool) (A2_4 : Option Addr) (c2_4 : Nat) (l2_4 : List Int) (A2_5 : Option Addr) (c2_5 : Nat) (l2_5 : List Int) (r : Int) (w : World) (hr0_4 : Kd.C (Kd.int .u8) w A0_4 l0_4.length l0_4) (hc0_4 : l0_4.length ≤ c0_4) (hr0_8 : Kd.C k86 w A0_8 l0_8.length l0_8) (hc0_8 : l0_8.length ≤ c0_8) (hr0_9 : Kd.C k68 w A0_9 l0_9.length l0_9) (hc0_9 : l0_9.length ≤ c0_9) (hr0_10 : Kd.C k51 w A0_10 l0_10.length l0_10) (hc0_10 : l0_10.length ≤ c0_10) (hr2_4 : Kd.C (Kd.int .i64) w A2_4 l2_4.length l2_4) (hc2_4 : l2_4.length ≤ c2_4) (hr2_5 : Kd.C (Kd.int .u8) w A2_5 l2_5.length l2_5) (hc2_5 : l2_5.length ≤ c2_5) (h : model_checkSample.f k a0_0 a0_1 a0_2 a0_3 l0_4 a0_5 a0_6 a0_7 l0_8 l0_9 l0_10 a1 a2_0 a2_1 a2_2 a2_3 l2_4 l2_5 = some r) :
  Calls Try.prog 51 #[.agg #[.int .i64 a0_0, .int .i64 a0_1, .string a0_2, .int .i64 a0_3, .slice A0_4 l0_4.length c0_4, .string a0_5, .string a0_6, .int .i64 a0_7, .slice A0_8 l0_8.length c0_8, .slice A0_9 l0_9.length c0_9, .slice A0_10 l0_10.length c0_10], .int .i64 a1, .agg #[.int .i64 a2_0, .int .i64 a2_1, .int .i64 a2_2, .bool a2_3, .slice A2_4 l2_4.length c2_4, .slice A2_5 l2_5.length c2_5]] w fun e w' => e = .returned (.int .i64 r) ∧ Below w.heap.size w w' := by
 have hu40 := Try.underlying40; have hu51 := Try.underlying51; have HR0_4 := Aside0.mk hr0_4; have HC0_4 := Aside0.mk hc0_4; clear hr0_4 hc0_4; have HR0_8 := Aside0.mk hr0_8; have HC0_8 := Aside0.mk hc0_8; clear hr0_8 hc0_8; have HR0_9 := Aside0.mk hr0_9; have HC0_9 := Aside0.mk hc0_9; clear hr0_9 hc0_9; have HR0_10 := Aside0.mk hr0_10; have HC0_10 := Aside0.mk hc0_10; clear hr0_10 hc0_10; have HR2_4 := Aside0.mk hr2_4; have HC2_4 := Aside0.mk hc2_4; clear hr2_4 hc2_4; have HR2_5 := Aside0.mk hr2_5; have HC2_5 := Aside0.mk hc2_5; clear hr2_5 hc2_5; have HB := Aside0.mk (Below.refl w.heap.size w); have H : ((model_tick.f a2_0).bind fun t222 => (if t222 = true then ((model_tick.f a2_1).bind fun t223 => (if t223 = true then ((model_within.f a2_2 0 1099511627776).bind fun t224 => (model_checkSample.j0 k a1 (!t224) a0_0 a0_1 a0_2 a0_3 l0_4 a0_5 a0_6 a0_7 l0_8 l0_9 l0_10 a2_0 a2_1 a2_2 a2_3 l2_4 l2_5)) else (model_checkSample.j0 k a1 true a0_0 a0_1 a0_2 a0_3 l0_4 a0_5 a0_6 a0_7 l0_8 l0_9 l0_10 a2_0 a2_1 a2_2 a2_3 l2_4 l2_5))) else (model_checkSample.j0 k a1 true a0_0 a0_1 a0_2 a0_3 l0_4 a0_5 a0_6 a0_7 l0_8 l0_9 l0_10 a2_0 a2_1 a2_2 a2_3 l2_4 l2_5))) = some r := h
 clear h; have HC4 := Aside0.mk H; clear H
 go_enter Try.func51, Try.ntmps51
 go_upto_block 0 with (first | ((with_reducible refine gate_dst (N := 3) rfl ?_); refine zB 3 40 #[.int .i64 a0_0, .int .i64 a0_1, .string a0_2, .int .i64 a0_3, .slice A0_4 l0_4.length c0_4, .string a0_5, .string a0_6, .int .i64 a0_7, .slice A0_8 l0_8.length c0_8, .slice A0_9 l0_9.length c0_9, .slice A0_10 l0_10.length c0_10] ?_; intro gb220 hg w5 hbox hb; have BK220 := Aside0.mk hbox; have GW220 := gz hg; have GE220 := gz hg; replace HB := bp hb; clear hb hbox hg) | ((with_reducible refine gate_dst (N := 5) rfl ?_); refine zB 5 51 #[.int .i64 a2_0, .int .i64 a2_1, .int .i64 a2_2, .bool a2_3, .slice A2_4 l2_4.length c2_4, .slice A2_5 l2_5.length c2_5] ?_; intro gb221 hg w6 hbox hb; have BK221 := Aside0.mk hbox; have GW221 := gz hg; have GE221 := gz hg; replace HB := bp hb; have NB220_221 := Aside0.mk ((by rw [hg]; exact Nat.ne_of_lt (bl BK220) : gb220 ≠ gb221)); have NB221_220 := Aside0.mk ((by rw [hg]; exact Nat.ne_of_gt (bl BK220) : gb221 ≠ gb220)); replace BK220 := kb BK220 hb; clear hb hbox hg))
 repeat (go_quiet (first | ((with_reducible refine gate_dst (N := 3) rfl ?_); refine zB 3 40 #[.int .i64 a0_0, .int .i64 a0_1, .string a0_2, .int .i64 a0_3, .slice A0_4 l0_4.length c0_4, .string a0_5, .string a0_6, .int .i64 a0_7, .slice A0_8 l0_8.length c0_8, .slice A0_9 l0_9.length c0_9, .slice A0_10 l0_10.length c0_10] ?_; intro gb220 hg w5 hbox hb; have BK220 := Aside0.mk hbox; have GW220 := gz hg; have GE220 := gz hg; replace HB := bp hb; clear hb hbox hg) | ((with_reducible refine gate_dst (N := 5) rfl ?_); refine zB 5 51 #[.int .i64 a2_0, .int .i64 a2_1, .int .i64 a2_2, .bool a2_3, .slice A2_4 l2_4.length c2_4, .slice A2_5 l2_5.length c2_5] ?_; intro gb221 hg w6 hbox hb; have n0_ := kb BK220 hb; have n1_ := bp hb; have n2_ := Aside0.mk hbox; have n3_ := gz hg; have n4_ := gz hg; have n5_ := Aside0.mk ((by rw [hg]; exact Nat.ne_of_lt (bl BK220) : gb220 ≠ gb221)); have n6_ := Aside0.mk ((by rw [hg]; exact Nat.ne_of_gt (bl BK220) : gb221 ≠ gb220)); clear BK220; clear HB; have BK220 := n0_; have HB := n1_; have BK221 := n2_; have GW221 := n3_; have GE221 := n4_; have NB220_221 := n5_; have NB221_220 := n6_; clear n0_ n1_ n2_ n3_ n4_ n5_ n6_; clear hb hbox hg)); go_upto_block 0 with (first | ((with_reducible refine gate_dst (N := 3) rfl ?_); refine zB 3 40 #[.int .i64 a0_0, .int .i64 a0_1, .string a0_2, .int .i64 a0_3, .slice A0_4 l0_4.length c0_4, .string a0_5, .string a0_6, .int .i64 a0_7, .slice A0_8 l0_8.length c0_8, .slice A0_9 l0_9.length c0_9, .slice A0_10 l0_10.length c0_10] ?_; intro gb220 hg w5 hbox hb; have BK220 := Aside0.mk hbox; have GW220 := gz hg; have GE220 := gz hg; replace HB := bp hb; clear hb hbox hg) | ((with_reducible refine gate_dst (N := 5) rfl ?_); refine zB 5 51 #[.int .i64 a2_0, .int .i64 a2_1, .int .i64 a2_2, .bool a2_3, .slice A2_4 l2_4.length c2_4, .slice A2_5 l2_5.length c2_5] ?_; intro gb221 hg w6 hbox hb; have BK221 := Aside0.mk hbox; have GW221 := gz hg; have GE221 := gz hg; replace HB := bp hb; have NB220_221 := Aside0.mk ((by rw [hg]; exact Nat.ne_of_lt (bl BK220) : gb220 ≠ gb221)); have NB221_220 := Aside0.mk ((by rw [hg]; exact Nat.ne_of_gt (bl BK220) : gb221 ≠ gb220)); replace BK220 := kb BK220 hb; clear hb hbox hg)))
 (try simp only [Act.put, List.setIfInBounds_toArray, List.set_cons_zero, List.set_cons_succ])
 go_cut [] (fun wc => ∃ (kq : Nat), Aside0 (model_checkSample.j3 kq a1 a2_0 a2_1 a2_2 a2_3 l2_4 l2_5 = some r) ∧ Aside0 (kq ≤ k) ∧ Aside0 (wc.heap[gb220]? = some (.cells #[.int .i64 a0_0, .int .i64 a0_1, .string a0_2, .int .i64 a0_3, (.slice A0_4 l0_4.length c0_4), .string a0_5, .string a0_6, .int .i64 a0_7, (.slice A0_8 l0_8.length c0_8), (.slice A0_9 l0_9.length c0_9), (.slice A0_10 l0_10.length c0_10)] 40 (0, 0))) ∧ Aside0 (wc.heap[gb221]? = some (.cells #[.int .i64 a2_0, .int .i64 a2_1, .int .i64 a2_2, .bool a2_3, (.slice A2_4 l2_4.length c2_4), (.slice A2_5 l2_5.length c2_5)] 51 (0, 0))) ∧ Aside0 (Below w.heap.size w wc))
 case first =>
  have H := HC4.out; clear HC4; have HC7 := Aside0.mk H; clear H
  go_upto_region 1 with (fail)
  repeat (go_quiet (fail); go_upto_region 1 with (fail))
  go_cut [10] (fun v10 wc => ∃ (kq : Nat) (x10_6 : Bool), v10 = .bool x10_6 ∧ Aside0 (model_checkSample.j0 kq a1 x10_6 a0_0 a0_1 a0_2 a0_3 l0_4 a0_5 a0_6 a0_7 l0_8 l0_9 l0_10 a2_0 a2_1 a2_2 a2_3 l2_4 l2_5 = some r) ∧ Aside0 (kq ≤ k) ∧ Aside0 (wc.heap[gb220]? = some (.cells #[.int .i64 a0_0, .int .i64 a0_1, .string a0_2, .int .i64 a0_3, (.slice A0_4 l0_4.length c0_4), .string a0_5, .string a0_6, .int .i64 a0_7, (.slice A0_8 l0_8.length c0_8), (.slice A0_9 l0_9.length c0_9), (.slice A0_10 l0_10.length c0_10)] 40 (0, 0))) ∧ Aside0 (wc.heap[gb221]? = some (.cells #[.int .i64 a2_0, .int .i64 a2_1, .int .i64 a2_2, .bool a2_3, (.slice A2_4 l2_4.length c2_4), (.slice A2_5 l2_5.length c2_5)] 51 (0, 0))) ∧ Aside0 (Below w.heap.size w wc))
  case first =>
   have H := HC7.out; clear HC7; obtain ⟨t222, A8, H⟩ := ob H
   by_cases c9 : t222 = true
   ·subst c9; rw [if_pos rfl] at H; obtain ⟨t223, A10, H⟩ := ob H
    by_cases c11 : t223 = true
    ·subst c11; rw [if_pos rfl] at H; obtain ⟨t224, A12, H⟩ := ob H; have H' := Aside0.mk H; clear H; have hnb13 := NB221_220.out; have hnc13 := NB220_221.out; have hcz14_0 : w6.cell? ⟨gb221, 0, none⟩ = some (.int .i64 a2_0) := ct BK221 0; have hcz14_1 : w6.cell? ⟨gb221, 1, none⟩ = some (.int .i64 a2_1) := ct BK221 1; have hcz14_2 : w6.cell? ⟨gb221, 2, none⟩ = some (.int .i64 a2_2) := ct BK221 2; have hcz14_3 : w6.cell? ⟨gb221, 3, none⟩ = some (.bool a2_3) := ct BK221 3; have hcz14_4 : w6.cell? ⟨gb221, 4, none⟩ = some (.slice A2_4 l2_4.length c2_4) := ct BK221 4; have hcz14_5 : w6.cell? ⟨gb221, 5, none⟩ = some (.slice A2_5 l2_5.length c2_5) := ct BK221 5; have hfz14_0 := blk_frozen BK221.out 0; have hfz14_1 := blk_frozen BK221.out 1; have hfz14_2 := blk_frozen BK221.out 2; have hfz14_3 := blk_frozen BK221.out 3; have hfz14_4 := blk_frozen BK221.out 4; have hfz14_5 := blk_frozen BK221.out 5
     go_wp2_with (first | (go_at_call 65; (with_reducible refine (model_tick.calls a2_0 true _ A8.out).mono ?_); rintro e w' ⟨rfl, ⟨nd, rfl⟩⟩; (try first | exact ⟨rfl, _, World.drewN_drewN _ _ _⟩ | exact ⟨rfl, _, Eq.trans (World.drewN_drewN _ _ _) (congrArg (World.drewN _) (Nat.add_assoc _ _ _))⟩)) | (go_at_call 65; (with_reducible refine (model_tick.calls a2_1 true _ A10.out).mono ?_); rintro e w' ⟨rfl, ⟨nd, rfl⟩⟩; (try first | exact ⟨rfl, _, World.drewN_drewN _ _ _⟩ | exact ⟨rfl, _, Eq.trans (World.drewN_drewN _ _ _) (congrArg (World.drewN _) (Nat.add_assoc _ _ _))⟩)) | (go_at_call 30; (with_reducible refine (model_within.calls a2_2 0 1099511627776 t224 _ A12.out).mono ?_); rintro e w' ⟨rfl, ⟨nd, rfl⟩⟩; (try first | exact ⟨rfl, _, World.drewN_drewN _ _ _⟩ | exact ⟨rfl, _, Eq.trans (World.drewN_drewN _ _ _) (congrArg (World.drewN _) (Nat.add_assoc _ _ _))⟩)))
     repeat (go_quiet (first | (go_at_call 65; (with_reducible refine (model_tick.calls a2_0 true _ A8.out).mono ?_); rintro e w' ⟨rfl, ⟨nd, rfl⟩⟩; (try first | exact ⟨rfl, _, World.drewN_drewN _ _ _⟩ | exact ⟨rfl, _, Eq.trans (World.drewN_drewN _ _ _) (congrArg (World.drewN _) (Nat.add_assoc _ _ _))⟩)) | (go_at_call 65; (with_reducible refine (model_tick.calls a2_1 true _ A10.out).mono ?_); rintro e w' ⟨rfl, ⟨nd, rfl⟩⟩; (try first | exact ⟨rfl, _, World.drewN_drewN _ _ _⟩ | exact ⟨rfl, _, Eq.trans (World.drewN_drewN _ _ _) (congrArg (World.drewN _) (Nat.add_assoc _ _ _))⟩)) | (go_at_call 30; (with_reducible refine (model_within.calls a2_2 0 1099511627776 t224 _ A12.out).mono ?_); rintro e w' ⟨rfl, ⟨nd, rfl⟩⟩; (try first | exact ⟨rfl, _, World.drewN_drewN _ _ _⟩ | exact ⟨rfl, _, Eq.trans (World.drewN_drewN _ _ _) (congrArg (World.drewN _) (Nat.add_assoc _ _ _))⟩))); try go_wp2_with (first | (go_at_call 65; (with_reducible refine (model_tick.calls a2_0 true _ A8.out).mono ?_); rintro e w' ⟨rfl, ⟨nd, rfl⟩⟩; (try first | exact ⟨rfl, _, World.drewN_drewN _ _ _⟩ | exact ⟨rfl, _, Eq.trans (World.drewN_drewN _ _ _) (congrArg (World.drewN _) (Nat.add_assoc _ _ _))⟩)) | (go_at_call 65; (with_reducible refine (model_tick.calls a2_1 true _ A10.out).mono ?_); rintro e w' ⟨rfl, ⟨nd, rfl⟩⟩; (try first | exact ⟨rfl, _, World.drewN_drewN _ _ _⟩ | exact ⟨rfl, _, Eq.trans (World.drewN_drewN _ _ _) (congrArg (World.drewN _) (Nat.add_assoc _ _ _))⟩)) | (go_at_call 30; (with_reducible refine (model_within.calls a2_2 0 1099511627776 t224 _ A12.out).mono ?_); rintro e w' ⟨rfl, ⟨nd, rfl⟩⟩; (try first | exact ⟨rfl, _, World.drewN_drewN _ _ _⟩ | exact ⟨rfl, _, Eq.trans (World.drewN_drewN _ _ _) (congrArg (World.drewN _) (Nat.add_assoc _ _ _))⟩))))
     go_meet
     case rel => exact ⟨_, (!t224), jz, H', ⟨by first | omega | exact Nat.le_refl _⟩, ⟨kz⟩, ⟨kz⟩, ⟨bz⟩⟩
    ·obtain rfl := bf c11; rw [if_neg (show ¬ (false = true) by decide)] at H; have H' := Aside0.mk H; clear H; have hnb15 := NB221_220.out; have hnc15 := NB220_221.out; have hcz16_0 : w6.cell? ⟨gb221, 0, none⟩ = some (.int .i64 a2_0) := ct BK221 0; have hcz16_1 : w6.cell? ⟨gb221, 1, none⟩ = some (.int .i64 a2_1) := ct BK221 1; have hcz16_2 : w6.cell? ⟨gb221, 2, none⟩ = some (.int .i64 a2_2) := ct BK221 2; have hcz16_3 : w6.cell? ⟨gb221, 3, none⟩ = some (.bool a2_3) := ct BK221 3; have hcz16_4 : w6.cell? ⟨gb221, 4, none⟩ = some (.slice A2_4 l2_4.length c2_4) := ct BK221 4; have hcz16_5 : w6.cell? ⟨gb221, 5, none⟩ = some (.slice A2_5 l2_5.length c2_5) := ct BK221 5; have hfz16_0 := blk_frozen BK221.out 0; have hfz16_1 := blk_frozen BK221.out 1; have hfz16_2 := blk_frozen BK221.out 2; have hfz16_3 := blk_frozen BK221.out 3; have hfz16_4 := blk_frozen BK221.out 4; have hfz16_5 := blk_frozen BK221.out 5
     go_wp2_with (first | (go_at_call 65; (with_reducible refine (model_tick.calls a2_0 true _ A8.out).mono ?_); rintro e w' ⟨rfl, ⟨nd, rfl⟩⟩; (try first | exact ⟨rfl, _, World.drewN_drewN _ _ _⟩ | exact ⟨rfl, _, Eq.trans (World.drewN_drewN _ _ _) (congrArg (World.drewN _) (Nat.add_assoc _ _ _))⟩)) | (go_at_call 65; (with_reducible refine (model_tick.calls a2_1 false _ A10.out).mono ?_); rintro e w' ⟨rfl, ⟨nd, rfl⟩⟩; (try first | exact ⟨rfl, _, World.drewN_drewN _ _ _⟩ | exact ⟨rfl, _, Eq.trans (World.drewN_drewN _ _ _) (congrArg (World.drewN _) (Nat.add_assoc _ _ _))⟩)))
     repeat (go_quiet (first | (go_at_call 65; (with_reducible refine (model_tick.calls a2_0 true _ A8.out).mono ?_); rintro e w' ⟨rfl, ⟨nd, rfl⟩⟩; (try first | exact ⟨rfl, _, World.drewN_drewN _ _ _⟩ | exact ⟨rfl, _, Eq.trans (World.drewN_drewN _ _ _) (congrArg (World.drewN _) (Nat.add_assoc _ _ _))⟩)) | (go_at_call 65; (with_reducible refine (model_tick.calls a2_1 false _ A10.out).mono ?_); rintro e w' ⟨rfl, ⟨nd, rfl⟩⟩; (try first | exact ⟨rfl, _, World.drewN_drewN _ _ _⟩ | exact ⟨rfl, _, Eq.trans (World.drewN_drewN _ _ _) (congrArg (World.drewN _) (Nat.add_assoc _ _ _))⟩))); try go_wp2_with (first | (go_at_call 65; (with_reducible refine (model_tick.calls a2_0 true _ A8.out).mono ?_); rintro e w' ⟨rfl, ⟨nd, rfl⟩⟩; (try first | exact ⟨rfl, _, World.drewN_drewN _ _ _⟩ | exact ⟨rfl, _, Eq.trans (World.drewN_drewN _ _ _) (congrArg (World.drewN _) (Nat.add_assoc _ _ _))⟩)) | (go_at_call 65; (with_reducible refine (model_tick.calls a2_1 false _ A10.out).mono ?_); rintro e w' ⟨rfl, ⟨nd, rfl⟩⟩; (try first | exact ⟨rfl, _, World.drewN_drewN _ _ _⟩ | exact ⟨rfl, _, Eq.trans (World.drewN_drewN _ _ _) (congrArg (World.drewN _) (Nat.add_assoc _ _ _))⟩))))
     go_meet
     case rel => exact ⟨_, (true), jz, H', ⟨by first | omega | exact Nat.le_refl _⟩, ⟨kz⟩, ⟨kz⟩, ⟨bz⟩⟩
   ·obtain rfl := bf c9; rw [if_neg (show ¬ (false = true) by decide)] at H; have H' := Aside0.mk H; clear H; have hnb17 := NB221_220.out; have hnc17 := NB220_221.out; have hcz18_0 : w6.cell? ⟨gb221, 0, none⟩ = some (.int .i64 a2_0) := ct BK221 0; have hcz18_1 : w6.cell? ⟨gb221, 1, none⟩ = some (.int .i64 a2_1) := ct BK221 1; have hcz18_2 : w6.cell? ⟨gb221, 2, none⟩ = some (.int .i64 a2_2) := ct BK221 2; have hcz18_3 : w6.cell? ⟨gb221, 3, none⟩ = some (.bool a2_3) := ct BK221 3; have hcz18_4 : w6.cell? ⟨gb221, 4, none⟩ = some (.slice A2_4 l2_4.length c2_4) := ct BK221 4; have hcz18_5 : w6.cell? ⟨gb221, 5, none⟩ = some (.slice A2_5 l2_5.length c2_5) := ct BK221 5; have hfz18_0 := blk_frozen BK221.out 0; have hfz18_1 := blk_frozen BK221.out 1; have hfz18_2 := blk_frozen BK221.out 2; have hfz18_3 := blk_frozen BK221.out 3; have hfz18_4 := blk_frozen BK221.out 4; have hfz18_5 := blk_frozen BK221.out 5
    go_wp2_with (first | (go_at_call 65; (with_reducible refine (model_tick.calls a2_0 false _ A8.out).mono ?_); rintro e w' ⟨rfl, ⟨nd, rfl⟩⟩; (try first | exact ⟨rfl, _, World.drewN_drewN _ _ _⟩ | exact ⟨rfl, _, Eq.trans (World.drewN_drewN _ _ _) (congrArg (World.drewN _) (Nat.add_assoc _ _ _))⟩)))
    repeat (go_quiet (first | (go_at_call 65; (with_reducible refine (model_tick.calls a2_0 false _ A8.out).mono ?_); rintro e w' ⟨rfl, ⟨nd, rfl⟩⟩; (try first | exact ⟨rfl, _, World.drewN_drewN _ _ _⟩ | exact ⟨rfl, _, Eq.trans (World.drewN_drewN _ _ _) (congrArg (World.drewN _) (Nat.add_assoc _ _ _))⟩))); try go_wp2_with (first | (go_at_call 65; (with_reducible refine (model_tick.calls a2_0 false _ A8.out).mono ?_); rintro e w' ⟨rfl, ⟨nd, rfl⟩⟩; (try first | exact ⟨rfl, _, World.drewN_drewN _ _ _⟩ | exact ⟨rfl, _, Eq.trans (World.drewN_drewN _ _ _) (congrArg (World.drewN _) (Nat.add_assoc _ _ _))⟩))))
    go_meet
    case rel => exact ⟨_, (true), jz, H', ⟨by first | omega | exact Nat.le_refl _⟩, ⟨kz⟩, ⟨kz⟩, ⟨bz⟩⟩
  case rest =>
   clear HC7
   try clear c1
   try clear c2
   try clear p2
   try clear c5
   try clear c9
   try clear c11
   try clear c13
   try clear c15
   try clear c17
   try clear hcz14_0
   try clear hcz14_1
   try clear hcz14_2
   try clear hcz14_3
   try clear hcz14_4
   try clear hcz14_5
   try clear hcz16_0
   try clear hcz16_1
   try clear hcz16_2
   try clear hcz16_3
   try clear hcz16_4
   try clear hcz16_5
   try clear hcz18_0
   try clear hcz18_1
   try clear hcz18_2
   try clear hcz18_3
   try clear hcz18_4
   try clear hcz18_5
   try clear hfz14_0
   try clear hfz14_1
   try clear hfz14_2
   try clear hfz14_3
   try clear hfz14_4
   try clear hfz14_5
   try clear hfz16_0
   try clear hfz16_1
   try clear hfz16_2
   try clear hfz16_3
   try clear hfz16_4
   try clear hfz16_5
   try clear hfz18_0
   try clear hfz18_1
   try clear hfz18_2
   try clear hfz18_3
   try clear hfz18_4
   try clear hfz18_5
   obtain ⟨kq, x10_6, rfl, HA, HJ6, BK220, BK221, HB⟩ := hcut
   cases kq with
   | zero => exact absurd HA.out (by simp [model_checkSample.j0])
   | succ kj6 =>
    have H := HA.out; clear HA; simp only [model_checkSample.j0] at H
    by_cases c19 : x10_6 = true
    ·subst c19; rw [if_pos rfl] at H; obtain rfl := Option.some.inj H
     go_wp2
     repeat (go_quiet (fail); try go_wp2)
     go_ret
     exact ⟨ez, bz⟩
    ·obtain rfl := bf c19; rw [if_neg (show ¬ (false = true) by decide)] at H; have HC20 := Aside0.mk H; clear H
     go_upto_region 3 with (fail)
     repeat (go_quiet (fail); go_upto_region 3 with (fail))
     go_cut [27] (fun v27 wc => ∃ (kq : Nat) (x27_19 : Bool), v27 = .bool x27_19 ∧ Aside0 (model_checkSample.j1 kq a1 x27_19 a0_0 a0_1 a0_2 a0_3 l0_4 a0_5 a0_6 a0_7 l0_8 l0_9 l0_10 a2_0 a2_1 a2_2 a2_3 l2_4 l2_5 = some r) ∧ Aside0 (kq ≤ kj6) ∧ Aside0 (wc.heap[gb220]? = some (.cells #[.int .i64 a0_0, .int .i64 a0_1, .string a0_2, .int .i64 a0_3, (.slice A0_4 l0_4.length c0_4), .string a0_5, .string a0_6, .int .i64 a0_7, (.slice A0_8 l0_8.length c0_8), (.slice A0_9 l0_9.length c0_9), (.slice A0_10 l0_10.length c0_10)] 40 (0, 0))) ∧ Aside0 (wc.heap[gb221]? = some (.cells #[.int .i64 a2_0, .int .i64 a2_1, .int .i64 a2_2, .bool a2_3, (.slice A2_4 l2_4.length c2_4), (.slice A2_5 l2_5.length c2_5)] 51 (0, 0))) ∧ Aside0 (Below w.heap.size w wc))
     case first =>
      have H := HC20.out; clear HC20
      by_cases c21 : (l2_5.length : Int) > 65536
      ·rw [if_pos c21] at H; have c21b0 : decide (65536 < (l2_5.length : Int)) = true := decide_eq_true c21; have c21b1 : decide (65536 < l2_5.length) = true := decide_eq_true (by omega); clear c21
       (first | rw [c21b0] | (simp only [i64_w, i32_w]; rw [c21b0]) | skip)
       have H' := Aside0.mk H; clear H; have hnb22 := NB221_220.out; have hnc22 := NB220_221.out; have hcz23_0 : wc.cell? ⟨gb221, 0, none⟩ = some (.int .i64 a2_0) := ct BK221 0; have hcz23_1 : wc.cell? ⟨gb221, 1, none⟩ = some (.int .i64 a2_1) := ct BK221 1; have hcz23_2 : wc.cell? ⟨gb221, 2, none⟩ = some (.int .i64 a2_2) := ct BK221 2; have hcz23_3 : wc.cell? ⟨gb221, 3, none⟩ = some (.bool a2_3) := ct BK221 3; have hcz23_4 : wc.cell? ⟨gb221, 4, none⟩ = some (.slice A2_4 l2_4.length c2_4) := ct BK221 4; have hcz23_5 : wc.cell? ⟨gb221, 5, none⟩ = some (.slice A2_5 l2_5.length c2_5) := ct BK221 5; have hfz23_0 := blk_frozen BK221.out 0; have hfz23_1 := blk_frozen BK221.out 1; have hfz23_2 := blk_frozen BK221.out 2; have hfz23_3 := blk_frozen BK221.out 3; have hfz23_4 := blk_frozen BK221.out 4; have hfz23_5 := blk_frozen BK221.out 5
       go_wp2
       repeat (go_quiet (fail); try go_wp2)
       go_meet
       case rel => exact ⟨_, (true), jz, H', ⟨by have := HJ6.out; first | omega | exact Nat.le_refl _⟩, ⟨kz⟩, ⟨kz⟩, ⟨bz⟩⟩
      ·rw [if_neg c21] at H; have c21b0 : decide (65536 < (l2_5.length : Int)) = false := decide_eq_false c21; have c21b1 : decide (65536 < l2_5.length) = false := decide_eq_false (by omega); clear c21
       (first | rw [c21b0] | (simp only [i64_w, i32_w]; rw [c21b0]) | skip)
       have H' := Aside0.mk H; clear H; have hnb24 := NB221_220.out; have hnc24 := NB220_221.out; have hcz25_0 : wc.cell? ⟨gb221, 0, none⟩ = some (.int .i64 a2_0) := ct BK221 0; have hcz25_1 : wc.cell? ⟨gb221, 1, none⟩ = some (.int .i64 a2_1) := ct BK221 1; have hcz25_2 : wc.cell? ⟨gb221, 2, none⟩ = some (.int .i64 a2_2) := ct BK221 2; have hcz25_3 : wc.cell? ⟨gb221, 3, none⟩ = some (.bool a2_3) := ct BK221 3; have hcz25_4 : wc.cell? ⟨gb221, 4, none⟩ = some (.slice A2_4 l2_4.length c2_4) := ct BK221 4; have hcz25_5 : wc.cell? ⟨gb221, 5, none⟩ = some (.slice A2_5 l2_5.length c2_5) := ct BK221 5; have hfz25_0 := blk_frozen BK221.out 0; have hfz25_1 := blk_frozen BK221.out 1; have hfz25_2 := blk_frozen BK221.out 2; have hfz25_3 := blk_frozen BK221.out 3; have hfz25_4 := blk_frozen BK221.out 4; have hfz25_5 := blk_frozen BK221.out 5
       go_wp2
       repeat (go_quiet (fail); try go_wp2)
       go_meet
       case rel => exact ⟨_, (decide ((l2_4.length : Int) > 4)), jz, H', ⟨by have := HJ6.out; first | omega | exact Nat.le_refl _⟩, ⟨kz⟩, ⟨kz⟩, ⟨bz⟩⟩
     case rest =>
      clear HC20
      try clear c1
      try clear c2
      try clear p2
      try clear c5
      try clear c9
      try clear c11
      try clear c13
      try clear c15
      try clear c17
      try clear c19
      try clear c21
      try clear c21b0
      try clear c21b1
      try clear c22
      try clear c24
      try clear hcz14_0
      try clear hcz14_1
      try clear hcz14_2
      try clear hcz14_3
      try clear hcz14_4
      try clear hcz14_5
      try clear hcz16_0
      try clear hcz16_1
      try clear hcz16_2
      try clear hcz16_3
      try clear hcz16_4
      try clear hcz16_5
      try clear hcz18_0
      try clear hcz18_1
      try clear hcz18_2
      try clear hcz18_3
      try clear hcz18_4
      try clear hcz18_5
      try clear hcz23_0
      try clear hcz23_1
      try clear hcz23_2
      try clear hcz23_3
      try clear hcz23_4
      try clear hcz23_5
      try clear hcz25_0
      try clear hcz25_1
      try clear hcz25_2
      try clear hcz25_3
      try clear hcz25_4
      try clear hcz25_5
      try clear hfz14_0
      try clear hfz14_1
      try clear hfz14_2
      try clear hfz14_3
      try clear hfz14_4
      try clear hfz14_5
      try clear hfz16_0
      try clear hfz16_1
      try clear hfz16_2
      try clear hfz16_3
      try clear hfz16_4
      try clear hfz16_5
      try clear hfz18_0
      try clear hfz18_1
      try clear hfz18_2
      try clear hfz18_3
      try clear hfz18_4
      try clear hfz18_5
      try clear hfz23_0
      try clear hfz23_1
      try clear hfz23_2
      try clear hfz23_3
      try clear hfz23_4
      try clear hfz23_5
      try clear hfz25_0
      try clear hfz25_1
      try clear hfz25_2
      try clear hfz25_3
      try clear hfz25_4
      try clear hfz25_5
      try clear p2
      obtain ⟨kq, x27_19, rfl, HA, HJ19, BK220, BK221, HB⟩ := hcut
      cases kq with
      | zero => exact absurd HA.out (by simp [model_checkSample.j1])
      | succ kj19 =>
       have H := HA.out; clear HA; simp only [model_checkSample.j1] at H
       by_cases c26 : x27_19 = true
       ·subst c26; rw [if_pos rfl] at H; obtain rfl := Option.some.inj H
        go_wp2
        repeat (go_quiet (fail); try go_wp2)
        go_ret
        exact ⟨ez, bz⟩
       ·obtain rfl := bf c26; rw [if_neg (show ¬ (false = true) by decide)] at H; have HC27 := Aside0.mk H; clear H
        go_upto_region 5 with (fail)
        repeat (go_quiet (fail); go_upto_region 5 with (fail))
        go_cut [38] (fun v38 wc => ∃ (kq : Nat) (x38_26 : Bool), v38 = .bool x38_26 ∧ Aside0 (model_checkSample.j2 kq a1 x38_26 a2_0 a2_1 a2_2 a2_3 l2_4 l2_5 = some r) ∧ Aside0 (kq ≤ kj19) ∧ Aside0 (wc.heap[gb220]? = some (.cells #[.int .i64 a0_0, .int .i64 a0_1, .string a0_2, .int .i64 a0_3, (.slice A0_4 l0_4.length c0_4), .string a0_5, .string a0_6, .int .i64 a0_7, (.slice A0_8 l0_8.length c0_8), (.slice A0_9 l0_9.length c0_9), (.slice A0_10 l0_10.length c0_10)] 40 (0, 0))) ∧ Aside0 (wc.heap[gb221]? = some (.cells #[.int .i64 a2_0, .int .i64 a2_1, .int .i64 a2_2, .bool a2_3, (.slice A2_4 l2_4.length c2_4), (.slice A2_5 l2_5.length c2_5)] 51 (0, 0))) ∧ Aside0 (Below w.heap.size w wc))
        case first =>
         have H := HC27.out; clear HC27
         by_cases c28 : a1 > 0
         ·rw [if_pos c28] at H; have c28b0 : decide (0 < a1) = true := decide_eq_true c28; clear c28
          (first | rw [c28b0] | (simp only [i64_w, i32_w]; rw [c28b0]) | skip)
          obtain ⟨ji29, hji29⟩ : ∃ j_ : Int, (wrap64 (a1 - 1)) = j_ := ⟨_, rfl⟩; replace H : (if 0 ≤ (ji29) then (if (ji29) < (l0_10.length : Int) then (model_checkSample.j2 kj19 a1 (decide (a2_0 ≤ ((rd_T51 l0_10 (ji29)).f0))) a2_0 a2_1 a2_2 a2_3 l2_4 l2_5) else (none)) else (none)) = some r := by first | (rw [hji29] at H; exact H) | (simp only [hji29] at H ⊢; exact H)
          have hji29w : (IntKind.i64.wrap (a1 - 1)) = ji29 := (i64_w _).trans hji29
          by_cases c30 : 0 ≤ (ji29)
          ·rw [if_pos c30] at H; have c30b0 : decide (0 ≤ (ji29)) = true := decide_eq_true c30; clear c30
           by_cases c31 : (ji29) < (l0_10.length : Int)
           ·rw [if_pos c31] at H; have c31b0 : decide ((ji29) < (l0_10.length : Int)) = true := decide_eq_true c31; clear c31; have H' := Aside0.mk H; clear H; have hnb32 := NB221_220.out; have hnc32 := NB220_221.out; have hcz33_0 : wc.cell? ⟨gb221, 0, none⟩ = some (.int .i64 a2_0) := ct BK221 0; have hcz33_1 : wc.cell? ⟨gb221, 1, none⟩ = some (.int .i64 a2_1) := ct BK221 1; have hcz33_2 : wc.cell? ⟨gb221, 2, none⟩ = some (.int .i64 a2_2) := ct BK221 2; have hcz33_3 : wc.cell? ⟨gb221, 3, none⟩ = some (.bool a2_3) := ct BK221 3; have hcz33_4 : wc.cell? ⟨gb221, 4, none⟩ = some (.slice A2_4 l2_4.length c2_4) := ct BK221 4; have hcz33_5 : wc.cell? ⟨gb221, 5, none⟩ = some (.slice A2_5 l2_5.length c2_5) := ct BK221 5; have hfz33_0 := blk_frozen BK221.out 0; have hfz33_1 := blk_frozen BK221.out 1; have hfz33_2 := blk_frozen BK221.out 2; have hfz33_3 := blk_frozen BK221.out 3; have hfz33_4 := blk_frozen BK221.out 4; have hfz33_5 := blk_frozen BK221.out 5; have hcz34_0 : wc.cell? ⟨gb220, 0, none⟩ = some (.int .i64 a0_0) := ct BK220 0; have hcz34_1 : wc.cell? ⟨gb220, 1, none⟩ = some (.int .i64 a0_1) := ct BK220 1; have hcz34_2 : wc.cell? ⟨gb220, 2, none⟩ = some (.string a0_2) := ct BK220 2; have hcz34_3 : wc.cell? ⟨gb220, 3, none⟩ = some (.int .i64 a0_3) := ct BK220 3; have hcz34_4 : wc.cell? ⟨gb220, 4, none⟩ = some (.slice A0_4 l0_4.length c0_4) := ct BK220 4; have hcz34_5 : wc.cell? ⟨gb220, 5, none⟩ = some (.string a0_5) := ct BK220 5; have hcz34_6 : wc.cell? ⟨gb220, 6, none⟩ = some (.string a0_6) := ct BK220 6; have hcz34_7 : wc.cell? ⟨gb220, 7, none⟩ = some (.int .i64 a0_7) := ct BK220 7; have hcz34_8 : wc.cell? ⟨gb220, 8, none⟩ = some (.slice A0_8 l0_8.length c0_8) := ct BK220 8; have hcz34_9 : wc.cell? ⟨gb220, 9, none⟩ = some (.slice A0_9 l0_9.length c0_9) := ct BK220 9; have hcz34_10 : wc.cell? ⟨gb220, 10, none⟩ = some (.slice A0_10 l0_10.length c0_10) := ct BK220 10; have hfz34_0 := blk_frozen BK220.out 0; have hfz34_1 := blk_frozen BK220.out 1; have hfz34_2 := blk_frozen BK220.out 2; have hfz34_3 := blk_frozen BK220.out 3; have hfz34_4 := blk_frozen BK220.out 4; have hfz34_5 := blk_frozen BK220.out 5; have hfz34_6 := blk_frozen BK220.out 6; have hfz34_7 := blk_frozen BK220.out 7; have hfz34_8 := blk_frozen BK220.out 8; have hfz34_9 := blk_frozen BK220.out 9; have hfz34_10 := blk_frozen BK220.out 10; have p225 : 0 ≤ ((ji29) : Int) := od; have q225 : (ji29) < (l0_10.length : Int) := od; obtain ⟨ad225, A225_4, c225_4, A225_5, c225_5, e225, hx225_0, hx225_1, hx225_2, hx225_3, hx225_4, hx225_5, hl225_4, hi225_4, hl225_5, hi225_5⟩ := at_T51 HR0_10.out (ji29) p225 q225
            cases e225
            replace hx225_0 := cl HB hx225_0; replace hx225_1 := cl HB hx225_1; replace hx225_2 := cl HB hx225_2; replace hx225_3 := cl HB hx225_3; replace hx225_4 := cl HB hx225_4; replace hx225_5 := cl HB hx225_5; have HR225_4 := Aside0.mk hi225_4; have HC225_4 := Aside0.mk hl225_4; clear hi225_4 hl225_4; have HR225_5 := Aside0.mk hi225_5; have HC225_5 := Aside0.mk hl225_5; clear hi225_5 hl225_5; replace p225 := eq_true p225; replace q225 := eq_true q225
            go_wp2
            repeat (go_quiet (fail); try go_wp2)
            go_meet
            case rel => exact ⟨_, (decide (a2_0 ≤ ((rd_T51 l0_10 (ji29)).f0))), (by first | rfl | (simp; done) | (simp only [← hji29] <;> (first | rfl | simp)) | (simp [*]; done)), H', ⟨by have := HJ6.out; have := HJ19.out; first | omega | exact Nat.le_refl _⟩, ⟨kz⟩, ⟨kz⟩, ⟨bz⟩⟩
           ·rw [if_neg c31] at H
            exact absurd H (by simp)
          ·rw [if_neg c30] at H
           exact absurd H (by simp)
         ·rw [if_neg c28] at H; have c28b0 : decide (0 < a1) = false := decide_eq_false c28; clear c28
          (first | rw [c28b0] | (simp only [i64_w, i32_w]; rw [c28b0]) | skip)
          have H' := Aside0.mk H; clear H
          go_wp2
          repeat (go_quiet (fail); try go_wp2)
          go_meet
          case rel => exact ⟨_, (false), jz, H', ⟨by have := HJ6.out; have := HJ19.out; first | omega | exact Nat.le_refl _⟩, ⟨kz⟩, ⟨kz⟩, ⟨bz⟩⟩
        case rest =>
         clear HC27
         try clear c1
         try clear c2
         try clear p2
         try clear q2
         try clear hx2
         try clear c3
         try clear c5
         try clear p6
         try clear c9
         try clear c11
         try clear c13
         try clear c15
         try clear c17
         try clear c19
         try clear c21
         try clear c21b0
         try clear c21b1
         try clear c22
         try clear p22
         try clear q22
         try clear hx22
         try clear c24
         try clear c26
         try clear c28
         try clear c28b0
         try clear c30
         try clear c30b0
         try clear c31
         try clear c31b0
         try clear c32
         try clear hcz14_0
         try clear hcz14_1
         try clear hcz14_2
         try clear hcz14_3
         try clear hcz14_4
         try clear hcz14_5
         try clear hcz16_0
         try clear hcz16_1
         try clear hcz16_2
         try clear hcz16_3
         try clear hcz16_4
         try clear hcz16_5
         try clear hcz18_0
         try clear hcz18_1
         try clear hcz18_2
         try clear hcz18_3
         try clear hcz18_4
         try clear hcz18_5
         try clear hcz23_0
         try clear hcz23_1
         try clear hcz23_2
         try clear hcz23_3
         try clear hcz23_4
         try clear hcz23_5
         try clear hcz25_0
         try clear hcz25_1
         try clear hcz25_2
         try clear hcz25_3
         try clear hcz25_4
         try clear hcz25_5
         try clear hcz33_0
         try clear hcz33_1
         try clear hcz33_2
         try clear hcz33_3
         try clear hcz33_4
         try clear hcz33_5
         try clear hcz34_0
         try clear hcz34_1
         try clear hcz34_10
         try clear hcz34_2
         try clear hcz34_3
         try clear hcz34_4
         try clear hcz34_5
         try clear hcz34_6
         try clear hcz34_7
         try clear hcz34_8
         try clear hcz34_9
         try clear hfz14_0
         try clear hfz14_1
         try clear hfz14_2
         try clear hfz14_3
         try clear hfz14_4
         try clear hfz14_5
         try clear hfz16_0
         try clear hfz16_1
         try clear hfz16_2
         try clear hfz16_3
         try clear hfz16_4
         try clear hfz16_5
         try clear hfz18_0
         try clear hfz18_1
         try clear hfz18_2
         try clear hfz18_3
         try clear hfz18_4
         try clear hfz18_5
         try clear hfz23_0
         try clear hfz23_1
         try clear hfz23_2
         try clear hfz23_3
         try clear hfz23_4
         try clear hfz23_5
         try clear hfz25_0
         try clear hfz25_1
         try clear hfz25_2
         try clear hfz25_3
         try clear hfz25_4
         try clear hfz25_5
         try clear hfz33_0
         try clear hfz33_1
         try clear hfz33_2
         try clear hfz33_3
         try clear hfz33_4
         try clear hfz33_5
         try clear hfz34_0
         try clear hfz34_1
         try clear hfz34_10
         try clear hfz34_2
         try clear hfz34_3
         try clear hfz34_4
         try clear hfz34_5
         try clear hfz34_6
         try clear hfz34_7
         try clear hfz34_8
         try clear hfz34_9
         try clear hx225_0
         try clear hx225_1
         try clear hx225_2
         try clear hx225_3
         try clear hx225_4
         try clear hx225_5
         try clear p2
         try clear p225
         try clear q225
         obtain ⟨kq, x38_26, rfl, HA, HJ26, BK220, BK221, HB⟩ := hcut
         cases kq with
         | zero => exact absurd HA.out (by simp [model_checkSample.j2])
         | succ kj26 =>
          have H := HA.out; clear HA; simp only [model_checkSample.j2] at H
          by_cases c35 : x38_26 = true
          ·subst c35; rw [if_pos rfl] at H; obtain rfl := Option.some.inj H
           go_wp2
           repeat (go_quiet (fail); try go_wp2)
           go_ret
           exact ⟨ez, bz⟩
          ·obtain rfl := bf c35; rw [if_neg (show ¬ (false = true) by decide)] at H
           by_cases c36 : a2_3 = true
           ·subst c36; rw [if_pos rfl] at H
            by_cases c37 : (l2_4.length : Int) > 0
            ·rw [if_pos c37] at H; have c37b0 : decide (0 < (l2_4.length : Int)) = true := decide_eq_true c37; have c37b1 : decide (0 < l2_4.length) = true := decide_eq_true (by omega); clear c37; obtain rfl := Option.some.inj H; have hnb38 := NB221_220.out; have hnc38 := NB220_221.out; have hcz39_0 : wc.cell? ⟨gb221, 0, none⟩ = some (.int .i64 a2_0) := ct BK221 0; have hcz39_1 : wc.cell? ⟨gb221, 1, none⟩ = some (.int .i64 a2_1) := ct BK221 1; have hcz39_2 : wc.cell? ⟨gb221, 2, none⟩ = some (.int .i64 a2_2) := ct BK221 2; have hcz39_3 : wc.cell? ⟨gb221, 3, none⟩ = some (.bool true) := ct BK221 3; have hcz39_4 : wc.cell? ⟨gb221, 4, none⟩ = some (.slice A2_4 l2_4.length c2_4) := ct BK221 4; have hcz39_5 : wc.cell? ⟨gb221, 5, none⟩ = some (.slice A2_5 l2_5.length c2_5) := ct BK221 5; have hfz39_0 := blk_frozen BK221.out 0; have hfz39_1 := blk_frozen BK221.out 1; have hfz39_2 := blk_frozen BK221.out 2; have hfz39_3 := blk_frozen BK221.out 3; have hfz39_4 := blk_frozen BK221.out 4; have hfz39_5 := blk_frozen BK221.out 5
             go_wp2
             repeat (go_quiet (fail); try go_wp2)
             go_ret
             exact ⟨ez, bz⟩
            ·rw [if_neg c37] at H; have c37b0 : decide (0 < (l2_4.length : Int)) = false := decide_eq_false c37; have c37b1 : decide (0 < l2_4.length) = false := decide_eq_false (by omega); clear c37; have H' := Aside0.mk H; clear H; have hnb40 := NB221_220.out; have hnc40 := NB220_221.out; have hcz41_0 : wc.cell? ⟨gb221, 0, none⟩ = some (.int .i64 a2_0) := ct BK221 0; have hcz41_1 : wc.cell? ⟨gb221, 1, none⟩ = some (.int .i64 a2_1) := ct BK221 1; have hcz41_2 : wc.cell? ⟨gb221, 2, none⟩ = some (.int .i64 a2_2) := ct BK221 2; have hcz41_3 : wc.cell? ⟨gb221, 3, none⟩ = some (.bool true) := ct BK221 3; have hcz41_4 : wc.cell? ⟨gb221, 4, none⟩ = some (.slice A2_4 l2_4.length c2_4) := ct BK221 4; have hcz41_5 : wc.cell? ⟨gb221, 5, none⟩ = some (.slice A2_5 l2_5.length c2_5) := ct BK221 5; have hfz41_0 := blk_frozen BK221.out 0; have hfz41_1 := blk_frozen BK221.out 1; have hfz41_2 := blk_frozen BK221.out 2; have hfz41_3 := blk_frozen BK221.out 3; have hfz41_4 := blk_frozen BK221.out 4; have hfz41_5 := blk_frozen BK221.out 5
             go_wp2
             repeat (go_quiet (fail); try go_wp2)
             go_meet
             case rel => exact ⟨_, H', ⟨by have := HJ6.out; have := HJ19.out; have := HJ26.out; first | omega | exact Nat.le_refl _⟩, ⟨kz⟩, ⟨kz⟩, ⟨bz⟩⟩
           ·obtain rfl := bf c36; rw [if_neg (show ¬ (false = true) by decide)] at H; have H' := Aside0.mk H; clear H; have hnb42 := NB221_220.out; have hnc42 := NB220_221.out; have hcz43_0 : wc.cell? ⟨gb221, 0, none⟩ = some (.int .i64 a2_0) := ct BK221 0; have hcz43_1 : wc.cell? ⟨gb221, 1, none⟩ = some (.int .i64 a2_1) := ct BK221 1; have hcz43_2 : wc.cell? ⟨gb221, 2, none⟩ = some (.int .i64 a2_2) := ct BK221 2; have hcz43_3 : wc.cell? ⟨gb221, 3, none⟩ = some (.bool false) := ct BK221 3; have hcz43_4 : wc.cell? ⟨gb221, 4, none⟩ = some (.slice A2_4 l2_4.length c2_4) := ct BK221 4; have hcz43_5 : wc.cell? ⟨gb221, 5, none⟩ = some (.slice A2_5 l2_5.length c2_5) := ct BK221 5; have hfz43_0 := blk_frozen BK221.out 0; have hfz43_1 := blk_frozen BK221.out 1; have hfz43_2 := blk_frozen BK221.out 2; have hfz43_3 := blk_frozen BK221.out 3; have hfz43_4 := blk_frozen BK221.out 4; have hfz43_5 := blk_frozen BK221.out 5
            go_wp2
            repeat (go_quiet (fail); try go_wp2)
            go_meet
            case rel => exact ⟨_, H', ⟨by have := HJ6.out; have := HJ19.out; have := HJ26.out; first | omega | exact Nat.le_refl _⟩, ⟨kz⟩, ⟨kz⟩, ⟨bz⟩⟩
 case rest =>
  clear HC4
  try clear c1
  try clear c2
  try clear p2
  try clear q2
  try clear hx2
  try clear c3
  try clear c4
  try clear c5
  try clear p6
  try clear c9
  try clear c11
  try clear c13
  try clear c15
  try clear c17
  try clear c19
  try clear c21
  try clear c21b0
  try clear c21b1
  try clear c22
  try clear p22
  try clear q22
  try clear hx22
  try clear c24
  try clear c26
  try clear c28
  try clear c28b0
  try clear c30
  try clear c30b0
  try clear c31
  try clear c31b0
  try clear c32
  try clear c35
  try clear c36
  try clear c37
  try clear c37b0
  try clear c37b1
  try clear c38
  try clear c40
  try clear c42
  try clear hcz14_0
  try clear hcz14_1
  try clear hcz14_2
  try clear hcz14_3
  try clear hcz14_4
  try clear hcz14_5
  try clear hcz16_0
  try clear hcz16_1
  try clear hcz16_2
  try clear hcz16_3
  try clear hcz16_4
  try clear hcz16_5
  try clear hcz18_0
  try clear hcz18_1
  try clear hcz18_2
  try clear hcz18_3
  try clear hcz18_4
  try clear hcz18_5
  try clear hcz23_0
  try clear hcz23_1
  try clear hcz23_2
  try clear hcz23_3
  try clear hcz23_4
  try clear hcz23_5
  try clear hcz25_0
  try clear hcz25_1
  try clear hcz25_2
  try clear hcz25_3
  try clear hcz25_4
  try clear hcz25_5
  try clear hcz33_0
  try clear hcz33_1
  try clear hcz33_2
  try clear hcz33_3
  try clear hcz33_4
  try clear hcz33_5
  try clear hcz34_0
  try clear hcz34_1
  try clear hcz34_10
  try clear hcz34_2
  try clear hcz34_3
  try clear hcz34_4
  try clear hcz34_5
  try clear hcz34_6
  try clear hcz34_7
  try clear hcz34_8
  try clear hcz34_9
  try clear hcz39_0
  try clear hcz39_1
  try clear hcz39_2
  try clear hcz39_3
  try clear hcz39_4
  try clear hcz39_5
  try clear hcz41_0
  try clear hcz41_1
  try clear hcz41_2
  try clear hcz41_3
  try clear hcz41_4
  try clear hcz41_5
  try clear hcz43_0
  try clear hcz43_1
  try clear hcz43_2
  try clear hcz43_3
  try clear hcz43_4
  try clear hcz43_5
  try clear hfz14_0
  try clear hfz14_1
  try clear hfz14_2
  try clear hfz14_3
  try clear hfz14_4
  try clear hfz14_5
  try clear hfz16_0
  try clear hfz16_1
  try clear hfz16_2
  try clear hfz16_3
  try clear hfz16_4
  try clear hfz16_5
  try clear hfz18_0
  try clear hfz18_1
  try clear hfz18_2
  try clear hfz18_3
  try clear hfz18_4
  try clear hfz18_5
  try clear hfz23_0
  try clear hfz23_1
  try clear hfz23_2
  try clear hfz23_3
  try clear hfz23_4
  try clear hfz23_5
  try clear hfz25_0
  try clear hfz25_1
  try clear hfz25_2
  try clear hfz25_3
  try clear hfz25_4
  try clear hfz25_5
  try clear hfz33_0
  try clear hfz33_1
  try clear hfz33_2
  try clear hfz33_3
  try clear hfz33_4
  try clear hfz33_5
  try clear hfz34_0
  try clear hfz34_1
  try clear hfz34_10
  try clear hfz34_2
  try clear hfz34_3
  try clear hfz34_4
  try clear hfz34_5
  try clear hfz34_6
  try clear hfz34_7
  try clear hfz34_8
  try clear hfz34_9
  try clear hfz39_0
  try clear hfz39_1
  try clear hfz39_2
  try clear hfz39_3
  try clear hfz39_4
  try clear hfz39_5
  try clear hfz41_0
  try clear hfz41_1
  try clear hfz41_2
  try clear hfz41_3
  try clear hfz41_4
  try clear hfz41_5
  try clear hfz43_0
  try clear hfz43_1
  try clear hfz43_2
  try clear hfz43_3
  try clear hfz43_4
  try clear hfz43_5
  try clear hx225_0
  try clear hx225_1
  try clear hx225_2
  try clear hx225_3
  try clear hx225_4
  try clear hx225_5
  try clear p2
  try clear p22
  try clear p225
  try clear p6
  try clear q2
  try clear q22
  try clear q225
  obtain ⟨kq, HA, HJ3, BK220, BK221, HB⟩ := hcut
  cases kq with
  | zero => exact absurd HA.out (by simp [model_checkSample.j3])
  | succ kj3 =>
   have H := HA.out; clear HA; simp only [model_checkSample.j3] at H; have H' := Aside0.mk H; clear H; have hnb44 := NB221_220.out; have hnc44 := NB220_221.out; have hcz45_0 : wc.cell? ⟨gb221, 0, none⟩ = some (.int .i64 a2_0) := ct BK221 0; have hcz45_1 : wc.cell? ⟨gb221, 1, none⟩ = some (.int .i64 a2_1) := ct BK221 1; have hcz45_2 : wc.cell? ⟨gb221, 2, none⟩ = some (.int .i64 a2_2) := ct BK221 2; have hcz45_3 : wc.cell? ⟨gb221, 3, none⟩ = some (.bool a2_3) := ct BK221 3; have hcz45_4 : wc.cell? ⟨gb221, 4, none⟩ = some (.slice A2_4 l2_4.length c2_4) := ct BK221 4; have hcz45_5 : wc.cell? ⟨gb221, 5, none⟩ = some (.slice A2_5 l2_5.length c2_5) := ct BK221 5; have hfz45_0 := blk_frozen BK221.out 0; have hfz45_1 := blk_frozen BK221.out 1; have hfz45_2 := blk_frozen BK221.out 2; have hfz45_3 := blk_frozen BK221.out 3; have hfz45_4 := blk_frozen BK221.out 4; have hfz45_5 := blk_frozen BK221.out 5
   go_wp2
   repeat (go_quiet (fail); try go_wp2)
   go_loopg [7, 65] kj3 (fun kq v7 v65 w' => ∃ (x7_2 : Int) (x65_2 : Int), v7 = .int .i64 x7_2 ∧ v65 = .int .i64 x65_2 ∧ Aside0 (model_checkSample.l0 kq a1 x7_2 l2_4 (l2_4.length : Int) x65_2 = some r) ∧ Aside0 (kq ≤ kj3) ∧ Aside0 (w'.heap[gb220]? = some (.cells #[.int .i64 a0_0, .int .i64 a0_1, .string a0_2, .int .i64 a0_3, (.slice A0_4 l0_4.length c0_4), .string a0_5, .string a0_6, .int .i64 a0_7, (.slice A0_8 l0_8.length c0_8), (.slice A0_9 l0_9.length c0_9), (.slice A0_10 l0_10.length c0_10)] 40 (0, 0))) ∧ Aside0 (w'.heap[gb221]? = some (.cells #[.int .i64 a2_0, .int .i64 a2_1, .int .i64 a2_2, .bool a2_3, (.slice A2_4 l2_4.length c2_4), (.slice A2_5 l2_5.length c2_5)] 51 (0, 0))) ∧ Aside0 (Below w.heap.size w w'))
   case atStart => exact ⟨((-1)), (0), jz, jz, H', ⟨Nat.le_refl _⟩, ⟨kz⟩, ⟨kz⟩, ⟨bz⟩⟩
   case round =>
    clear H'
    try clear c1
    try clear c2
    try clear p2
    try clear q2
    try clear hx2
    try clear c3
    try clear c4
    try clear c5
    try clear p6
    try clear c9
    try clear c11
    try clear c13
    try clear c15
    try clear c17
    try clear c19
    try clear c21
    try clear c21b0
    try clear c21b1
    try clear c22
    try clear p22
    try clear q22
    try clear hx22
    try clear c24
    try clear c26
    try clear c28
    try clear c28b0
    try clear c30
    try clear c30b0
    try clear c31
    try clear c31b0
    try clear c32
    try clear c35
    try clear c36
    try clear c37
    try clear c37b0
    try clear c37b1
    try clear c38
    try clear c40
    try clear c42
    try clear c44
    try clear hcz14_0
    try clear hcz14_1
    try clear hcz14_2
    try clear hcz14_3
    try clear hcz14_4
    try clear hcz14_5
    try clear hcz16_0
    try clear hcz16_1
    try clear hcz16_2
    try clear hcz16_3
    try clear hcz16_4
    try clear hcz16_5
    try clear hcz18_0
    try clear hcz18_1
    try clear hcz18_2
    try clear hcz18_3
    try clear hcz18_4
    try clear hcz18_5
    try clear hcz23_0
    try clear hcz23_1
    try clear hcz23_2
    try clear hcz23_3
    try clear hcz23_4
    try clear hcz23_5
    try clear hcz25_0
    try clear hcz25_1
    try clear hcz25_2
    try clear hcz25_3
    try clear hcz25_4
    try clear hcz25_5
    try clear hcz33_0
    try clear hcz33_1
    try clear hcz33_2
    try clear hcz33_3
    try clear hcz33_4
    try clear hcz33_5
    try clear hcz34_0
    try clear hcz34_1
    try clear hcz34_10
    try clear hcz34_2
    try clear hcz34_3
    try clear hcz34_4
    try clear hcz34_5
    try clear hcz34_6
    try clear hcz34_7
    try clear hcz34_8
    try clear hcz34_9
    try clear hcz39_0
    try clear hcz39_1
    try clear hcz39_2
    try clear hcz39_3
    try clear hcz39_4
    try clear hcz39_5
    try clear hcz41_0
    try clear hcz41_1
    try clear hcz41_2
    try clear hcz41_3
    try clear hcz41_4
    try clear hcz41_5
    try clear hcz43_0
    try clear hcz43_1
    try clear hcz43_2
    try clear hcz43_3
    try clear hcz43_4
    try clear hcz43_5
    try clear hcz45_0
    try clear hcz45_1
    try clear hcz45_2
    try clear hcz45_3
    try clear hcz45_4
    try clear hcz45_5
    try clear hfz14_0
    try clear hfz14_1
    try clear hfz14_2
    try clear hfz14_3
    try clear hfz14_4
    try clear hfz14_5
    try clear hfz16_0
    try clear hfz16_1
    try clear hfz16_2
    try clear hfz16_3
    try clear hfz16_4
    try clear hfz16_5
    try clear hfz18_0
    try clear hfz18_1
    try clear hfz18_2
    try clear hfz18_3
    try clear hfz18_4
    try clear hfz18_5
    try clear hfz23_0
    try clear hfz23_1
    try clear hfz23_2
    try clear hfz23_3
    try clear hfz23_4
    try clear hfz23_5
    try clear hfz25_0
    try clear hfz25_1
    try clear hfz25_2
    try clear hfz25_3
    try clear hfz25_4
    try clear hfz25_5
    try clear hfz33_0
    try clear hfz33_1
    try clear hfz33_2
    try clear hfz33_3
    try clear hfz33_4
    try clear hfz33_5
    try clear hfz34_0
    try clear hfz34_1
    try clear hfz34_10
    try clear hfz34_2
    try clear hfz34_3
    try clear hfz34_4
    try clear hfz34_5
    try clear hfz34_6
    try clear hfz34_7
    try clear hfz34_8
    try clear hfz34_9
    try clear hfz39_0
    try clear hfz39_1
    try clear hfz39_2
    try clear hfz39_3
    try clear hfz39_4
    try clear hfz39_5
    try clear hfz41_0
    try clear hfz41_1
    try clear hfz41_2
    try clear hfz41_3
    try clear hfz41_4
    try clear hfz41_5
    try clear hfz43_0
    try clear hfz43_1
    try clear hfz43_2
    try clear hfz43_3
    try clear hfz43_4
    try clear hfz43_5
    try clear hfz45_0
    try clear hfz45_1
    try clear hfz45_2
    try clear hfz45_3
    try clear hfz45_4
    try clear hfz45_5
    try clear hx225_0
    try clear hx225_1
    try clear hx225_2
    try clear hx225_3
    try clear hx225_4
    try clear hx225_5
    try clear p2
    try clear p22
    try clear p225
    try clear p6
    try clear q2
    try clear q22
    try clear q225
    obtain ⟨x7_2, x65_2, rfl, rfl, HA, HK2, BK220, BK221, HB⟩ := hrel
    cases gk with
    | zero => exact absurd HA.out (by simp [model_checkSample.l0])
    | succ k2 =>
     have H := HA.out; clear HA; simp only [model_checkSample.l0] at H
     by_cases c46 : x65_2 < (l2_4.length : Int)
     ·rw [if_pos c46] at H; have c46b0 : decide (x65_2 < (l2_4.length : Int)) = true := decide_eq_true c46; clear c46
      by_cases c47 : 0 ≤ x65_2
      ·rw [if_pos c47] at H; have c47b0 : decide (0 ≤ x65_2) = true := decide_eq_true c47; clear c47
       by_cases c48 : x65_2 < (l2_4.length : Int)
       ·rw [if_pos c48] at H; have c48b0 : decide (x65_2 < (l2_4.length : Int)) = true := decide_eq_true c48; clear c48
        by_cases c49 : (rd l2_4 x65_2) ≤ x7_2
        ·rw [if_pos c49] at H; have c49b0 : decide ((rd l2_4 x65_2) ≤ x7_2) = true := decide_eq_true c49; clear c49; obtain rfl := Option.some.inj H; have p226 : 0 ≤ (x65_2 : Int) := od; have q226 : x65_2 < (l2_4.length : Int) := od; obtain ⟨ad226, e226, hx226_0⟩ := Kd.at_int HR2_4.out x65_2 p226 q226
         cases e226
         replace hx226_0 := cl HB hx226_0; replace p226 := eq_true p226; replace q226 := eq_true q226
         go_wp2
         repeat (go_quiet (fail); try go_wp2)
         go_ret
         exact ⟨ez, bz⟩
        ·rw [if_neg c49] at H; have c49b0 : decide ((rd l2_4 x65_2) ≤ x7_2) = false := decide_eq_false c49; clear c49
         by_cases c50 : (rd l2_4 x65_2) ≥ a1
         ·rw [if_pos c50] at H; have c50b0 : decide (a1 ≤ (rd l2_4 x65_2)) = true := decide_eq_true c50; clear c50; obtain rfl := Option.some.inj H; have p226 : 0 ≤ (x65_2 : Int) := od; have q226 : x65_2 < (l2_4.length : Int) := od; obtain ⟨ad226, e226, hx226_0⟩ := Kd.at_int HR2_4.out x65_2 p226 q226
          cases e226
          replace hx226_0 := cl HB hx226_0; replace p226 := eq_true p226; replace q226 := eq_true q226
          go_wp2
          repeat (go_quiet (fail); try go_wp2)
          go_ret
          exact ⟨ez, bz⟩
         ·rw [if_neg c50] at H; have c50b0 : decide (a1 ≤ (rd l2_4 x65_2)) = false := decide_eq_false c50; clear c50; have H' := Aside0.mk H; clear H; have p226 : 0 ≤ (x65_2 : Int) := od; have q226 : x65_2 < (l2_4.length : Int) := od; obtain ⟨ad226, e226, hx226_0⟩ := Kd.at_int HR2_4.out x65_2 p226 q226
          cases e226
          replace hx226_0 := cl HB hx226_0; replace p226 := eq_true p226; replace q226 := eq_true q226
          go_wp2
          repeat (go_quiet (fail); try go_wp2)
          go_roundg k2
          case measure => have := HJ3.out; have := HK2.out; omega
          case rel => exact ⟨(rd l2_4 x65_2), (wrap64 (x65_2 + 1)), jz, jz, H', ⟨by have := HJ3.out; have := HK2.out; omega⟩, ⟨kz⟩, ⟨kz⟩, ⟨bz⟩⟩
       ·rw [if_neg c48] at H
        exact absurd H (by simp)
      ·rw [if_neg c47] at H
       exact absurd H (by simp)
     ·rw [if_neg c46] at H; have c46b0 : decide (x65_2 < (l2_4.length : Int)) = false := decide_eq_false c46; clear c46; obtain rfl := Option.some.inj H
      go_wp2
      repeat (go_quiet (fail); try go_wp2)
      go_ret
      exact ⟨ez, bz⟩
end Go.Proofs.Ytknklchmpohjfaa.E

/-
  Printed walks.
-/
import Derived.Test.YtpbhepdgamoiaaaQREditWholea
import Derived.Test.YtpbhepdgamoiaaaQREditWholed
import Derived.Test.YtpbhepdgamoiaaaQREditWholec
namespace Go.Proofs.Ytpbhepdgamoiaaa.E
open Go.Proofs.Ytpbhepdgamoiaaa.Z Go.RowKit Go.Proofs.YtpbhepdgamoiaaaW.PrintWords Go.Proofs.YtpbhepdgamoiaaaW.PrintLast Go.Proofs.YtpbhepdgamoiaaaW.PrintMore
attribute [local go_sem] max2_int min2_int max_two min_two max_three min_three max_four min_four
set_option linter.unusedVariables false
set_option linter.unusedSimpArgs false
mutual
def dioramaref03_CheckTrack.j0 : Nat → Bool → Int → Int → ByteArray → Int → List Int → ByteArray → ByteArray → Int → List (S77) → List (S150) → List (S120) → Option (Int)
  | 0, _, _, _, _, _, _, _, _, _, _, _, _ => none
  | k + 1, x30, x1297000, x1297001, x1297002, x1297003, x1297004, x1297005, x1297006, x1297007, x1297008, x1297009, x1297010 => if x30 = true then (some 2) else ((dioramaref03_edits.f k x1297008).bind fun t1298 => (if t1298 = true then (dioramaref03_CheckTrack.l0 k 0 0 x1297000 x1297001 x1297002 x1297003 x1297004 x1297005 x1297006 x1297007 x1297008 x1297009 x1297010) else (some 33)))
def dioramaref03_CheckTrack.l0 : Nat → Int → Int → Int → Int → ByteArray → Int → List Int → ByteArray → ByteArray → Int → List (S77) → List (S150) → List (S120) → Option (Int)
  | 0, _, _, _, _, _, _, _, _, _, _, _, _, _ => none
  | k + 1, x3, x4, x1297000, x1297001, x1297002, x1297003, x1297004, x1297005, x1297006, x1297007, x1297008, x1297009, x1297010 => if x4 < (x1297010.length : Int) then (if 0 ≤ x4 then ((dioramaref03_sample.f k ((rd_T120 x1297010 x4).f0) ((rd_T120 x1297010 x4).f1) ((rd_T120 x1297010 x4).f2) ((rd_T120 x1297010 x4).f3) ((rd_T120 x1297010 x4).f4) ((rd_T120 x1297010 x4).f5) x4 x3).bind fun t1300 => (if t1300 = 0 then (dioramaref03_CheckTrack.l0 k ((rd_T120 x1297010 x4).f0) (wrap64 (x4 + 1)) x1297000 x1297001 x1297002 x1297003 x1297004 x1297005 x1297006 x1297007 x1297008 x1297009 x1297010) else (some t1300))) else (none)) else (some 0)
end
def dioramaref03_CheckTrack.f (k : Nat) (a0_0 : Int) (a0_1 : Int) (a0_2 : ByteArray) (a0_3 : Int) (l0_4 : List Int) (a0_5 : ByteArray) (a0_6 : ByteArray) (a0_7 : Int) (l0_8 : List (S77)) (l0_9 : List (S150)) (l0_10 : List (S120)) : Option (Int) := (dioramaref03_fields.f k a0_0 a0_1 a0_2 a0_3 l0_4 a0_5 a0_6 a0_7 l0_8 l0_9 l0_10).bind fun t1297 => (if t1297 = true then (if (l0_4.length : Int) > 1000 then (dioramaref03_CheckTrack.j0 k true a0_0 a0_1 a0_2 a0_3 l0_4 a0_5 a0_6 a0_7 l0_8 l0_9 l0_10) else (if (l0_8.length : Int) > 20 then (dioramaref03_CheckTrack.j0 k true a0_0 a0_1 a0_2 a0_3 l0_4 a0_5 a0_6 a0_7 l0_8 l0_9 l0_10) else (if (l0_9.length : Int) > 8 then (dioramaref03_CheckTrack.j0 k true a0_0 a0_1 a0_2 a0_3 l0_4 a0_5 a0_6 a0_7 l0_8 l0_9 l0_10) else (dioramaref03_CheckTrack.j0 k (decide ((l0_10.length : Int) > 400)) a0_0 a0_1 a0_2 a0_3 l0_4 a0_5 a0_6 a0_7 l0_8 l0_9 l0_10)))) else (some 1))
set_option maxHeartbeats 8000000 in
set_option maxRecDepth 100000 in
theorem dioramaref03_CheckTrack.calls (k : Nat) (a0_0 : Int) (a0_1 : Int) (a0_2 : ByteArray) (a0_3 : Int) (A0_4 : Option Addr) (c0_4 : Nat) (l0_4 : List Int) (a0_5 : ByteArray) (a0_6 : ByteArray) (a0_7 : Int) (A0_8 : Option Addr) (c0_8 : Nat) (l0_8 : List (S77)) (A0_9 : Option Addr) (c0_9 : Nat) (l0_9 : List (S150)) (A0_10 : Option Addr) (c0_10 : Nat) (l0_10 : List (S120)) (r : Int) (w : World) (hr0_4 : Kd.C (Kd.int .u8) w A0_4 l0_4.length l0_4) (hc0_4 : l0_4.length ≤ c0_4) (hr0_8 : Kd.C k77 w A0_8 l0_8.length l0_8) (hc0_8 : l0_8.length ≤ c0_8) (hr0_9 : Kd.C k150 w A0_9 l0_9.length l0_9) (hc0_9 : l0_9.length ≤ c0_9) (hr0_10 : Kd.C k120 w A0_10 l0_10.length l0_10) (hc0_10 : l0_10.length ≤ c0_10) (h : dioramaref03_CheckTrack.f k a0_0 a0_1 a0_2 a0_3 l0_4 a0_5 a0_6 a0_7 l0_8 l0_9 l0_10 = some r) :
  Calls Try.prog 54 #[.agg #[.int .i64 a0_0, .int .i64 a0_1, .string a0_2, .int .i64 a0_3, .slice A0_4 l0_4.length c0_4, .string a0_5, .string a0_6, .int .i64 a0_7, .slice A0_8 l0_8.length c0_8, .slice A0_9 l0_9.length c0_9, .slice A0_10 l0_10.length c0_10]] w fun e w' => e = .returned (.int .i64 r) ∧ Below w.heap.size w w' := by
 have hu71 := Try.underlying71; have hu120 := Try.underlying120; have HR0_4 := Aside0.mk hr0_4; have HC0_4 := Aside0.mk hc0_4; clear hr0_4 hc0_4; have HR0_8 := Aside0.mk hr0_8; have HC0_8 := Aside0.mk hc0_8; clear hr0_8 hc0_8; have HR0_9 := Aside0.mk hr0_9; have HC0_9 := Aside0.mk hc0_9; clear hr0_9 hc0_9; have HR0_10 := Aside0.mk hr0_10; have HC0_10 := Aside0.mk hc0_10; clear hr0_10 hc0_10; have HB := Aside0.mk (Below.refl w.heap.size w); have H : ((dioramaref03_fields.f k a0_0 a0_1 a0_2 a0_3 l0_4 a0_5 a0_6 a0_7 l0_8 l0_9 l0_10).bind fun t1297 => (if t1297 = true then (if (l0_4.length : Int) > 1000 then (dioramaref03_CheckTrack.j0 k true a0_0 a0_1 a0_2 a0_3 l0_4 a0_5 a0_6 a0_7 l0_8 l0_9 l0_10) else (if (l0_8.length : Int) > 20 then (dioramaref03_CheckTrack.j0 k true a0_0 a0_1 a0_2 a0_3 l0_4 a0_5 a0_6 a0_7 l0_8 l0_9 l0_10) else (if (l0_9.length : Int) > 8 then (dioramaref03_CheckTrack.j0 k true a0_0 a0_1 a0_2 a0_3 l0_4 a0_5 a0_6 a0_7 l0_8 l0_9 l0_10) else (dioramaref03_CheckTrack.j0 k (decide ((l0_10.length : Int) > 400)) a0_0 a0_1 a0_2 a0_3 l0_4 a0_5 a0_6 a0_7 l0_8 l0_9 l0_10)))) else (some 1))) = some r := h
 clear h; obtain ⟨t1297, A2, H⟩ := ob H
 by_cases c3 : t1297 = true
 ·subst c3; rw [if_pos rfl] at H; have HC4 := Aside0.mk H; clear H
  go_enter Try.func54, Try.ntmps54
  go_upto_region 3 with (first | ((with_reducible refine gate_dst (N := 1) rfl ?_); refine zB 1 71 #[.int .i64 a0_0, .int .i64 a0_1, .string a0_2, .int .i64 a0_3, .slice A0_4 l0_4.length c0_4, .string a0_5, .string a0_6, .int .i64 a0_7, .slice A0_8 l0_8.length c0_8, .slice A0_9 l0_9.length c0_9, .slice A0_10 l0_10.length c0_10] ?_; intro gb1296 hg w5 hbox hb; have BK1296 := Aside0.mk hbox; have GW1296 := gz hg; have GE1296 := gz hg; replace HB := bp hb; clear hb hbox hg; have hcz6_0 : w5.cell? ⟨gb1296, 0, none⟩ = some (.int .i64 a0_0) := ct BK1296 0; have hcz6_1 : w5.cell? ⟨gb1296, 1, none⟩ = some (.int .i64 a0_1) := ct BK1296 1; have hcz6_2 : w5.cell? ⟨gb1296, 2, none⟩ = some (.string a0_2) := ct BK1296 2; have hcz6_3 : w5.cell? ⟨gb1296, 3, none⟩ = some (.int .i64 a0_3) := ct BK1296 3; have hcz6_4 : w5.cell? ⟨gb1296, 4, none⟩ = some (.slice A0_4 l0_4.length c0_4) := ct BK1296 4; have hcz6_5 : w5.cell? ⟨gb1296, 5, none⟩ = some (.string a0_5) := ct BK1296 5; have hcz6_6 : w5.cell? ⟨gb1296, 6, none⟩ = some (.string a0_6) := ct BK1296 6; have hcz6_7 : w5.cell? ⟨gb1296, 7, none⟩ = some (.int .i64 a0_7) := ct BK1296 7; have hcz6_8 : w5.cell? ⟨gb1296, 8, none⟩ = some (.slice A0_8 l0_8.length c0_8) := ct BK1296 8; have hcz6_9 : w5.cell? ⟨gb1296, 9, none⟩ = some (.slice A0_9 l0_9.length c0_9) := ct BK1296 9; have hcz6_10 : w5.cell? ⟨gb1296, 10, none⟩ = some (.slice A0_10 l0_10.length c0_10) := ct BK1296 10; have hfz6_0 := blk_frozen BK1296.out 0; have hfz6_1 := blk_frozen BK1296.out 1; have hfz6_2 := blk_frozen BK1296.out 2; have hfz6_3 := blk_frozen BK1296.out 3; have hfz6_4 := blk_frozen BK1296.out 4; have hfz6_5 := blk_frozen BK1296.out 5; have hfz6_6 := blk_frozen BK1296.out 6; have hfz6_7 := blk_frozen BK1296.out 7; have hfz6_8 := blk_frozen BK1296.out 8; have hfz6_9 := blk_frozen BK1296.out 9; have hfz6_10 := blk_frozen BK1296.out 10) | ((with_reducible refine gate_callee (f := 109) rfl ?_); refine zC 7 Try.func109 #[.agg #[.int .i64 a0_0, .int .i64 a0_1, .string a0_2, .int .i64 a0_3, .slice A0_4 l0_4.length c0_4, .string a0_5, .string a0_6, .int .i64 a0_7, .slice A0_8 l0_8.length c0_8, .slice A0_9 l0_9.length c0_9, .slice A0_10 l0_10.length c0_10]] ?_; (with_reducible refine (dioramaref03_fields.calls k a0_0 a0_1 a0_2 a0_3 _ _ l0_4 a0_5 a0_6 a0_7 _ _ l0_8 _ _ l0_9 _ _ l0_10 true _ ?side1 ?side2 ?side3 ?side4 ?side5 ?side6 ?side7 ?side8 A2.out).mono ?_); (case side1 => exact cz HR0_4); (case side2 => exact HC0_4.out); (case side3 => exact cz HR0_8); (case side4 => exact HC0_8.out); (case side5 => exact cz HR0_9); (case side6 => exact HC0_9.out); (case side7 => exact cz HR0_10); (case side8 => exact HC0_10.out); rintro e w7 ⟨rfl, hb⟩; refine ⟨_, rfl, ?_⟩; replace BK1296 := kb BK1296 hb; replace HB := bp hb; clear hb))
  (try simp only [Act.put, List.setIfInBounds_toArray, List.set_cons_zero, List.set_cons_succ])
  go_cut [30] (fun v30 wc => ∃ (kq : Nat) (x30_3 : Bool), v30 = .bool x30_3 ∧ Aside0 (dioramaref03_CheckTrack.j0 kq x30_3 a0_0 a0_1 a0_2 a0_3 l0_4 a0_5 a0_6 a0_7 l0_8 l0_9 l0_10 = some r) ∧ Aside0 (kq ≤ k) ∧ Aside0 (wc.heap[gb1296]? = some (.cells #[.int .i64 a0_0, .int .i64 a0_1, .string a0_2, .int .i64 a0_3, (.slice A0_4 l0_4.length c0_4), .string a0_5, .string a0_6, .int .i64 a0_7, (.slice A0_8 l0_8.length c0_8), (.slice A0_9 l0_9.length c0_9), (.slice A0_10 l0_10.length c0_10)] 71 (0, 0))) ∧ Aside0 (Below w.heap.size w wc))
  case first =>
   have H := HC4.out; clear HC4
   by_cases c8 : (l0_4.length : Int) > 1000
   ·rw [if_pos c8] at H; have c8b0 : decide (1000 < (l0_4.length : Int)) = true := decide_eq_true c8; have c8b1 : decide (1000 < l0_4.length) = true := decide_eq_true (by omega); clear c8
    (first | rw [c8b0] | (simp only [i64_w, i32_w]; rw [c8b0]) | skip)
    have H' := Aside0.mk H; clear H; have hcz9_0 : w7.cell? ⟨gb1296, 0, none⟩ = some (.int .i64 a0_0) := ct BK1296 0; have hcz9_1 : w7.cell? ⟨gb1296, 1, none⟩ = some (.int .i64 a0_1) := ct BK1296 1; have hcz9_2 : w7.cell? ⟨gb1296, 2, none⟩ = some (.string a0_2) := ct BK1296 2; have hcz9_3 : w7.cell? ⟨gb1296, 3, none⟩ = some (.int .i64 a0_3) := ct BK1296 3; have hcz9_4 : w7.cell? ⟨gb1296, 4, none⟩ = some (.slice A0_4 l0_4.length c0_4) := ct BK1296 4; have hcz9_5 : w7.cell? ⟨gb1296, 5, none⟩ = some (.string a0_5) := ct BK1296 5; have hcz9_6 : w7.cell? ⟨gb1296, 6, none⟩ = some (.string a0_6) := ct BK1296 6; have hcz9_7 : w7.cell? ⟨gb1296, 7, none⟩ = some (.int .i64 a0_7) := ct BK1296 7; have hcz9_8 : w7.cell? ⟨gb1296, 8, none⟩ = some (.slice A0_8 l0_8.length c0_8) := ct BK1296 8; have hcz9_9 : w7.cell? ⟨gb1296, 9, none⟩ = some (.slice A0_9 l0_9.length c0_9) := ct BK1296 9; have hcz9_10 : w7.cell? ⟨gb1296, 10, none⟩ = some (.slice A0_10 l0_10.length c0_10) := ct BK1296 10; have hfz9_0 := blk_frozen BK1296.out 0; have hfz9_1 := blk_frozen BK1296.out 1; have hfz9_2 := blk_frozen BK1296.out 2; have hfz9_3 := blk_frozen BK1296.out 3; have hfz9_4 := blk_frozen BK1296.out 4; have hfz9_5 := blk_frozen BK1296.out 5; have hfz9_6 := blk_frozen BK1296.out 6; have hfz9_7 := blk_frozen BK1296.out 7; have hfz9_8 := blk_frozen BK1296.out 8; have hfz9_9 := blk_frozen BK1296.out 9; have hfz9_10 := blk_frozen BK1296.out 10
    go_wp2
    go_meet
    case rel => exact ⟨_, (true), jz, H', ⟨by first | omega | exact Nat.le_refl _⟩, ⟨kz⟩, ⟨bz⟩⟩
   ·rw [if_neg c8] at H; have c8b0 : decide (1000 < (l0_4.length : Int)) = false := decide_eq_false c8; have c8b1 : decide (1000 < l0_4.length) = false := decide_eq_false (by omega); clear c8
    (first | rw [c8b0] | (simp only [i64_w, i32_w]; rw [c8b0]) | skip)
    by_cases c10 : (l0_8.length : Int) > 20
    ·rw [if_pos c10] at H; have c10b0 : decide (20 < (l0_8.length : Int)) = true := decide_eq_true c10; have c10b1 : decide (20 < l0_8.length) = true := decide_eq_true (by omega); clear c10; have H' := Aside0.mk H; clear H; have hcz11_0 : w7.cell? ⟨gb1296, 0, none⟩ = some (.int .i64 a0_0) := ct BK1296 0; have hcz11_1 : w7.cell? ⟨gb1296, 1, none⟩ = some (.int .i64 a0_1) := ct BK1296 1; have hcz11_2 : w7.cell? ⟨gb1296, 2, none⟩ = some (.string a0_2) := ct BK1296 2; have hcz11_3 : w7.cell? ⟨gb1296, 3, none⟩ = some (.int .i64 a0_3) := ct BK1296 3; have hcz11_4 : w7.cell? ⟨gb1296, 4, none⟩ = some (.slice A0_4 l0_4.length c0_4) := ct BK1296 4; have hcz11_5 : w7.cell? ⟨gb1296, 5, none⟩ = some (.string a0_5) := ct BK1296 5; have hcz11_6 : w7.cell? ⟨gb1296, 6, none⟩ = some (.string a0_6) := ct BK1296 6; have hcz11_7 : w7.cell? ⟨gb1296, 7, none⟩ = some (.int .i64 a0_7) := ct BK1296 7; have hcz11_8 : w7.cell? ⟨gb1296, 8, none⟩ = some (.slice A0_8 l0_8.length c0_8) := ct BK1296 8; have hcz11_9 : w7.cell? ⟨gb1296, 9, none⟩ = some (.slice A0_9 l0_9.length c0_9) := ct BK1296 9; have hcz11_10 : w7.cell? ⟨gb1296, 10, none⟩ = some (.slice A0_10 l0_10.length c0_10) := ct BK1296 10; have hfz11_0 := blk_frozen BK1296.out 0; have hfz11_1 := blk_frozen BK1296.out 1; have hfz11_2 := blk_frozen BK1296.out 2; have hfz11_3 := blk_frozen BK1296.out 3; have hfz11_4 := blk_frozen BK1296.out 4; have hfz11_5 := blk_frozen BK1296.out 5; have hfz11_6 := blk_frozen BK1296.out 6; have hfz11_7 := blk_frozen BK1296.out 7; have hfz11_8 := blk_frozen BK1296.out 8; have hfz11_9 := blk_frozen BK1296.out 9; have hfz11_10 := blk_frozen BK1296.out 10
     go_wp2
     go_meet
     case rel => exact ⟨_, (true), jz, H', ⟨by first | omega | exact Nat.le_refl _⟩, ⟨kz⟩, ⟨bz⟩⟩
    ·rw [if_neg c10] at H; have c10b0 : decide (20 < (l0_8.length : Int)) = false := decide_eq_false c10; have c10b1 : decide (20 < l0_8.length) = false := decide_eq_false (by omega); clear c10
     by_cases c12 : (l0_9.length : Int) > 8
     ·rw [if_pos c12] at H; have c12b0 : decide (8 < (l0_9.length : Int)) = true := decide_eq_true c12; have c12b1 : decide (8 < l0_9.length) = true := decide_eq_true (by omega); clear c12; have H' := Aside0.mk H; clear H; have hcz13_0 : w7.cell? ⟨gb1296, 0, none⟩ = some (.int .i64 a0_0) := ct BK1296 0; have hcz13_1 : w7.cell? ⟨gb1296, 1, none⟩ = some (.int .i64 a0_1) := ct BK1296 1; have hcz13_2 : w7.cell? ⟨gb1296, 2, none⟩ = some (.string a0_2) := ct BK1296 2; have hcz13_3 : w7.cell? ⟨gb1296, 3, none⟩ = some (.int .i64 a0_3) := ct BK1296 3; have hcz13_4 : w7.cell? ⟨gb1296, 4, none⟩ = some (.slice A0_4 l0_4.length c0_4) := ct BK1296 4; have hcz13_5 : w7.cell? ⟨gb1296, 5, none⟩ = some (.string a0_5) := ct BK1296 5; have hcz13_6 : w7.cell? ⟨gb1296, 6, none⟩ = some (.string a0_6) := ct BK1296 6; have hcz13_7 : w7.cell? ⟨gb1296, 7, none⟩ = some (.int .i64 a0_7) := ct BK1296 7; have hcz13_8 : w7.cell? ⟨gb1296, 8, none⟩ = some (.slice A0_8 l0_8.length c0_8) := ct BK1296 8; have hcz13_9 : w7.cell? ⟨gb1296, 9, none⟩ = some (.slice A0_9 l0_9.length c0_9) := ct BK1296 9; have hcz13_10 : w7.cell? ⟨gb1296, 10, none⟩ = some (.slice A0_10 l0_10.length c0_10) := ct BK1296 10; have hfz13_0 := blk_frozen BK1296.out 0; have hfz13_1 := blk_frozen BK1296.out 1; have hfz13_2 := blk_frozen BK1296.out 2; have hfz13_3 := blk_frozen BK1296.out 3; have hfz13_4 := blk_frozen BK1296.out 4; have hfz13_5 := blk_frozen BK1296.out 5; have hfz13_6 := blk_frozen BK1296.out 6; have hfz13_7 := blk_frozen BK1296.out 7; have hfz13_8 := blk_frozen BK1296.out 8; have hfz13_9 := blk_frozen BK1296.out 9; have hfz13_10 := blk_frozen BK1296.out 10
      go_wp2
      go_meet
      case rel => exact ⟨_, (true), jz, H', ⟨by first | omega | exact Nat.le_refl _⟩, ⟨kz⟩, ⟨bz⟩⟩
     ·rw [if_neg c12] at H; have c12b0 : decide (8 < (l0_9.length : Int)) = false := decide_eq_false c12; have c12b1 : decide (8 < l0_9.length) = false := decide_eq_false (by omega); clear c12; have H' := Aside0.mk H; clear H; have hcz14_0 : w7.cell? ⟨gb1296, 0, none⟩ = some (.int .i64 a0_0) := ct BK1296 0; have hcz14_1 : w7.cell? ⟨gb1296, 1, none⟩ = some (.int .i64 a0_1) := ct BK1296 1; have hcz14_2 : w7.cell? ⟨gb1296, 2, none⟩ = some (.string a0_2) := ct BK1296 2; have hcz14_3 : w7.cell? ⟨gb1296, 3, none⟩ = some (.int .i64 a0_3) := ct BK1296 3; have hcz14_4 : w7.cell? ⟨gb1296, 4, none⟩ = some (.slice A0_4 l0_4.length c0_4) := ct BK1296 4; have hcz14_5 : w7.cell? ⟨gb1296, 5, none⟩ = some (.string a0_5) := ct BK1296 5; have hcz14_6 : w7.cell? ⟨gb1296, 6, none⟩ = some (.string a0_6) := ct BK1296 6; have hcz14_7 : w7.cell? ⟨gb1296, 7, none⟩ = some (.int .i64 a0_7) := ct BK1296 7; have hcz14_8 : w7.cell? ⟨gb1296, 8, none⟩ = some (.slice A0_8 l0_8.length c0_8) := ct BK1296 8; have hcz14_9 : w7.cell? ⟨gb1296, 9, none⟩ = some (.slice A0_9 l0_9.length c0_9) := ct BK1296 9; have hcz14_10 : w7.cell? ⟨gb1296, 10, none⟩ = some (.slice A0_10 l0_10.length c0_10) := ct BK1296 10; have hfz14_0 := blk_frozen BK1296.out 0; have hfz14_1 := blk_frozen BK1296.out 1; have hfz14_2 := blk_frozen BK1296.out 2; have hfz14_3 := blk_frozen BK1296.out 3; have hfz14_4 := blk_frozen BK1296.out 4; have hfz14_5 := blk_frozen BK1296.out 5; have hfz14_6 := blk_frozen BK1296.out 6; have hfz14_7 := blk_frozen BK1296.out 7; have hfz14_8 := blk_frozen BK1296.out 8; have hfz14_9 := blk_frozen BK1296.out 9; have hfz14_10 := blk_frozen BK1296.out 10
      go_wp2
      go_meet
      case rel => exact ⟨_, (decide ((l0_10.length : Int) > 400)), jz, H', ⟨by first | omega | exact Nat.le_refl _⟩, ⟨kz⟩, ⟨bz⟩⟩
  case rest =>
   clear HC4
   try clear c1
   try clear p2
   try clear c3
   try clear c5
   try clear c8
   try clear c8b0
   try clear c8b1
   try clear c10
   try clear c10b0
   try clear c10b1
   try clear c12
   try clear c12b0
   try clear c12b1
   try clear hcz11_0
   try clear hcz11_1
   try clear hcz11_10
   try clear hcz11_2
   try clear hcz11_3
   try clear hcz11_4
   try clear hcz11_5
   try clear hcz11_6
   try clear hcz11_7
   try clear hcz11_8
   try clear hcz11_9
   try clear hcz13_0
   try clear hcz13_1
   try clear hcz13_10
   try clear hcz13_2
   try clear hcz13_3
   try clear hcz13_4
   try clear hcz13_5
   try clear hcz13_6
   try clear hcz13_7
   try clear hcz13_8
   try clear hcz13_9
   try clear hcz14_0
   try clear hcz14_1
   try clear hcz14_10
   try clear hcz14_2
   try clear hcz14_3
   try clear hcz14_4
   try clear hcz14_5
   try clear hcz14_6
   try clear hcz14_7
   try clear hcz14_8
   try clear hcz14_9
   try clear hcz6_0
   try clear hcz6_1
   try clear hcz6_10
   try clear hcz6_2
   try clear hcz6_3
   try clear hcz6_4
   try clear hcz6_5
   try clear hcz6_6
   try clear hcz6_7
   try clear hcz6_8
   try clear hcz6_9
   try clear hcz9_0
   try clear hcz9_1
   try clear hcz9_10
   try clear hcz9_2
   try clear hcz9_3
   try clear hcz9_4
   try clear hcz9_5
   try clear hcz9_6
   try clear hcz9_7
   try clear hcz9_8
   try clear hcz9_9
   try clear hfz11_0
   try clear hfz11_1
   try clear hfz11_10
   try clear hfz11_2
   try clear hfz11_3
   try clear hfz11_4
   try clear hfz11_5
   try clear hfz11_6
   try clear hfz11_7
   try clear hfz11_8
   try clear hfz11_9
   try clear hfz13_0
   try clear hfz13_1
   try clear hfz13_10
   try clear hfz13_2
   try clear hfz13_3
   try clear hfz13_4
   try clear hfz13_5
   try clear hfz13_6
   try clear hfz13_7
   try clear hfz13_8
   try clear hfz13_9
   try clear hfz14_0
   try clear hfz14_1
   try clear hfz14_10
   try clear hfz14_2
   try clear hfz14_3
   try clear hfz14_4
   try clear hfz14_5
   try clear hfz14_6
   try clear hfz14_7
   try clear hfz14_8
   try clear hfz14_9
   try clear hfz6_0
   try clear hfz6_1
   try clear hfz6_10
   try clear hfz6_2
   try clear hfz6_3
   try clear hfz6_4
   try clear hfz6_5
   try clear hfz6_6
   try clear hfz6_7
   try clear hfz6_8
   try clear hfz6_9
   try clear hfz9_0
   try clear hfz9_1
   try clear hfz9_10
   try clear hfz9_2
   try clear hfz9_3
   try clear hfz9_4
   try clear hfz9_5
   try clear hfz9_6
   try clear hfz9_7
   try clear hfz9_8
   try clear hfz9_9
   obtain ⟨kq, x30_3, rfl, HA, HJ3, BK1296, HB⟩ := hcut
   cases kq with
   | zero => exact absurd HA.out (by simp [dioramaref03_CheckTrack.j0])
   | succ kj3 =>
    have H := HA.out; clear HA; simp only [dioramaref03_CheckTrack.j0] at H
    by_cases c15 : x30_3 = true
    ·subst c15; rw [if_pos rfl] at H; obtain rfl := Option.some.inj H
     go_wp2
     go_ret
     exact ⟨ez, bz⟩
    ·obtain rfl := bf c15; rw [if_neg (show ¬ (false = true) by decide)] at H; obtain ⟨t1298, A16, H⟩ := ob H
     by_cases c17 : t1298 = true
     ·subst c17; rw [if_pos rfl] at H; have H' := Aside0.mk H; clear H; have hcz18_0 : wc.cell? ⟨gb1296, 0, none⟩ = some (.int .i64 a0_0) := ct BK1296 0; have hcz18_1 : wc.cell? ⟨gb1296, 1, none⟩ = some (.int .i64 a0_1) := ct BK1296 1; have hcz18_2 : wc.cell? ⟨gb1296, 2, none⟩ = some (.string a0_2) := ct BK1296 2; have hcz18_3 : wc.cell? ⟨gb1296, 3, none⟩ = some (.int .i64 a0_3) := ct BK1296 3; have hcz18_4 : wc.cell? ⟨gb1296, 4, none⟩ = some (.slice A0_4 l0_4.length c0_4) := ct BK1296 4; have hcz18_5 : wc.cell? ⟨gb1296, 5, none⟩ = some (.string a0_5) := ct BK1296 5; have hcz18_6 : wc.cell? ⟨gb1296, 6, none⟩ = some (.string a0_6) := ct BK1296 6; have hcz18_7 : wc.cell? ⟨gb1296, 7, none⟩ = some (.int .i64 a0_7) := ct BK1296 7; have hcz18_8 : wc.cell? ⟨gb1296, 8, none⟩ = some (.slice A0_8 l0_8.length c0_8) := ct BK1296 8; have hcz18_9 : wc.cell? ⟨gb1296, 9, none⟩ = some (.slice A0_9 l0_9.length c0_9) := ct BK1296 9; have hcz18_10 : wc.cell? ⟨gb1296, 10, none⟩ = some (.slice A0_10 l0_10.length c0_10) := ct BK1296 10; have hfz18_0 := blk_frozen BK1296.out 0; have hfz18_1 := blk_frozen BK1296.out 1; have hfz18_2 := blk_frozen BK1296.out 2; have hfz18_3 := blk_frozen BK1296.out 3; have hfz18_4 := blk_frozen BK1296.out 4; have hfz18_5 := blk_frozen BK1296.out 5; have hfz18_6 := blk_frozen BK1296.out 6; have hfz18_7 := blk_frozen BK1296.out 7; have hfz18_8 := blk_frozen BK1296.out 8; have hfz18_9 := blk_frozen BK1296.out 9; have hfz18_10 := blk_frozen BK1296.out 10
      go_wp2_with (first | ((with_reducible refine gate_callee (f := 110) rfl ?_); refine zC 33 Try.func110 #[.slice A0_8 l0_8.length c0_8] ?_; (with_reducible refine (dioramaref03_edits.calls kj3 _ _ l0_8 true _ ?side1 ?side2 A16.out).mono ?_); (case side1 => exact cz HR0_8); (case side2 => exact HC0_8.out); rintro e w19 ⟨rfl, hb⟩; refine ⟨_, rfl, ?_⟩; replace BK1296 := kb BK1296 hb; replace HB := bp hb; clear hb))
      go_loopg [3, 4] kj3 (fun kq v3 v4 w' => ∃ (x3_2 : Int) (x4_2 : Int), v3 = .int .i64 x3_2 ∧ v4 = .int .i64 x4_2 ∧ Aside0 (dioramaref03_CheckTrack.l0 kq x3_2 x4_2 a0_0 a0_1 a0_2 a0_3 l0_4 a0_5 a0_6 a0_7 l0_8 l0_9 l0_10 = some r) ∧ Aside0 (kq ≤ kj3) ∧ Aside0 (w'.heap[gb1296]? = some (.cells #[.int .i64 a0_0, .int .i64 a0_1, .string a0_2, .int .i64 a0_3, (.slice A0_4 l0_4.length c0_4), .string a0_5, .string a0_6, .int .i64 a0_7, (.slice A0_8 l0_8.length c0_8), (.slice A0_9 l0_9.length c0_9), (.slice A0_10 l0_10.length c0_10)] 71 (0, 0))) ∧ Aside0 (Below w.heap.size w w'))
      case atStart => exact ⟨(0), (0), jz, jz, H', ⟨Nat.le_refl _⟩, ⟨kz⟩, ⟨bz⟩⟩
      case round =>
       clear H'
       try clear c1
       try clear p2
       try clear c3
       try clear c5
       try clear c8
       try clear c8b0
       try clear c8b1
       try clear c10
       try clear c10b0
       try clear c10b1
       try clear c11
       try clear c12
       try clear c12b0
       try clear c12b1
       try clear c15
       try clear c17
       try clear hcz11_0
       try clear hcz11_1
       try clear hcz11_10
       try clear hcz11_2
       try clear hcz11_3
       try clear hcz11_4
       try clear hcz11_5
       try clear hcz11_6
       try clear hcz11_7
       try clear hcz11_8
       try clear hcz11_9
       try clear hcz13_0
       try clear hcz13_1
       try clear hcz13_10
       try clear hcz13_2
       try clear hcz13_3
       try clear hcz13_4
       try clear hcz13_5
       try clear hcz13_6
       try clear hcz13_7
       try clear hcz13_8
       try clear hcz13_9
       try clear hcz14_0
       try clear hcz14_1
       try clear hcz14_10
       try clear hcz14_2
       try clear hcz14_3
       try clear hcz14_4
       try clear hcz14_5
       try clear hcz14_6
       try clear hcz14_7
       try clear hcz14_8
       try clear hcz14_9
       try clear hcz18_0
       try clear hcz18_1
       try clear hcz18_10
       try clear hcz18_2
       try clear hcz18_3
       try clear hcz18_4
       try clear hcz18_5
       try clear hcz18_6
       try clear hcz18_7
       try clear hcz18_8
       try clear hcz18_9
       try clear hcz6_0
       try clear hcz6_1
       try clear hcz6_10
       try clear hcz6_2
       try clear hcz6_3
       try clear hcz6_4
       try clear hcz6_5
       try clear hcz6_6
       try clear hcz6_7
       try clear hcz6_8
       try clear hcz6_9
       try clear hcz9_0
       try clear hcz9_1
       try clear hcz9_10
       try clear hcz9_2
       try clear hcz9_3
       try clear hcz9_4
       try clear hcz9_5
       try clear hcz9_6
       try clear hcz9_7
       try clear hcz9_8
       try clear hcz9_9
       try clear hfz11_0
       try clear hfz11_1
       try clear hfz11_10
       try clear hfz11_2
       try clear hfz11_3
       try clear hfz11_4
       try clear hfz11_5
       try clear hfz11_6
       try clear hfz11_7
       try clear hfz11_8
       try clear hfz11_9
       try clear hfz13_0
       try clear hfz13_1
       try clear hfz13_10
       try clear hfz13_2
       try clear hfz13_3
       try clear hfz13_4
       try clear hfz13_5
       try clear hfz13_6
       try clear hfz13_7
       try clear hfz13_8
       try clear hfz13_9
       try clear hfz14_0
       try clear hfz14_1
       try clear hfz14_10
       try clear hfz14_2
       try clear hfz14_3
       try clear hfz14_4
       try clear hfz14_5
       try clear hfz14_6
       try clear hfz14_7
       try clear hfz14_8
       try clear hfz14_9
       try clear hfz18_0
       try clear hfz18_1
       try clear hfz18_10
       try clear hfz18_2
       try clear hfz18_3
       try clear hfz18_4
       try clear hfz18_5
       try clear hfz18_6
       try clear hfz18_7
       try clear hfz18_8
       try clear hfz18_9
       try clear hfz6_0
       try clear hfz6_1
       try clear hfz6_10
       try clear hfz6_2
       try clear hfz6_3
       try clear hfz6_4
       try clear hfz6_5
       try clear hfz6_6
       try clear hfz6_7
       try clear hfz6_8
       try clear hfz6_9
       try clear hfz9_0
       try clear hfz9_1
       try clear hfz9_10
       try clear hfz9_2
       try clear hfz9_3
       try clear hfz9_4
       try clear hfz9_5
       try clear hfz9_6
       try clear hfz9_7
       try clear hfz9_8
       try clear hfz9_9
       try clear p2
       obtain ⟨x3_2, x4_2, rfl, rfl, HA, HK2, BK1296, HB⟩ := hrel
       cases gk with
       | zero => exact absurd HA.out (by simp [dioramaref03_CheckTrack.l0])
       | succ k2 =>
        have H := HA.out; clear HA; simp only [dioramaref03_CheckTrack.l0] at H
        by_cases c20 : x4_2 < (l0_10.length : Int)
        ·rw [if_pos c20] at H; have c20b0 : decide (x4_2 < (l0_10.length : Int)) = true := decide_eq_true c20; clear c20
         by_cases c21 : 0 ≤ x4_2
         ·rw [if_pos c21] at H; have c21b0 : decide (0 ≤ x4_2) = true := decide_eq_true c21; clear c21; obtain ⟨t1300, A22, H⟩ := ob H
          by_cases c23 : t1300 = 0
          ·rw [if_pos c23] at H; have c23b0 : (t1300 == 0) = true := beq_iff_eq.mpr c23; have c23b1 : (t1300 != 0) = false := bne_eq_false_iff_eq.mpr c23; clear c23; have H' := Aside0.mk H; clear H; have hcz24_0 : wr.cell? ⟨gb1296, 0, none⟩ = some (.int .i64 a0_0) := ct BK1296 0; have hcz24_1 : wr.cell? ⟨gb1296, 1, none⟩ = some (.int .i64 a0_1) := ct BK1296 1; have hcz24_2 : wr.cell? ⟨gb1296, 2, none⟩ = some (.string a0_2) := ct BK1296 2; have hcz24_3 : wr.cell? ⟨gb1296, 3, none⟩ = some (.int .i64 a0_3) := ct BK1296 3; have hcz24_4 : wr.cell? ⟨gb1296, 4, none⟩ = some (.slice A0_4 l0_4.length c0_4) := ct BK1296 4; have hcz24_5 : wr.cell? ⟨gb1296, 5, none⟩ = some (.string a0_5) := ct BK1296 5; have hcz24_6 : wr.cell? ⟨gb1296, 6, none⟩ = some (.string a0_6) := ct BK1296 6; have hcz24_7 : wr.cell? ⟨gb1296, 7, none⟩ = some (.int .i64 a0_7) := ct BK1296 7; have hcz24_8 : wr.cell? ⟨gb1296, 8, none⟩ = some (.slice A0_8 l0_8.length c0_8) := ct BK1296 8; have hcz24_9 : wr.cell? ⟨gb1296, 9, none⟩ = some (.slice A0_9 l0_9.length c0_9) := ct BK1296 9; have hcz24_10 : wr.cell? ⟨gb1296, 10, none⟩ = some (.slice A0_10 l0_10.length c0_10) := ct BK1296 10; have hfz24_0 := blk_frozen BK1296.out 0; have hfz24_1 := blk_frozen BK1296.out 1; have hfz24_2 := blk_frozen BK1296.out 2; have hfz24_3 := blk_frozen BK1296.out 3; have hfz24_4 := blk_frozen BK1296.out 4; have hfz24_5 := blk_frozen BK1296.out 5; have hfz24_6 := blk_frozen BK1296.out 6; have hfz24_7 := blk_frozen BK1296.out 7; have hfz24_8 := blk_frozen BK1296.out 8; have hfz24_9 := blk_frozen BK1296.out 9; have hfz24_10 := blk_frozen BK1296.out 10; have p1299 : 0 ≤ (x4_2 : Int) := od; have q1299 : x4_2 < (l0_10.length : Int) := od; obtain ⟨ad1299, A1299_4, c1299_4, A1299_5, c1299_5, e1299, hx1299_0, hx1299_1, hx1299_2, hx1299_3, hx1299_4, hx1299_5, hl1299_4, hi1299_4, hl1299_5, hi1299_5⟩ := at_T120 HR0_10.out x4_2 p1299 q1299
           cases e1299
           replace hx1299_0 := cl HB hx1299_0; replace hx1299_1 := cl HB hx1299_1; replace hx1299_2 := cl HB hx1299_2; replace hx1299_3 := cl HB hx1299_3; replace hx1299_4 := cl HB hx1299_4; replace hx1299_5 := cl HB hx1299_5; have HR1299_4 := Aside0.mk hi1299_4; have HC1299_4 := Aside0.mk hl1299_4; clear hi1299_4 hl1299_4; have HR1299_5 := Aside0.mk hi1299_5; have HC1299_5 := Aside0.mk hl1299_5; clear hi1299_5 hl1299_5; replace p1299 := eq_true p1299; replace q1299 := eq_true q1299
           go_wp2_with (first | ((with_reducible refine gate_callee (f := 111) rfl ?_); refine zC 49 Try.func111 #[.agg #[.int .i64 ((rd_T120 l0_10 x4_2).f0), .int .i64 ((rd_T120 l0_10 x4_2).f1), .int .i64 ((rd_T120 l0_10 x4_2).f2), .bool ((rd_T120 l0_10 x4_2).f3), .slice A1299_4 ((rd_T120 l0_10 x4_2).f4).length c1299_4, .slice A1299_5 ((rd_T120 l0_10 x4_2).f5).length c1299_5], .int .i64 x4_2, .int .i64 x3_2] ?_; (with_reducible refine (dioramaref03_sample.calls k2 ((rd_T120 l0_10 x4_2).f0) ((rd_T120 l0_10 x4_2).f1) ((rd_T120 l0_10 x4_2).f2) ((rd_T120 l0_10 x4_2).f3) _ _ ((rd_T120 l0_10 x4_2).f4) _ _ ((rd_T120 l0_10 x4_2).f5) x4_2 x3_2 t1300 _ ?side1 ?side2 ?side3 ?side4 A22.out).mono ?_); (case side1 => exact cz HR1299_4); (case side2 => exact HC1299_4.out); (case side3 => exact cz HR1299_5); (case side4 => exact HC1299_5.out); rintro e w25 ⟨rfl, hb⟩; refine ⟨_, rfl, ?_⟩; replace BK1296 := kb BK1296 hb; replace HB := bp hb; clear hb; have hcz26_0 : w25.cell? ⟨gb1296, 0, none⟩ = some (.int .i64 a0_0) := ct BK1296 0; have hcz26_1 : w25.cell? ⟨gb1296, 1, none⟩ = some (.int .i64 a0_1) := ct BK1296 1; have hcz26_2 : w25.cell? ⟨gb1296, 2, none⟩ = some (.string a0_2) := ct BK1296 2; have hcz26_3 : w25.cell? ⟨gb1296, 3, none⟩ = some (.int .i64 a0_3) := ct BK1296 3; have hcz26_4 : w25.cell? ⟨gb1296, 4, none⟩ = some (.slice A0_4 l0_4.length c0_4) := ct BK1296 4; have hcz26_5 : w25.cell? ⟨gb1296, 5, none⟩ = some (.string a0_5) := ct BK1296 5; have hcz26_6 : w25.cell? ⟨gb1296, 6, none⟩ = some (.string a0_6) := ct BK1296 6; have hcz26_7 : w25.cell? ⟨gb1296, 7, none⟩ = some (.int .i64 a0_7) := ct BK1296 7; have hcz26_8 : w25.cell? ⟨gb1296, 8, none⟩ = some (.slice A0_8 l0_8.length c0_8) := ct BK1296 8; have hcz26_9 : w25.cell? ⟨gb1296, 9, none⟩ = some (.slice A0_9 l0_9.length c0_9) := ct BK1296 9; have hcz26_10 : w25.cell? ⟨gb1296, 10, none⟩ = some (.slice (some ad1299) l0_10.length c0_10) := ct BK1296 10; have hfz26_0 := blk_frozen BK1296.out 0; have hfz26_1 := blk_frozen BK1296.out 1; have hfz26_2 := blk_frozen BK1296.out 2; have hfz26_3 := blk_frozen BK1296.out 3; have hfz26_4 := blk_frozen BK1296.out 4; have hfz26_5 := blk_frozen BK1296.out 5; have hfz26_6 := blk_frozen BK1296.out 6; have hfz26_7 := blk_frozen BK1296.out 7; have hfz26_8 := blk_frozen BK1296.out 8; have hfz26_9 := blk_frozen BK1296.out 9; have hfz26_10 := blk_frozen BK1296.out 10; have p1301 : 0 ≤ (x4_2 : Int) := od; have q1301 : x4_2 < (l0_10.length : Int) := od; obtain ⟨ad1301, A1301_4, c1301_4, A1301_5, c1301_5, e1301, hx1301_0, hx1301_1, hx1301_2, hx1301_3, hx1301_4, hx1301_5, hl1301_4, hi1301_4, hl1301_5, hi1301_5⟩ := at_T120 HR0_10.out x4_2 p1301 q1301; obtain rfl : ad1299 = ad1301 := (by injection e1301); replace hx1301_0 := cl HB hx1301_0; replace hx1301_1 := cl HB hx1301_1; replace hx1301_2 := cl HB hx1301_2; replace hx1301_3 := cl HB hx1301_3; replace hx1301_4 := cl HB hx1301_4; replace hx1301_5 := cl HB hx1301_5; have HR1301_4 := Aside0.mk hi1301_4; have HC1301_4 := Aside0.mk hl1301_4; clear hi1301_4 hl1301_4; have HR1301_5 := Aside0.mk hi1301_5; have HC1301_5 := Aside0.mk hl1301_5; clear hi1301_5 hl1301_5; replace p1301 := eq_true p1301; replace q1301 := eq_true q1301))
           go_roundg k2
           case measure => have := HJ3.out; have := HK2.out; omega
           case rel => exact ⟨((rd_T120 l0_10 x4_2).f0), (wrap64 (x4_2 + 1)), jz, jz, H', ⟨by have := HJ3.out; have := HK2.out; omega⟩, ⟨kz⟩, ⟨bz⟩⟩
          ·rw [if_neg c23] at H; have c23b0 : (t1300 == 0) = false := beq_eq_false_iff_ne.mpr c23; have c23b1 : (t1300 != 0) = true := bne_iff_ne.mpr c23; obtain rfl := Option.some.inj H; have hcz27_0 : wr.cell? ⟨gb1296, 0, none⟩ = some (.int .i64 a0_0) := ct BK1296 0; have hcz27_1 : wr.cell? ⟨gb1296, 1, none⟩ = some (.int .i64 a0_1) := ct BK1296 1; have hcz27_2 : wr.cell? ⟨gb1296, 2, none⟩ = some (.string a0_2) := ct BK1296 2; have hcz27_3 : wr.cell? ⟨gb1296, 3, none⟩ = some (.int .i64 a0_3) := ct BK1296 3; have hcz27_4 : wr.cell? ⟨gb1296, 4, none⟩ = some (.slice A0_4 l0_4.length c0_4) := ct BK1296 4; have hcz27_5 : wr.cell? ⟨gb1296, 5, none⟩ = some (.string a0_5) := ct BK1296 5; have hcz27_6 : wr.cell? ⟨gb1296, 6, none⟩ = some (.string a0_6) := ct BK1296 6; have hcz27_7 : wr.cell? ⟨gb1296, 7, none⟩ = some (.int .i64 a0_7) := ct BK1296 7; have hcz27_8 : wr.cell? ⟨gb1296, 8, none⟩ = some (.slice A0_8 l0_8.length c0_8) := ct BK1296 8; have hcz27_9 : wr.cell? ⟨gb1296, 9, none⟩ = some (.slice A0_9 l0_9.length c0_9) := ct BK1296 9; have hcz27_10 : wr.cell? ⟨gb1296, 10, none⟩ = some (.slice A0_10 l0_10.length c0_10) := ct BK1296 10; have hfz27_0 := blk_frozen BK1296.out 0; have hfz27_1 := blk_frozen BK1296.out 1; have hfz27_2 := blk_frozen BK1296.out 2; have hfz27_3 := blk_frozen BK1296.out 3; have hfz27_4 := blk_frozen BK1296.out 4; have hfz27_5 := blk_frozen BK1296.out 5; have hfz27_6 := blk_frozen BK1296.out 6; have hfz27_7 := blk_frozen BK1296.out 7; have hfz27_8 := blk_frozen BK1296.out 8; have hfz27_9 := blk_frozen BK1296.out 9; have hfz27_10 := blk_frozen BK1296.out 10; have p1299 : 0 ≤ (x4_2 : Int) := od; have q1299 : x4_2 < (l0_10.length : Int) := od; obtain ⟨ad1299, A1299_4, c1299_4, A1299_5, c1299_5, e1299, hx1299_0, hx1299_1, hx1299_2, hx1299_3, hx1299_4, hx1299_5, hl1299_4, hi1299_4, hl1299_5, hi1299_5⟩ := at_T120 HR0_10.out x4_2 p1299 q1299
           cases e1299
           replace hx1299_0 := cl HB hx1299_0; replace hx1299_1 := cl HB hx1299_1; replace hx1299_2 := cl HB hx1299_2; replace hx1299_3 := cl HB hx1299_3; replace hx1299_4 := cl HB hx1299_4; replace hx1299_5 := cl HB hx1299_5; have HR1299_4 := Aside0.mk hi1299_4; have HC1299_4 := Aside0.mk hl1299_4; clear hi1299_4 hl1299_4; have HR1299_5 := Aside0.mk hi1299_5; have HC1299_5 := Aside0.mk hl1299_5; clear hi1299_5 hl1299_5; replace p1299 := eq_true p1299; replace q1299 := eq_true q1299
           go_wp2_with (first | ((with_reducible refine gate_callee (f := 111) rfl ?_); refine zC 49 Try.func111 #[.agg #[.int .i64 ((rd_T120 l0_10 x4_2).f0), .int .i64 ((rd_T120 l0_10 x4_2).f1), .int .i64 ((rd_T120 l0_10 x4_2).f2), .bool ((rd_T120 l0_10 x4_2).f3), .slice A1299_4 ((rd_T120 l0_10 x4_2).f4).length c1299_4, .slice A1299_5 ((rd_T120 l0_10 x4_2).f5).length c1299_5], .int .i64 x4_2, .int .i64 x3_2] ?_; (with_reducible refine (dioramaref03_sample.calls k2 ((rd_T120 l0_10 x4_2).f0) ((rd_T120 l0_10 x4_2).f1) ((rd_T120 l0_10 x4_2).f2) ((rd_T120 l0_10 x4_2).f3) _ _ ((rd_T120 l0_10 x4_2).f4) _ _ ((rd_T120 l0_10 x4_2).f5) x4_2 x3_2 t1300 _ ?side1 ?side2 ?side3 ?side4 A22.out).mono ?_); (case side1 => exact cz HR1299_4); (case side2 => exact HC1299_4.out); (case side3 => exact cz HR1299_5); (case side4 => exact HC1299_5.out); rintro e w28 ⟨rfl, hb⟩; refine ⟨_, rfl, ?_⟩; replace BK1296 := kb BK1296 hb; replace HB := bp hb; clear hb))
           go_ret
           exact ⟨ez, bz⟩
         ·rw [if_neg c21] at H
          exact absurd H (by simp)
        ·rw [if_neg c20] at H; have c20b0 : decide (x4_2 < (l0_10.length : Int)) = false := decide_eq_false c20; clear c20; obtain rfl := Option.some.inj H; have hcz29_0 : wr.cell? ⟨gb1296, 0, none⟩ = some (.int .i64 a0_0) := ct BK1296 0; have hcz29_1 : wr.cell? ⟨gb1296, 1, none⟩ = some (.int .i64 a0_1) := ct BK1296 1; have hcz29_2 : wr.cell? ⟨gb1296, 2, none⟩ = some (.string a0_2) := ct BK1296 2; have hcz29_3 : wr.cell? ⟨gb1296, 3, none⟩ = some (.int .i64 a0_3) := ct BK1296 3; have hcz29_4 : wr.cell? ⟨gb1296, 4, none⟩ = some (.slice A0_4 l0_4.length c0_4) := ct BK1296 4; have hcz29_5 : wr.cell? ⟨gb1296, 5, none⟩ = some (.string a0_5) := ct BK1296 5; have hcz29_6 : wr.cell? ⟨gb1296, 6, none⟩ = some (.string a0_6) := ct BK1296 6; have hcz29_7 : wr.cell? ⟨gb1296, 7, none⟩ = some (.int .i64 a0_7) := ct BK1296 7; have hcz29_8 : wr.cell? ⟨gb1296, 8, none⟩ = some (.slice A0_8 l0_8.length c0_8) := ct BK1296 8; have hcz29_9 : wr.cell? ⟨gb1296, 9, none⟩ = some (.slice A0_9 l0_9.length c0_9) := ct BK1296 9; have hcz29_10 : wr.cell? ⟨gb1296, 10, none⟩ = some (.slice A0_10 l0_10.length c0_10) := ct BK1296 10; have hfz29_0 := blk_frozen BK1296.out 0; have hfz29_1 := blk_frozen BK1296.out 1; have hfz29_2 := blk_frozen BK1296.out 2; have hfz29_3 := blk_frozen BK1296.out 3; have hfz29_4 := blk_frozen BK1296.out 4; have hfz29_5 := blk_frozen BK1296.out 5; have hfz29_6 := blk_frozen BK1296.out 6; have hfz29_7 := blk_frozen BK1296.out 7; have hfz29_8 := blk_frozen BK1296.out 8; have hfz29_9 := blk_frozen BK1296.out 9; have hfz29_10 := blk_frozen BK1296.out 10
         go_wp2
         go_ret
         exact ⟨ez, bz⟩
     ·obtain rfl := bf c17; rw [if_neg (show ¬ (false = true) by decide)] at H; obtain rfl := Option.some.inj H; have hcz30_0 : wc.cell? ⟨gb1296, 0, none⟩ = some (.int .i64 a0_0) := ct BK1296 0; have hcz30_1 : wc.cell? ⟨gb1296, 1, none⟩ = some (.int .i64 a0_1) := ct BK1296 1; have hcz30_2 : wc.cell? ⟨gb1296, 2, none⟩ = some (.string a0_2) := ct BK1296 2; have hcz30_3 : wc.cell? ⟨gb1296, 3, none⟩ = some (.int .i64 a0_3) := ct BK1296 3; have hcz30_4 : wc.cell? ⟨gb1296, 4, none⟩ = some (.slice A0_4 l0_4.length c0_4) := ct BK1296 4; have hcz30_5 : wc.cell? ⟨gb1296, 5, none⟩ = some (.string a0_5) := ct BK1296 5; have hcz30_6 : wc.cell? ⟨gb1296, 6, none⟩ = some (.string a0_6) := ct BK1296 6; have hcz30_7 : wc.cell? ⟨gb1296, 7, none⟩ = some (.int .i64 a0_7) := ct BK1296 7; have hcz30_8 : wc.cell? ⟨gb1296, 8, none⟩ = some (.slice A0_8 l0_8.length c0_8) := ct BK1296 8; have hcz30_9 : wc.cell? ⟨gb1296, 9, none⟩ = some (.slice A0_9 l0_9.length c0_9) := ct BK1296 9; have hcz30_10 : wc.cell? ⟨gb1296, 10, none⟩ = some (.slice A0_10 l0_10.length c0_10) := ct BK1296 10; have hfz30_0 := blk_frozen BK1296.out 0; have hfz30_1 := blk_frozen BK1296.out 1; have hfz30_2 := blk_frozen BK1296.out 2; have hfz30_3 := blk_frozen BK1296.out 3; have hfz30_4 := blk_frozen BK1296.out 4; have hfz30_5 := blk_frozen BK1296.out 5; have hfz30_6 := blk_frozen BK1296.out 6; have hfz30_7 := blk_frozen BK1296.out 7; have hfz30_8 := blk_frozen BK1296.out 8; have hfz30_9 := blk_frozen BK1296.out 9; have hfz30_10 := blk_frozen BK1296.out 10
      go_wp2_with (first | ((with_reducible refine gate_callee (f := 110) rfl ?_); refine zC 33 Try.func110 #[.slice A0_8 l0_8.length c0_8] ?_; (with_reducible refine (dioramaref03_edits.calls kj3 _ _ l0_8 false _ ?side1 ?side2 A16.out).mono ?_); (case side1 => exact cz HR0_8); (case side2 => exact HC0_8.out); rintro e w31 ⟨rfl, hb⟩; refine ⟨_, rfl, ?_⟩; replace BK1296 := kb BK1296 hb; replace HB := bp hb; clear hb))
      go_ret
      exact ⟨ez, bz⟩
 ·obtain rfl := bf c3; rw [if_neg (show ¬ (false = true) by decide)] at H; obtain rfl := Option.some.inj H
  go_enter Try.func54, Try.ntmps54
  go_wp2_with (first | ((with_reducible refine gate_dst (N := 1) rfl ?_); refine zB 1 71 #[.int .i64 a0_0, .int .i64 a0_1, .string a0_2, .int .i64 a0_3, .slice A0_4 l0_4.length c0_4, .string a0_5, .string a0_6, .int .i64 a0_7, .slice A0_8 l0_8.length c0_8, .slice A0_9 l0_9.length c0_9, .slice A0_10 l0_10.length c0_10] ?_; intro gb1296 hg w32 hbox hb; have BK1296 := Aside0.mk hbox; have GW1296 := gz hg; have GE1296 := gz hg; replace HB := bp hb; clear hb hbox hg; have hcz33_0 : w32.cell? ⟨gb1296, 0, none⟩ = some (.int .i64 a0_0) := ct BK1296 0; have hcz33_1 : w32.cell? ⟨gb1296, 1, none⟩ = some (.int .i64 a0_1) := ct BK1296 1; have hcz33_2 : w32.cell? ⟨gb1296, 2, none⟩ = some (.string a0_2) := ct BK1296 2; have hcz33_3 : w32.cell? ⟨gb1296, 3, none⟩ = some (.int .i64 a0_3) := ct BK1296 3; have hcz33_4 : w32.cell? ⟨gb1296, 4, none⟩ = some (.slice A0_4 l0_4.length c0_4) := ct BK1296 4; have hcz33_5 : w32.cell? ⟨gb1296, 5, none⟩ = some (.string a0_5) := ct BK1296 5; have hcz33_6 : w32.cell? ⟨gb1296, 6, none⟩ = some (.string a0_6) := ct BK1296 6; have hcz33_7 : w32.cell? ⟨gb1296, 7, none⟩ = some (.int .i64 a0_7) := ct BK1296 7; have hcz33_8 : w32.cell? ⟨gb1296, 8, none⟩ = some (.slice A0_8 l0_8.length c0_8) := ct BK1296 8; have hcz33_9 : w32.cell? ⟨gb1296, 9, none⟩ = some (.slice A0_9 l0_9.length c0_9) := ct BK1296 9; have hcz33_10 : w32.cell? ⟨gb1296, 10, none⟩ = some (.slice A0_10 l0_10.length c0_10) := ct BK1296 10; have hfz33_0 := blk_frozen BK1296.out 0; have hfz33_1 := blk_frozen BK1296.out 1; have hfz33_2 := blk_frozen BK1296.out 2; have hfz33_3 := blk_frozen BK1296.out 3; have hfz33_4 := blk_frozen BK1296.out 4; have hfz33_5 := blk_frozen BK1296.out 5; have hfz33_6 := blk_frozen BK1296.out 6; have hfz33_7 := blk_frozen BK1296.out 7; have hfz33_8 := blk_frozen BK1296.out 8; have hfz33_9 := blk_frozen BK1296.out 9; have hfz33_10 := blk_frozen BK1296.out 10) | ((with_reducible refine gate_callee (f := 109) rfl ?_); refine zC 7 Try.func109 #[.agg #[.int .i64 a0_0, .int .i64 a0_1, .string a0_2, .int .i64 a0_3, .slice A0_4 l0_4.length c0_4, .string a0_5, .string a0_6, .int .i64 a0_7, .slice A0_8 l0_8.length c0_8, .slice A0_9 l0_9.length c0_9, .slice A0_10 l0_10.length c0_10]] ?_; (with_reducible refine (dioramaref03_fields.calls k a0_0 a0_1 a0_2 a0_3 _ _ l0_4 a0_5 a0_6 a0_7 _ _ l0_8 _ _ l0_9 _ _ l0_10 false _ ?side1 ?side2 ?side3 ?side4 ?side5 ?side6 ?side7 ?side8 A2.out).mono ?_); (case side1 => exact cz HR0_4); (case side2 => exact HC0_4.out); (case side3 => exact cz HR0_8); (case side4 => exact HC0_8.out); (case side5 => exact cz HR0_9); (case side6 => exact HC0_9.out); (case side7 => exact cz HR0_10); (case side8 => exact HC0_10.out); rintro e w34 ⟨rfl, hb⟩; refine ⟨_, rfl, ?_⟩; replace BK1296 := kb BK1296 hb; replace HB := bp hb; clear hb))
  go_ret
  exact ⟨ez, bz⟩
theorem eqA37 (d : Nat) (w : World) (x0 y0 : Int) (x1 y1 : Int) :
  (Op.equalIn (d + 2) 37 (.agg #[.int .i64 x0, .int .i64 x1]) (.agg #[.int .i64 y0, .int .i64 y1])).run Try.prog w = .ok (x0 == y0 && (x1 == y1)) w := by
 refine eqA_of Try.underlying37 (by kernel_rfl) ?_
 refine eqf_cons (by rfl) (by go_simp; rfl) (by go_simp; rfl) (by go_simp) ?_
 exact eqf_last (by rfl) (by go_simp; rfl) (by go_simp; rfl) (by go_simp)
def dioramaref02_Of.l0 : Nat → Int → List Int → Option (List Int)
  | 0, _, _ => none
  | k + 1, x0, x3 => if x0 > 0 then (if x3.length < 17592186044416 then (dioramaref02_Of.l0 k (wrap64 (Int.tdiv x0 1000000000)) (x3 ++ [Int.tmod x0 1000000000])) else (none)) else (some x3)
def dioramaref02_Of.f (k : Nat) (a0 : Int) : Option (List Int) := dioramaref02_Of.l0 k a0 ([] : List Int)
set_option maxHeartbeats 8000000 in
set_option maxRecDepth 100000 in
theorem dioramaref02_Of.calls (k : Nat) (a0 : Int) (r : List Int) (w : World) (h : dioramaref02_Of.f k a0 = some r) :
  Calls Try.prog 121 #[.int .i64 a0] w fun e w' => ∃ v0_ : Value, e = .returned (v0_) ∧ Kd.R (Kd.int .i64) 3 w' w.heap.size (fun _ => True) v0_ r ∧ Below w.heap.size w w' := by
 have HB := Aside0.mk (Below.refl w.heap.size w); have H : (dioramaref02_Of.l0 k a0 ([] : List Int)) = some r := h; clear h; have H' := Aside0.mk H; clear H
 go_enter Try.func121, Try.ntmps121
 go_wp2
 go_loopg [0, 3] k (fun kq v0 v3 w' => ∃ (x0_1 : Int) (x3_1 : List Int), v0 = .int .i64 x0_1 ∧ Aside0 (dioramaref02_Of.l0 kq x0_1 x3_1 = some r) ∧ Aside0 (kq ≤ k) ∧ Aside0 (Kd.R (Kd.int .i64) 3 w' w.heap.size (fun _ => True) v3 x3_1) ∧ Aside0 (Below w.heap.size w w'))
 case atStart => exact ⟨(a0), (([] : List Int)), jz, H', ⟨Nat.le_refl _⟩, ⟨by first | exact Kd.R_nil _ _ _ _ _ | exact Kd.N_nil _ _ _ _ _ | exact Kd.V_nil _ _ _ _ _ | exact Kd.Q_nil _ _ _ _ _ | exact Kd.S_nil _ _ _ _ _⟩, ⟨bz⟩⟩
 case round =>
  clear H'
  try clear c1
  obtain ⟨x0_1, x3_1, rfl, HA, HK1, HO_3, HB⟩ := hrel
  cases gk with
  | zero => exact absurd HA.out (by simp [dioramaref02_Of.l0])
  | succ k1 =>
   have H := HA.out; clear HA; simp only [dioramaref02_Of.l0] at H
   by_cases c2 : x0_1 > 0
   ·rw [if_pos c2] at H; have c2b0 : decide (0 < x0_1) = true := decide_eq_true c2; clear c2
    by_cases c3 : x3_1.length < 17592186044416
    ·rw [if_pos c3] at H; have LMc3 := Aside0.mk c3; clear c3; obtain ⟨y170, hy170⟩ : ∃ y_ : List Int, y_ = (x3_1 ++ [Int.tmod x0_1 1000000000]) := ⟨_, rfl⟩; replace H : (dioramaref02_Of.l0 k1 (wrap64 (Int.tdiv x0_1 1000000000)) y170) = some r := by first | (rw [hy170]; with_reducible exact H) | (have H2_ := (Option.bind_some _ _).symm.trans H; rw [hy170]; with_reducible exact H2_) | (have H2_ := (Option.bind_some _ _).symm.trans H; with_reducible exact H2_) | with_reducible exact H | (rw [hy170]; exact H) | exact H
     have Ny170 := Aside0.mk hy170; clear hy170; have H' := Aside0.mk H; clear H
     go_wp2_with (first | ((with_reducible refine gate_builtin (b := .append) (xs := #[.tmp 6, .tmp 9]) rfl ?_); at_builtin; refine Kd.R_append (Kd.int .i64) (w0 := w) w.heap.size rfl (.tmp 6) (.tmp 9) 93 3 (.int .i64 0) 8 rfl Try.underlying93 info3 rfl (by decide) (by omega) u3 x3_1 (Int.tmod x0_1 1000000000) [.int .i64 (Int.tmod x0_1 1000000000)] (fun _ => True) (fun _ => False) rfl rfl ?aP (fun _ hk => hk.elim) ?aF ?aO ?aB ?aS ?aL ?_; (case aP => exact rfl); (case aB => exact bz); (case aF => exact (fun _ _ => trivial)); (case aO => exact (rz HO_3)); (case aS => exact sz); (case aL => have := LMc3.out; omega); intro v171 w4 ho hb hg hat; rw [← Ny170.out] at ho; replace HB := Aside0.mk (hb); have HO172 := Aside0.mk (ho); clear HO_3; clear ho hb hg hat))
     go_roundg k1
     case measure => have := HK1.out; omega
     case rel => exact ⟨(wrap64 (Int.tdiv x0_1 1000000000)), (y170), jz, H', ⟨by have := HK1.out; omega⟩, ⟨rz HO172⟩, ⟨bz⟩⟩
    ·rw [if_neg c3] at H
     exact absurd H (by simp)
   ·rw [if_neg c2] at H; have c2b0 : decide (0 < x0_1) = false := decide_eq_false c2; clear c2; obtain rfl := Option.some.inj H
    go_wp2
    go_ret
    exact ⟨_, ez, by (with_reducible repeat (first | apply Kd.R_alloc | apply Kd.R_drewN | apply Kd.R_drew)); exact HO_3.out, bz⟩
def dioramaref10_ratio.f (k : Nat) (a0 : Int) (a1 : Int) : Option (Bool × List Int × List Int) := if a0 < 0 then ((dioramaref02_Of.f k (wrap64 (-a0))).bind fun t174 => ((dioramaref02_Of.f k a1).bind fun t177 => (some (true, t174, t177)))) else ((dioramaref02_Of.f k a0).bind fun t180 => ((dioramaref02_Of.f k a1).bind fun t183 => (some (false, t180, t183))))
set_option maxHeartbeats 8000000 in
set_option maxRecDepth 100000 in
theorem dioramaref10_ratio.calls (k : Nat) (a0 : Int) (a1 : Int) (r1 : Bool) (r2 : List Int) (r3 : List Int) (w : World) (h : dioramaref10_ratio.f k a0 a1 = some (r1, r2, r3)) :
  Calls Try.prog 68 #[.int .i64 a0, .int .i64 a1] w fun e w' => ∃ v1_ v2_ : Value, e = .returned (.agg #[.bool r1, v1_, v2_]) ∧ Kd.R (Kd.int .i64) 3 w' w.heap.size (fun k_ => some k_ ≠ (v2_ : Value).ownBlock) v1_ r2 ∧ Kd.R (Kd.int .i64) 3 w' w.heap.size (fun k_ => some k_ ≠ (v1_ : Value).ownBlock) v2_ r3 ∧ Below w.heap.size w w' := by
 have hu95 := Try.underlying95; have HB := Aside0.mk (Below.refl w.heap.size w); have H : (if a0 < 0 then ((dioramaref02_Of.f k (wrap64 (-a0))).bind fun t174 => ((dioramaref02_Of.f k a1).bind fun t177 => (some (true, t174, t177)))) else ((dioramaref02_Of.f k a0).bind fun t180 => ((dioramaref02_Of.f k a1).bind fun t183 => (some (false, t180, t183))))) = some (r1, r2, r3) := h
 clear h
 by_cases c3 : a0 < 0
 ·rw [if_pos c3] at H; have c3b0 : decide (a0 < 0) = true := decide_eq_true c3; clear c3; obtain ⟨t174, A4, H⟩ := ob H; obtain ⟨t177, A5, H⟩ := ob H; simp only [Option.some.injEq, Prod.mk.injEq] at H; obtain ⟨rfl, rfl, rfl⟩ := H
  go_enter Try.func68, Try.ntmps68
  go_wp2_with (first | ((with_reducible refine gate_dst (N := 4) rfl ?_); refine zB 4 95 #[.bool false, .slice none 0 0, .slice none 0 0] ?_; intro gb173 hg w6 hbox hb; have BK173 := Aside0.mk hbox; have GW173 := gz hg; have GE173 := gz hg; replace HB := bp hb; clear hb hbox hg) | ((with_reducible refine gate_callee (f := 121) rfl ?_); refine zC 9 Try.func121 #[.int .i64 (wrap64 (-a0))] ?_; (with_reducible refine (dioramaref02_Of.calls k (wrap64 (-a0)) t174 _ A4.out).mono ?_); rintro e w7 ⟨v175, rfl, ho0, hb⟩; refine ⟨_, rfl, ?_⟩; have HO176 := Aside0.mk (Kd.R_lower ho0 sz); replace BK173 := kb BK173 hb; replace HB := bp hb; clear hb ho0) | ((with_reducible refine gate_callee (f := 121) rfl ?_); refine zC 11 Try.func121 #[.int .i64 a1] ?_; (with_reducible refine (dioramaref02_Of.calls k a1 t177 _ A5.out).mono ?_); rintro e w8 ⟨v178, rfl, ho0, hb⟩; refine ⟨_, rfl, ?_⟩; have HO179 := Aside0.mk (Kd.R_lower (Kd.R_new' ho0 (Kd.R_lt (rz HO176))) sz); replace HO176 := Aside0.mk (Kd.R_elder' (rz HO176) (Kd.R_base ho0) hb); replace BK173 := kb BK173 hb; replace HB := bp hb; clear hb ho0; obtain ⟨Ao9, co9, eo9⟩ := Kd.R_slice HO179.out; subst eo9; obtain ⟨Ao10, co10, eo10⟩ := Kd.R_slice HO176.out; subst eo10; obtain ⟨hcz11_0, hcz11_1, hcz11_2, hfz11_0, hfz11_1, hfz11_2⟩ := xc3 BK173))
  refine bodyPost_ret (results_cell_row rfl _ _ gb173 95 #[.bool true, .slice Ao10 t174.length co10, .slice Ao9 t177.length co9] (0, 0) _ rfl (by (with_reducible repeat (first | refine blk_drewN ?_ _ | refine blk_drew ?_ | refine blk_alloc ?_ _)); refine blk_put (cs := #[.bool true, .slice Ao10 t174.length co10, .slice none 0 0]) ?_ 2 _ rfl; (with_reducible repeat (first | refine blk_drewN ?_ _ | refine blk_drew ?_ | refine blk_alloc ?_ _)); refine blk_put (cs := #[.bool true, .slice none 0 0, .slice none 0 0]) ?_ 1 _ rfl; (with_reducible repeat (first | refine blk_drewN ?_ _ | refine blk_drew ?_ | refine blk_alloc ?_ _)); refine blk_put (cs := #[.bool false, .slice none 0 0, .slice none 0 0]) ?_ 0 _ rfl; (with_reducible repeat (first | refine blk_drewN ?_ _ | refine blk_drew ?_ | refine blk_alloc ?_ _)); exact BK173.out) Try.underlying95 rfl (by kernel_rfl)) rfl ?_
  exact ⟨_, _, ez, by (with_reducible repeat (first | apply Kd.R_alloc | apply Kd.R_drewN | apply Kd.R_drew)); exact Kd.R_mono (Kd.R_far (p := ⟨gb173, 2, none⟩) (Kd.R_far (p := ⟨gb173, 1, none⟩) (Kd.R_far (p := ⟨gb173, 0, none⟩) (Kd.R_types HO176.out BK173.out (by decide)) (fun _ hk => hk.2) (.bool true)) (fun _ hk => hk.2) (.slice Ao10 t174.length co10)) (fun _ hk => hk.2) (.slice Ao9 t177.length co9)) (fun _ hk => hk.1.2), by (with_reducible repeat (first | apply Kd.R_alloc | apply Kd.R_drewN | apply Kd.R_drew)); exact Kd.R_mono (Kd.R_far (p := ⟨gb173, 2, none⟩) (Kd.R_far (p := ⟨gb173, 1, none⟩) (Kd.R_far (p := ⟨gb173, 0, none⟩) (Kd.R_types HO179.out BK173.out (by decide)) (fun _ hk => hk.2) (.bool true)) (fun _ hk => hk.2) (.slice Ao10 t174.length co10)) (fun _ hk => hk.2) (.slice Ao9 t177.length co9)) (fun _ hk => hk.1.2), bz⟩
 ·rw [if_neg c3] at H; have c3b0 : decide (a0 < 0) = false := decide_eq_false c3; clear c3; obtain ⟨t180, A12, H⟩ := ob H; obtain ⟨t183, A13, H⟩ := ob H; simp only [Option.some.injEq, Prod.mk.injEq] at H; obtain ⟨rfl, rfl, rfl⟩ := H
  go_enter Try.func68, Try.ntmps68
  go_wp2_with (first | ((with_reducible refine gate_dst (N := 4) rfl ?_); refine zB 4 95 #[.bool false, .slice none 0 0, .slice none 0 0] ?_; intro gb173 hg w14 hbox hb; have BK173 := Aside0.mk hbox; have GW173 := gz hg; have GE173 := gz hg; replace HB := bp hb; clear hb hbox hg) | ((with_reducible refine gate_callee (f := 121) rfl ?_); refine zC 14 Try.func121 #[.int .i64 a0] ?_; (with_reducible refine (dioramaref02_Of.calls k a0 t180 _ A12.out).mono ?_); rintro e w15 ⟨v181, rfl, ho0, hb⟩; refine ⟨_, rfl, ?_⟩; have HO182 := Aside0.mk (Kd.R_lower ho0 sz); replace BK173 := kb BK173 hb; replace HB := bp hb; clear hb ho0) | ((with_reducible refine gate_callee (f := 121) rfl ?_); refine zC 16 Try.func121 #[.int .i64 a1] ?_; (with_reducible refine (dioramaref02_Of.calls k a1 t183 _ A13.out).mono ?_); rintro e w16 ⟨v184, rfl, ho0, hb⟩; refine ⟨_, rfl, ?_⟩; have HO185 := Aside0.mk (Kd.R_lower (Kd.R_new' ho0 (Kd.R_lt (rz HO182))) sz); replace HO182 := Aside0.mk (Kd.R_elder' (rz HO182) (Kd.R_base ho0) hb); replace BK173 := kb BK173 hb; replace HB := bp hb; clear hb ho0; obtain ⟨Ao17, co17, eo17⟩ := Kd.R_slice HO185.out; subst eo17; obtain ⟨Ao18, co18, eo18⟩ := Kd.R_slice HO182.out; subst eo18; obtain ⟨hcz19_0, hcz19_1, hcz19_2, hfz19_0, hfz19_1, hfz19_2⟩ := xc3 BK173))
  refine bodyPost_ret (results_cell_row rfl _ _ gb173 95 #[.bool false, .slice Ao18 t180.length co18, .slice Ao17 t183.length co17] (0, 0) _ rfl (by (with_reducible repeat (first | refine blk_drewN ?_ _ | refine blk_drew ?_ | refine blk_alloc ?_ _)); refine blk_put (cs := #[.bool false, .slice Ao18 t180.length co18, .slice none 0 0]) ?_ 2 _ rfl; (with_reducible repeat (first | refine blk_drewN ?_ _ | refine blk_drew ?_ | refine blk_alloc ?_ _)); refine blk_put (cs := #[.bool false, .slice none 0 0, .slice none 0 0]) ?_ 1 _ rfl; (with_reducible repeat (first | refine blk_drewN ?_ _ | refine blk_drew ?_ | refine blk_alloc ?_ _)); refine blk_put (cs := #[.bool false, .slice none 0 0, .slice none 0 0]) ?_ 0 _ rfl; (with_reducible repeat (first | refine blk_drewN ?_ _ | refine blk_drew ?_ | refine blk_alloc ?_ _)); exact BK173.out) Try.underlying95 rfl (by kernel_rfl)) rfl ?_
  exact ⟨_, _, ez, by (with_reducible repeat (first | apply Kd.R_alloc | apply Kd.R_drewN | apply Kd.R_drew)); exact Kd.R_mono (Kd.R_far (p := ⟨gb173, 2, none⟩) (Kd.R_far (p := ⟨gb173, 1, none⟩) (Kd.R_far (p := ⟨gb173, 0, none⟩) (Kd.R_types HO182.out BK173.out (by decide)) (fun _ hk => hk.2) (.bool false)) (fun _ hk => hk.2) (.slice Ao18 t180.length co18)) (fun _ hk => hk.2) (.slice Ao17 t183.length co17)) (fun _ hk => hk.1.2), by (with_reducible repeat (first | apply Kd.R_alloc | apply Kd.R_drewN | apply Kd.R_drew)); exact Kd.R_mono (Kd.R_far (p := ⟨gb173, 2, none⟩) (Kd.R_far (p := ⟨gb173, 1, none⟩) (Kd.R_far (p := ⟨gb173, 0, none⟩) (Kd.R_types HO185.out BK173.out (by decide)) (fun _ hk => hk.2) (.bool false)) (fun _ hk => hk.2) (.slice Ao18 t180.length co18)) (fun _ hk => hk.2) (.slice Ao17 t183.length co17)) (fun _ hk => hk.1.2), bz⟩
def dioramaref02_Compare.l0 : Nat → List Int → List Int → Int → Option (Int)
  | 0, _, _, _ => none
  | k + 1, x0, x1, x5 => if x5 ≥ 0 then (if 0 ≤ x5 then (if x5 < (x0.length : Int) then (if x5 < (x1.length : Int) then (if (rd x0 x5) < (rd x1 x5) then (some (-1)) else (if (rd x0 x5) > (rd x1 x5) then (some 1) else (dioramaref02_Compare.l0 k x0 x1 (wrap64 (x5 - 1))))) else (none)) else (none)) else (none)) else (some 0)
def dioramaref02_Compare.f (k : Nat) (l0 : List Int) (l1 : List Int) : Option (Int) := if (l0.length : Int) = (l1.length : Int) then (dioramaref02_Compare.l0 k l0 l1 (wrap64 ((l0.length : Int) - 1))) else (if (l0.length : Int) < (l1.length : Int) then (some (-1)) else (some 1))
set_option maxHeartbeats 8000000 in
set_option maxRecDepth 100000 in
theorem dioramaref02_Compare.calls (k : Nat) (A0 : Option Addr) (c0 : Nat) (l0 : List Int) (A1 : Option Addr) (c1 : Nat) (l1 : List Int) (r : Int) (w : World) (hr0 : Kd.C (Kd.int .i64) w A0 l0.length l0) (hc0 : l0.length ≤ c0) (hr1 : Kd.C (Kd.int .i64) w A1 l1.length l1) (hc1 : l1.length ≤ c1) (h : dioramaref02_Compare.f k l0 l1 = some r) :
  Calls Try.prog 122 #[.slice A0 l0.length c0, .slice A1 l1.length c1] w fun e w' => e = .returned (.int .i64 r) ∧ Drawn0 w w' := by
 have HR0 := Aside0.mk hr0; have HC0 := Aside0.mk hc0; clear hr0 hc0; have HR1 := Aside0.mk hr1; have HC1 := Aside0.mk hc1; clear hr1 hc1; have H : (if (l0.length : Int) = (l1.length : Int) then (dioramaref02_Compare.l0 k l0 l1 (wrap64 ((l0.length : Int) - 1))) else (if (l0.length : Int) < (l1.length : Int) then (some (-1)) else (some 1))) = some r := h; clear h
 by_cases c3 : (l0.length : Int) = (l1.length : Int)
 ·rw [if_pos c3] at H; have c3b0 : ((l0.length : Int) == (l1.length : Int)) = true := beq_iff_eq.mpr c3; have c3b1 : ((l0.length : Int) != (l1.length : Int)) = false := bne_eq_false_iff_eq.mpr c3; have c3b2 : (l0.length == l1.length) = true := by first | simpa using c3 | (simp at c3 ⊢; omega)
  clear c3; have H' := Aside0.mk H; clear H
  go_enter Try.func122, Try.ntmps122
  go_wp2
  repeat (go_quiet (fail); try go_wp2)
  go_loopg [5] k (fun kq v5 w' => ∃ (x5_1 : Int), v5 = .int .i64 x5_1 ∧ Aside0 (dioramaref02_Compare.l0 kq l0 l1 x5_1 = some r) ∧ Aside0 (kq ≤ k) ∧ Drawn0 w w')
  case atStart => exact ⟨(wrap64 ((l0.length : Int) - 1)), jz, H', ⟨Nat.le_refl _⟩, by repeat (first | exact Drawn0.refl _ | apply Drawn0.step)⟩
  case round =>
   clear H'
   try clear c1
   try clear p2
   try clear c3
   try clear c3b0
   try clear c3b1
   try clear c3b2
   obtain ⟨x5_1, rfl, HA, HK1, ⟨m1, rfl⟩⟩ := hrel
   cases gk with
   | zero => exact absurd HA.out (by simp [dioramaref02_Compare.l0])
   | succ k1 =>
    have H := HA.out; clear HA; simp only [dioramaref02_Compare.l0] at H
    by_cases c4 : x5_1 ≥ 0
    ·rw [if_pos c4] at H; have c4b0 : decide (0 ≤ x5_1) = true := decide_eq_true c4; clear c4
     by_cases c5 : 0 ≤ x5_1
     ·rw [if_pos c5] at H; have c5b0 : decide (0 ≤ x5_1) = true := decide_eq_true c5; clear c5
      by_cases c6 : x5_1 < (l0.length : Int)
      ·rw [if_pos c6] at H; have c6b0 : decide (x5_1 < (l0.length : Int)) = true := decide_eq_true c6; clear c6
       by_cases c7 : x5_1 < (l1.length : Int)
       ·rw [if_pos c7] at H; have c7b0 : decide (x5_1 < (l1.length : Int)) = true := decide_eq_true c7; clear c7
        by_cases c8 : (rd l0 x5_1) < (rd l1 x5_1)
        ·rw [if_pos c8] at H; have c8b0 : decide ((rd l0 x5_1) < (rd l1 x5_1)) = true := decide_eq_true c8; clear c8; obtain rfl := Option.some.inj H; have p186 : 0 ≤ (x5_1 : Int) := od; have q186 : x5_1 < (l0.length : Int) := od; obtain ⟨ad186, e186, hx186_0⟩ := Kd.at_int HR0.out x5_1 p186 q186
         cases e186
         replace p186 := eq_true p186; replace q186 := eq_true q186; have p187 : 0 ≤ (x5_1 : Int) := od; have q187 : x5_1 < (l1.length : Int) := od; obtain ⟨ad187, e187, hx187_0⟩ := Kd.at_int HR1.out x5_1 p187 q187
         cases e187
         replace p187 := eq_true p187; replace q187 := eq_true q187
         go_wp2
         repeat (go_quiet (fail); try go_wp2)
         go_ret
         exact ⟨by first | rfl | (simp; done) | (simp [*]; done), by repeat (first | exact Drawn0.refl _ | apply Drawn0.step)⟩
        ·rw [if_neg c8] at H; have c8b0 : decide ((rd l0 x5_1) < (rd l1 x5_1)) = false := decide_eq_false c8; clear c8
         by_cases c9 : (rd l0 x5_1) > (rd l1 x5_1)
         ·rw [if_pos c9] at H; have c9b0 : decide ((rd l1 x5_1) < (rd l0 x5_1)) = true := decide_eq_true c9; clear c9; obtain rfl := Option.some.inj H; have p186 : 0 ≤ (x5_1 : Int) := od; have q186 : x5_1 < (l0.length : Int) := od; obtain ⟨ad186, e186, hx186_0⟩ := Kd.at_int HR0.out x5_1 p186 q186
          cases e186
          replace p186 := eq_true p186; replace q186 := eq_true q186; have p187 : 0 ≤ (x5_1 : Int) := od; have q187 : x5_1 < (l1.length : Int) := od; obtain ⟨ad187, e187, hx187_0⟩ := Kd.at_int HR1.out x5_1 p187 q187
          cases e187
          replace p187 := eq_true p187; replace q187 := eq_true q187; have p188 : 0 ≤ (x5_1 : Int) := od; have q188 : x5_1 < (l0.length : Int) := od; obtain ⟨ad188, e188, hx188_0⟩ := Kd.at_int HR0.out x5_1 p188 q188; obtain rfl : ad186 = ad188 := (by injection e188); replace p188 := eq_true p188; replace q188 := eq_true q188; have p189 : 0 ≤ (x5_1 : Int) := od; have q189 : x5_1 < (l1.length : Int) := od; obtain ⟨ad189, e189, hx189_0⟩ := Kd.at_int HR1.out x5_1 p189 q189; obtain rfl : ad187 = ad189 := (by injection e189); replace p189 := eq_true p189; replace q189 := eq_true q189
          go_wp2
          repeat (go_quiet (fail); try go_wp2)
          go_ret
          exact ⟨by first | rfl | (simp; done) | (simp [*]; done), by repeat (first | exact Drawn0.refl _ | apply Drawn0.step)⟩
         ·rw [if_neg c9] at H; have c9b0 : decide ((rd l1 x5_1) < (rd l0 x5_1)) = false := decide_eq_false c9; clear c9; have H' := Aside0.mk H; clear H; have p186 : 0 ≤ (x5_1 : Int) := od; have q186 : x5_1 < (l0.length : Int) := od; obtain ⟨ad186, e186, hx186_0⟩ := Kd.at_int HR0.out x5_1 p186 q186
          cases e186
          replace p186 := eq_true p186; replace q186 := eq_true q186; have p187 : 0 ≤ (x5_1 : Int) := od; have q187 : x5_1 < (l1.length : Int) := od; obtain ⟨ad187, e187, hx187_0⟩ := Kd.at_int HR1.out x5_1 p187 q187
          cases e187
          replace p187 := eq_true p187; replace q187 := eq_true q187; have p188 : 0 ≤ (x5_1 : Int) := od; have q188 : x5_1 < (l0.length : Int) := od; obtain ⟨ad188, e188, hx188_0⟩ := Kd.at_int HR0.out x5_1 p188 q188; obtain rfl : ad186 = ad188 := (by injection e188); replace p188 := eq_true p188; replace q188 := eq_true q188; have p189 : 0 ≤ (x5_1 : Int) := od; have q189 : x5_1 < (l1.length : Int) := od; obtain ⟨ad189, e189, hx189_0⟩ := Kd.at_int HR1.out x5_1 p189 q189; obtain rfl : ad187 = ad189 := (by injection e189); replace p189 := eq_true p189; replace q189 := eq_true q189
          go_wp2
          repeat (go_quiet (fail); try go_wp2)
          go_roundg k1
          case measure => have := HK1.out; omega
          case rel => exact ⟨(wrap64 (x5_1 - 1)), jz, H', ⟨by have := HK1.out; omega⟩, by repeat (first | exact Drawn0.refl _ | apply Drawn0.step)⟩
       ·rw [if_neg c7] at H
        exact absurd H (by simp)
      ·rw [if_neg c6] at H
       exact absurd H (by simp)
     ·rw [if_neg c5] at H
      exact absurd H (by simp)
    ·rw [if_neg c4] at H; have c4b0 : decide (0 ≤ x5_1) = false := decide_eq_false c4; clear c4; obtain rfl := Option.some.inj H
     go_wp2
     repeat (go_quiet (fail); try go_wp2)
     go_ret
     exact ⟨by first | rfl | (simp; done) | (simp [*]; done), by repeat (first | exact Drawn0.refl _ | apply Drawn0.step)⟩
 ·rw [if_neg c3] at H; have c3b0 : ((l0.length : Int) == (l1.length : Int)) = false := beq_eq_false_iff_ne.mpr c3; have c3b1 : ((l0.length : Int) != (l1.length : Int)) = true := bne_iff_ne.mpr c3; have c3b2 : (l0.length == l1.length) = false := by first | simpa using c3 | (simp at c3 ⊢; omega)
  by_cases c10 : (l0.length : Int) < (l1.length : Int)
  ·rw [if_pos c10] at H; have c10b0 : decide ((l0.length : Int) < (l1.length : Int)) = true := decide_eq_true c10; have c10b1 : decide (l0.length < l1.length) = true := decide_eq_true (Int.ofNat_lt.mp c10); clear c10; obtain rfl := Option.some.inj H
   go_enter Try.func122, Try.ntmps122
   go_wp2
   repeat (go_quiet (fail); try go_wp2)
   go_ret
   exact ⟨by first | rfl | (simp; done) | (simp [*]; done), by repeat (first | exact Drawn0.refl _ | apply Drawn0.step)⟩
  ·rw [if_neg c10] at H; have c10b0 : decide ((l0.length : Int) < (l1.length : Int)) = false := decide_eq_false c10; have c10b1 : decide (l0.length < l1.length) = false := decide_eq_false (fun h => c10 (Int.ofNat_lt.mpr h))
   clear c10; obtain rfl := Option.some.inj H
   go_enter Try.func122, Try.ntmps122
   go_wp2
   repeat (go_quiet (fail); try go_wp2)
   go_ret
   exact ⟨by first | rfl | (simp; done) | (simp [*]; done), by repeat (first | exact Drawn0.refl _ | apply Drawn0.step)⟩
def dioramaref02_trimmed.l0 : Nat → List Int → Int → Option (List Int)
  | 0, _, _ => none
  | k + 1, x0, x3 => if x3 > 0 then (if 0 ≤ (wrap64 (x3 - 1)) then (if (wrap64 (x3 - 1)) < (x0.length : Int) then (if (rd x0 (wrap64 (x3 - 1))) = 0 then (dioramaref02_trimmed.l0 k x0 (wrap64 (x3 - 1))) else (if 0 ≤ x3 then (if x3 ≤ (x0.length : Int) then (some (x0.take (x3 : Int).toNat)) else (none)) else (none))) else (none)) else (none)) else (if 0 ≤ x3 then (if x3 ≤ (x0.length : Int) then (some (x0.take (x3 : Int).toNat)) else (none)) else (none))
def dioramaref02_trimmed.f (k : Nat) (l0 : List Int) : Option (List Int) := dioramaref02_trimmed.l0 k l0 (l0.length : Int)
set_option maxHeartbeats 8000000 in
set_option maxRecDepth 100000 in
theorem dioramaref02_trimmed.calls (k : Nat) (P0_ : Nat → Prop) (u9000_ : Value) (l0 : List Int) (r : List Int) (w0 w : World) (hB : Below w0.heap.size w0 w) (ho0 : Kd.R (Kd.int .i64) 3 w w0.heap.size P0_ u9000_ l0) (h : dioramaref02_trimmed.f k l0 = some r) :
  Calls Try.prog 154 #[u9000_] w fun e w' => ∃ v0_ : Value, e = .returned (v0_) ∧ Kd.R (Kd.int .i64) 3 w' w0.heap.size (fun k_ => (P0_ k_ ∨ w.heap.size ≤ k_)) v0_ r ∧ Below w0.heap.size w0 w' ∧ Kept w w' (fun k_ => P0_ k_) := by
 have HO0 := Aside0.mk (show Kd.R (Kd.int .i64) 3 w w0.heap.size (fun k_ => (P0_ k_ ∨ w.heap.size ≤ k_)) u9000_ l0 from Kd.R_mono ho0 (fun k_ hk => (.inl hk)))
 have HK := Aside0.mk (Kept.refl w (fun k_ => P0_ k_)); have HW0 := Aside0.mk hB.size; have HB := Aside0.mk hB; clear hB; have H : (dioramaref02_trimmed.l0 k l0 (l0.length : Int)) = some r := h; clear h; have H' := Aside0.mk H; clear H; obtain ⟨Ao2, co2, eo2⟩ := Kd.R_slice HO0.out; subst eo2
 go_enter Try.func154, Try.ntmps154
 go_wp2
 go_loopg [3] k (fun kq v3 w' => ∃ (x3_1 : Int), v3 = .int .i64 x3_1 ∧ Aside0 (dioramaref02_trimmed.l0 kq l0 x3_1 = some r) ∧ Aside0 (kq ≤ k) ∧ Aside0 (Kd.R (Kd.int .i64) 3 w' w0.heap.size (fun k_ => (P0_ k_ ∨ w.heap.size ≤ k_)) (.slice Ao2 l0.length co2) l0) ∧ Aside0 (Kept w w' (fun k_ => P0_ k_)) ∧ Aside0 (Below w0.heap.size w0 w'))
 case atStart => exact ⟨((l0.length : Int)), jz, H', ⟨Nat.le_refl _⟩, ⟨rz HO0⟩, ⟨by repeat (first | (with_reducible first | exact HK.out | apply Kept.alloc | apply Kept.drewN | apply Kept.drew) | exact HK.out)⟩, ⟨bz⟩⟩
 case round =>
  clear H'
  try clear c1
  try clear p2
  obtain ⟨x3_1, rfl, HA, HK1, HO_0, HK, HB⟩ := hrel
  cases gk with
  | zero => exact absurd HA.out (by simp [dioramaref02_trimmed.l0])
  | succ k1 =>
   have H := HA.out; clear HA; simp only [dioramaref02_trimmed.l0] at H
   by_cases c3 : x3_1 > 0
   ·rw [if_pos c3] at H; have c3b0 : decide (0 < x3_1) = true := decide_eq_true c3; clear c3; obtain ⟨ji4, hji4⟩ : ∃ j_ : Int, (wrap64 (x3_1 - 1)) = j_ := ⟨_, rfl⟩; replace H : (if 0 ≤ (ji4) then (if (ji4) < (l0.length : Int) then (if (rd l0 (ji4)) = 0 then (dioramaref02_trimmed.l0 k1 l0 ji4) else (if 0 ≤ x3_1 then (if x3_1 ≤ (l0.length : Int) then (some (l0.take (x3_1 : Int).toNat)) else (none)) else (none))) else (none)) else (none)) = some r := by first | (rw [hji4] at H; exact H) | (simp only [hji4] at H ⊢; exact H)
    have hji4w : (IntKind.i64.wrap (x3_1 - 1)) = ji4 := (i64_w _).trans hji4
    by_cases c5 : 0 ≤ (ji4)
    ·rw [if_pos c5] at H; have c5b0 : decide (0 ≤ (ji4)) = true := decide_eq_true c5; clear c5
     by_cases c6 : (ji4) < (l0.length : Int)
     ·rw [if_pos c6] at H; have c6b0 : decide ((ji4) < (l0.length : Int)) = true := decide_eq_true c6; clear c6
      by_cases c7 : (rd l0 (ji4)) = 0
      ·rw [if_pos c7] at H; have c7b0 : ((rd l0 (ji4)) == 0) = true := beq_iff_eq.mpr c7; have c7b1 : ((rd l0 (ji4)) != 0) = false := bne_eq_false_iff_eq.mpr c7; clear c7; have H' := Aside0.mk H; clear H; have p190 : 0 ≤ ((ji4) : Int) := od; have q190 : (ji4) < (l0.length : Int) := od; obtain ⟨ad190, e190, hx190_0⟩ := Kd.at_int (Kd.R_reads' HO_0.out).2.2 (ji4) p190 q190
       cases e190
       replace p190 := eq_true p190; replace q190 := eq_true q190
       go_wp2
       go_roundg k1
       case measure => have := HK1.out; omega
       case rel => exact ⟨(ji4), (by first | rfl | (simp; done) | (simp only [← hji4] <;> (first | rfl | simp)) | (simp [*]; done)), H', ⟨by have := HK1.out; omega⟩, ⟨rz HO_0⟩, ⟨by repeat (first | (with_reducible first | exact HK.out | apply Kept.alloc | apply Kept.drewN | apply Kept.drew) | exact HK.out)⟩, ⟨bz⟩⟩
      ·rw [if_neg c7] at H; have c7b0 : ((rd l0 (ji4)) == 0) = false := beq_eq_false_iff_ne.mpr c7; have c7b1 : ((rd l0 (ji4)) != 0) = true := bne_iff_ne.mpr c7
       by_cases c8 : 0 ≤ x3_1
       ·rw [if_pos c8] at H; have c8b0 := eq_true c8; have c8b1 : decide (0 ≤ x3_1) = true := decide_eq_true c8; clear c8
        by_cases c9 : x3_1 ≤ (l0.length : Int)
        ·rw [if_pos c9] at H; have c9b0 := eq_true c9; have c9b1 : decide (x3_1 ≤ (l0.length : Int)) = true := decide_eq_true c9; clear c9; obtain ⟨y191, hy191⟩ : ∃ y_ : List Int, y_ = (l0.take (x3_1 : Int).toNat) := ⟨_, rfl⟩; replace H : (some y191) = some r := by first | (rw [hy191]; with_reducible exact H) | (have H2_ := (Option.bind_some _ _).symm.trans H; rw [hy191]; with_reducible exact H2_) | (have H2_ := (Option.bind_some _ _).symm.trans H; with_reducible exact H2_) | with_reducible exact H | (rw [hy191]; exact H) | exact H
         have Ny191 := Aside0.mk hy191; clear hy191; obtain rfl := Option.some.inj H; have p190 : 0 ≤ ((ji4) : Int) := od; have q190 : (ji4) < (l0.length : Int) := od; obtain ⟨ad190, e190, hx190_0⟩ := Kd.at_int (Kd.R_reads' HO_0.out).2.2 (ji4) p190 q190
         cases e190
         replace p190 := eq_true p190; replace q190 := eq_true q190; have q10 : (x3_1 : Int) ≤ ((l0.length : Int) : Int) := od; obtain ⟨i010, hi010, _, hsz10, _⟩ := info_parts info3; have hcut10 := cut_to (P := Try.prog) 93 3 .i64 Try.underlying93 hi010 (some ad190) l0.length co2 x3_1 (od) q10 (Kd.R_reads' HO_0.out).2.1; have hr10 := Kd.R_take (m := (x3_1 : Int).toNat) HO_0.out (by omega); have hy10 : y191.length = (x3_1 : Int).toNat := (by rw [Ny191.out, List.length_take]; omega); rw [← Ny191.out] at hr10; rw [← hy10] at hr10 hcut10; clear hy10 hi010 hsz10 HO_0; have HO193 := Aside0.mk hr10; clear hr10; replace q10 := eq_true q10
         go_wp2
         go_ret
         exact ⟨_, by first | rfl | (simp [errW_none, errW_some] <;> rfl) | (simp only [← hji4]; first | rfl | (simp [errW_none, errW_some] <;> rfl)) | (simp [*, errW_none, errW_some] <;> rfl), by (with_reducible repeat (first | apply Kd.R_alloc | apply Kd.R_drewN | apply Kd.R_drew)); exact HO193.out, bz, by repeat (first | (with_reducible first | exact HK.out | apply Kept.alloc | apply Kept.drewN | apply Kept.drew) | exact HK.out)⟩
        ·rw [if_neg c9] at H
         exact absurd H (by simp)
       ·rw [if_neg c8] at H
        exact absurd H (by simp)
     ·rw [if_neg c6] at H
      exact absurd H (by simp)
    ·rw [if_neg c5] at H
     exact absurd H (by simp)
   ·rw [if_neg c3] at H; have c3b0 : decide (0 < x3_1) = false := decide_eq_false c3; clear c3
    by_cases c11 : 0 ≤ x3_1
    ·rw [if_pos c11] at H; have c11b0 := eq_true c11; have c11b1 : decide (0 ≤ x3_1) = true := decide_eq_true c11; clear c11
     by_cases c12 : x3_1 ≤ (l0.length : Int)
     ·rw [if_pos c12] at H; have c12b0 := eq_true c12; have c12b1 : decide (x3_1 ≤ (l0.length : Int)) = true := decide_eq_true c12; clear c12; obtain ⟨y194, hy194⟩ : ∃ y_ : List Int, y_ = (l0.take (x3_1 : Int).toNat) := ⟨_, rfl⟩; replace H : (some y194) = some r := by first | (rw [hy194]; with_reducible exact H) | (have H2_ := (Option.bind_some _ _).symm.trans H; rw [hy194]; with_reducible exact H2_) | (have H2_ := (Option.bind_some _ _).symm.trans H; with_reducible exact H2_) | with_reducible exact H | (rw [hy194]; exact H) | exact H
      have Ny194 := Aside0.mk hy194; clear hy194; obtain rfl := Option.some.inj H; have q13 : (x3_1 : Int) ≤ ((l0.length : Int) : Int) := od; obtain ⟨i013, hi013, _, hsz13, _⟩ := info_parts info3; have hcut13 := cut_to (P := Try.prog) 93 3 .i64 Try.underlying93 hi013 Ao2 l0.length co2 x3_1 (od) q13 (Kd.R_reads' HO_0.out).2.1; have hr13 := Kd.R_take (m := (x3_1 : Int).toNat) HO_0.out (by omega); have hy13 : y194.length = (x3_1 : Int).toNat := (by rw [Ny194.out, List.length_take]; omega); rw [← Ny194.out] at hr13; rw [← hy13] at hr13 hcut13; clear hy13 hi013 hsz13 HO_0; have HO196 := Aside0.mk hr13; clear hr13; replace q13 := eq_true q13
      go_wp2
      go_ret
      exact ⟨_, ez, by (with_reducible repeat (first | apply Kd.R_alloc | apply Kd.R_drewN | apply Kd.R_drew)); exact HO196.out, bz, by repeat (first | (with_reducible first | exact HK.out | apply Kept.alloc | apply Kept.drewN | apply Kept.drew) | exact HK.out)⟩
     ·rw [if_neg c12] at H
      exact absurd H (by simp)
    ·rw [if_neg c11] at H
     exact absurd H (by simp)
def dioramaref02_digit.f (l0 : List Int) (a1 : Int) : Option (Int) := if a1 < (l0.length : Int) then (if 0 ≤ a1 then (some (rd l0 a1)) else (none)) else (some 0)
set_option maxHeartbeats 8000000 in
set_option maxRecDepth 100000 in
theorem dioramaref02_digit.calls (A0 : Option Addr) (c0 : Nat) (l0 : List Int) (a1 : Int) (r : Int) (w : World) (hr0 : Kd.C (Kd.int .i64) w A0 l0.length l0) (hc0 : l0.length ≤ c0) (h : dioramaref02_digit.f l0 a1 = some r) :
  Calls Try.prog 155 #[.slice A0 l0.length c0, .int .i64 a1] w fun e w' => e = .returned (.int .i64 r) ∧ Drawn0 w w' := by
 have HR0 := Aside0.mk hr0; have HC0 := Aside0.mk hc0; clear hr0 hc0; have H : (if a1 < (l0.length : Int) then (if 0 ≤ a1 then (some (rd l0 a1)) else (none)) else (some 0)) = some r := h; clear h
 by_cases c3 : a1 < (l0.length : Int)
 ·rw [if_pos c3] at H; have c3b0 : decide (a1 < (l0.length : Int)) = true := decide_eq_true c3; clear c3
  by_cases c4 : 0 ≤ a1
  ·rw [if_pos c4] at H; have c4b0 : decide (0 ≤ a1) = true := decide_eq_true c4; clear c4; obtain rfl := Option.some.inj H; have p197 : 0 ≤ (a1 : Int) := od; have q197 : a1 < (l0.length : Int) := od; obtain ⟨ad197, e197, hx197_0⟩ := Kd.at_int HR0.out a1 p197 q197
   cases e197
   replace p197 := eq_true p197; replace q197 := eq_true q197
   go_enter Try.func155, Try.ntmps155
   go_wp2
   go_ret
   exact ⟨by first | rfl | (simp; done) | (simp [*]; done), by repeat (first | exact Drawn0.refl _ | apply Drawn0.step)⟩
  ·rw [if_neg c4] at H
   exact absurd H (by simp)
 ·rw [if_neg c3] at H; have c3b0 : decide (a1 < (l0.length : Int)) = false := decide_eq_false c3; clear c3; obtain rfl := Option.some.inj H
  go_enter Try.func155, Try.ntmps155
  go_wp2
  go_ret
  exact ⟨by first | rfl | (simp; done) | (simp [*]; done), by repeat (first | exact Drawn0.refl _ | apply Drawn0.step)⟩
mutual
def dioramaref02_Times.l0 : Nat → List Int → List Int → List Int → Int → Option (List Int)
  | 0, _, _, _, _ => none
  | k + 1, x0, x1, x5, x6 => if x6 < (x0.length : Int) then (dioramaref02_Times.l1 k x0 x1 x5 x6 0 0) else ((dioramaref02_trimmed.f k x5).bind fun t201 => (some t201))
def dioramaref02_Times.l1 : Nat → List Int → List Int → List Int → Int → Int → Int → Option (List Int)
  | 0, _, _, _, _, _, _ => none
  | k + 1, x0, x1, x5, x6, x7, x8 => if x8 < (x1.length : Int) then (if 0 ≤ (wrap64 (x6 + x8)) then (if (wrap64 (x6 + x8)) < (x5.length : Int) then (if 0 ≤ x6 then (if x6 < (x0.length : Int) then ((dioramaref02_digit.f x1 x8).bind fun t206 => (dioramaref02_Times.l1 k x0 x1 (x5.set ((wrap64 (x6 + x8)) : Int).toNat (Int.tmod (wrap64 ((wrap64 ((rd x5 (wrap64 (x6 + x8))) + (wrap64 ((rd x0 x6) * t206)))) + x7)) 1000000000)) x6 (wrap64 (Int.tdiv (wrap64 ((wrap64 ((rd x5 (wrap64 (x6 + x8))) + (wrap64 ((rd x0 x6) * t206)))) + x7)) 1000000000)) (wrap64 (x8 + 1)))) else (none)) else (none)) else (none)) else (none)) else (if x7 > 0 then (if 0 ≤ (wrap64 (x6 + x8)) then (if (wrap64 (x6 + x8)) < (x5.length : Int) then (if 0 ≤ x6 then (if x6 < (x0.length : Int) then ((dioramaref02_digit.f x1 x8).bind fun t210 => (dioramaref02_Times.l1 k x0 x1 (x5.set ((wrap64 (x6 + x8)) : Int).toNat (Int.tmod (wrap64 ((wrap64 ((rd x5 (wrap64 (x6 + x8))) + (wrap64 ((rd x0 x6) * t210)))) + x7)) 1000000000)) x6 (wrap64 (Int.tdiv (wrap64 ((wrap64 ((rd x5 (wrap64 (x6 + x8))) + (wrap64 ((rd x0 x6) * t210)))) + x7)) 1000000000)) (wrap64 (x8 + 1)))) else (none)) else (none)) else (none)) else (none)) else (dioramaref02_Times.l0 k x0 x1 x5 (wrap64 (x6 + 1))))
end
def dioramaref02_Times.f (k : Nat) (l0 : List Int) (l1 : List Int) : Option (List Int) := if 0 ≤ (wrap64 ((l0.length : Int) + (l1.length : Int))) then (if (wrap64 ((l0.length : Int) + (l1.length : Int)) : Int).toNat ≤ 35184372088832 then (dioramaref02_Times.l0 k l0 l1 (List.replicate (wrap64 ((l0.length : Int) + (l1.length : Int)) : Int).toNat 0) 0) else (none)) else (none)
set_option maxHeartbeats 8000000 in
set_option maxRecDepth 100000 in
theorem dioramaref02_Times.calls (k : Nat) (A0 : Option Addr) (c0 : Nat) (l0 : List Int) (A1 : Option Addr) (c1 : Nat) (l1 : List Int) (r : List Int) (w : World) (hr0 : Kd.C (Kd.int .i64) w A0 l0.length l0) (hc0 : l0.length ≤ c0) (hr1 : Kd.C (Kd.int .i64) w A1 l1.length l1) (hc1 : l1.length ≤ c1) (h : dioramaref02_Times.f k l0 l1 = some r) :
  Calls Try.prog 124 #[.slice A0 l0.length c0, .slice A1 l1.length c1] w fun e w' => ∃ v0_ : Value, e = .returned (v0_) ∧ Kd.R (Kd.int .i64) 3 w' w.heap.size (fun _ => True) v0_ r ∧ Below w.heap.size w w' := by
 have HR0 := Aside0.mk hr0; have HC0 := Aside0.mk hc0; clear hr0 hc0; have HR1 := Aside0.mk hr1; have HC1 := Aside0.mk hc1; clear hr1 hc1; have HB := Aside0.mk (Below.refl w.heap.size w); have H : (if 0 ≤ (wrap64 ((l0.length : Int) + (l1.length : Int))) then (if (wrap64 ((l0.length : Int) + (l1.length : Int)) : Int).toNat ≤ 35184372088832 then (dioramaref02_Times.l0 k l0 l1 (List.replicate (wrap64 ((l0.length : Int) + (l1.length : Int)) : Int).toNat 0) 0) else (none)) else (none)) = some r := h; clear h; obtain ⟨ji3, hji3⟩ : ∃ j_ : Int, (wrap64 ((l0.length : Int) + (l1.length : Int))) = j_ := ⟨_, rfl⟩; replace H : (if 0 ≤ (ji3) then (if (ji3 : Int).toNat ≤ 35184372088832 then (dioramaref02_Times.l0 k l0 l1 (List.replicate (ji3 : Int).toNat 0) 0) else (none)) else (none)) = some r := by first | (rw [hji3] at H; exact H) | (simp only [hji3] at H ⊢; exact H)
 have hji3w : (IntKind.i64.wrap ((l0.length : Int) + (l1.length : Int))) = ji3 := (i64_w _).trans hji3
 by_cases c4 : 0 ≤ (ji3)
 ·rw [if_pos c4] at H; have c4b0 := eq_true c4; have c4b1 : decide (0 ≤ (ji3)) = true := decide_eq_true c4; clear c4
  by_cases c5 : (ji3 : Int).toNat ≤ 35184372088832
  ·rw [if_pos c5] at H; have c5b0 := eq_true c5; have c5b1 : decide ((ji3 : Int).toNat ≤ 35184372088832) = true := decide_eq_true c5; clear c5; obtain ⟨y198, hy198⟩ : ∃ y_ : List Int, y_ = (List.replicate (ji3 : Int).toNat 0) := ⟨_, rfl⟩; replace H : (dioramaref02_Times.l0 k l0 l1 y198 0) = some r := by first | (rw [hy198]; with_reducible exact H) | (have H2_ := (Option.bind_some _ _).symm.trans H; rw [hy198]; with_reducible exact H2_) | (have H2_ := (Option.bind_some _ _).symm.trans H; with_reducible exact H2_) | with_reducible exact H | (rw [hy198]; exact H) | exact H
   have Ny198 := Aside0.mk hy198; clear hy198; have H' := Aside0.mk H; clear H
   go_enter Try.func124, Try.ntmps124
   go_wp2_with (first | ((with_reducible refine gate_dst (N := 15) rfl ?_); refine Kd.R_make (Kd.int .i64) _ 3 rfl (N := 15) rfl 93 _ _ rfl ji3 rfl rfl Try.underlying93 (.int .i64 0) 8 info3 rfl (by decide) (by omega) 0 (ok := fun _ => True) (okp := fun _ => True) rfl (fun _ hk => hk) trivial (od) (Nat.le_trans (Nat.mul_le_mul_right _ (od : ji3.toNat ≤ 35184372088832)) (by omega)) (Below.refl _ _) (Nat.le_refl _) ?_; intro v199 w6 ho7 hb hg_ hnew_; clear hg_ hnew_; (first | rw [← Ny198.out] at ho7 | (simp only [Int.reduceToNat] at ho7; rw [← Ny198.out] at ho7)); have HO200 := Aside0.mk (Kd.R_lower ho7 sz); replace HB := bp hb; clear hb ho7))
   repeat (go_quiet (first | ((with_reducible refine gate_dst (N := 15) rfl ?_); refine Kd.R_make (Kd.int .i64) _ 3 rfl (N := 15) rfl 93 _ _ rfl ji3 rfl rfl Try.underlying93 (.int .i64 0) 8 info3 rfl (by decide) (by omega) 0 (ok := fun _ => True) (okp := fun _ => True) rfl (fun _ hk => hk) trivial (od) (Nat.le_trans (Nat.mul_le_mul_right _ (od : ji3.toNat ≤ 35184372088832)) (by omega)) (Below.refl _ _) (Nat.le_refl _) ?_; intro v199 w6 ho7 hb hg_ hnew_; clear hg_ hnew_; (first | rw [← Ny198.out] at ho7 | (simp only [Int.reduceToNat] at ho7; rw [← Ny198.out] at ho7)); have n0_ := Aside0.mk (Kd.R_lower ho7 sz); have n1_ := bp hb; clear HB; have HO200 := n0_; have HB := n1_; clear n0_ n1_; clear hb ho7)); try go_wp2_with (first | ((with_reducible refine gate_dst (N := 15) rfl ?_); refine Kd.R_make (Kd.int .i64) _ 3 rfl (N := 15) rfl 93 _ _ rfl ji3 rfl rfl Try.underlying93 (.int .i64 0) 8 info3 rfl (by decide) (by omega) 0 (ok := fun _ => True) (okp := fun _ => True) rfl (fun _ hk => hk) trivial (od) (Nat.le_trans (Nat.mul_le_mul_right _ (od : ji3.toNat ≤ 35184372088832)) (by omega)) (Below.refl _ _) (Nat.le_refl _) ?_; intro v199 w6 ho7 hb hg_ hnew_; clear hg_ hnew_; (first | rw [← Ny198.out] at ho7 | (simp only [Int.reduceToNat] at ho7; rw [← Ny198.out] at ho7)); have HO200 := Aside0.mk (Kd.R_lower ho7 sz); replace HB := bp hb; clear hb ho7)))
   go_loopg [6] k (fun kq v6 w' => ∃ (x5_1 : List Int) (x6_1 : Int), v6 = .int .i64 x6_1 ∧ Aside0 (dioramaref02_Times.l0 kq l0 l1 x5_1 x6_1 = some r) ∧ Aside0 (kq ≤ k) ∧ Aside0 (Kd.R (Kd.int .i64) 3 w' w.heap.size (fun _ => True) v199 x5_1) ∧ Aside0 (Below w.heap.size w w'))
   case atStart => exact ⟨(y198), (0), jz, H', ⟨Nat.le_refl _⟩, ⟨rz HO200⟩, ⟨bz⟩⟩
   case round =>
    clear H'
    try clear c1
    try clear p2
    try clear c4
    try clear c4b0
    try clear c4b1
    try clear c5
    try clear c5b0
    try clear c5b1
    try clear p6
    obtain ⟨x5_1, x6_1, rfl, HA, HK1, HO_5, HB⟩ := hrel
    cases gk with
    | zero => exact absurd HA.out (by simp [dioramaref02_Times.l0])
    | succ k1 =>
     have H := HA.out; clear HA; simp only [dioramaref02_Times.l0] at H
     by_cases c8 : x6_1 < (l0.length : Int)
     ·rw [if_pos c8] at H; have c8b0 : decide (x6_1 < (l0.length : Int)) = true := decide_eq_true c8; clear c8; have H' := Aside0.mk H; clear H
      go_wp2
      repeat (go_quiet (fail); try go_wp2)
      go_loopg [7, 8] k1 (fun kq v7 v8 w' => ∃ (x5_2 : List Int) (x7_2 : Int) (x8_2 : Int), v7 = .int .i64 x7_2 ∧ v8 = .int .i64 x8_2 ∧ Aside0 (dioramaref02_Times.l1 kq l0 l1 x5_2 x6_1 x7_2 x8_2 = some r) ∧ Aside0 (kq ≤ k1) ∧ Aside0 (Kd.R (Kd.int .i64) 3 w' w.heap.size (fun _ => True) v199 x5_2) ∧ Aside0 (Below w.heap.size w w'))
      case atStart => exact ⟨(x5_1), (0), (0), jz, jz, H', ⟨Nat.le_refl _⟩, ⟨rz HO_5⟩, ⟨bz⟩⟩
      case round =>
       clear H'
       try clear c1
       try clear p2
       try clear c4
       try clear c4b0
       try clear c4b1
       try clear c5
       try clear c5b0
       try clear c5b1
       try clear p6
       try clear c8
       try clear c8b0
       try clear p2
       try clear p6
       obtain ⟨x5_2, x7_2, x8_2, rfl, rfl, HA, HK2, HO_5, HB⟩ := hrel
       cases gk with
       | zero => exact absurd HA.out (by simp [dioramaref02_Times.l1])
       | succ k2 =>
        have H := HA.out; clear HA; simp only [dioramaref02_Times.l1] at H
        by_cases c9 : x8_2 < (l1.length : Int)
        ·rw [if_pos c9] at H; have c9b0 : decide (x8_2 < (l1.length : Int)) = true := decide_eq_true c9; clear c9; obtain ⟨ji10, hji10⟩ : ∃ j_ : Int, (wrap64 (x6_1 + x8_2)) = j_ := ⟨_, rfl⟩; replace H : (if 0 ≤ (ji10) then (if (ji10) < (x5_2.length : Int) then (if 0 ≤ x6_1 then (if x6_1 < (l0.length : Int) then ((dioramaref02_digit.f l1 x8_2).bind fun t206 => (dioramaref02_Times.l1 k2 l0 l1 (x5_2.set ((ji10) : Int).toNat (Int.tmod (wrap64 ((wrap64 ((rd x5_2 (ji10)) + (wrap64 ((rd l0 x6_1) * t206)))) + x7_2)) 1000000000)) x6_1 (wrap64 (Int.tdiv (wrap64 ((wrap64 ((rd x5_2 (ji10)) + (wrap64 ((rd l0 x6_1) * t206)))) + x7_2)) 1000000000)) (wrap64 (x8_2 + 1)))) else (none)) else (none)) else (none)) else (none)) = some r := by first | (rw [hji10] at H; exact H) | (simp only [hji10] at H ⊢; exact H)
         have hji10w : (IntKind.i64.wrap (x6_1 + x8_2)) = ji10 := (i64_w _).trans hji10
         by_cases c11 : 0 ≤ (ji10)
         ·rw [if_pos c11] at H; have c11b0 : decide (0 ≤ (ji10)) = true := decide_eq_true c11; clear c11
          by_cases c12 : (ji10) < (x5_2.length : Int)
          ·rw [if_pos c12] at H; have c12b0 : decide ((ji10) < (x5_2.length : Int)) = true := decide_eq_true c12; clear c12
           by_cases c13 : 0 ≤ x6_1
           ·rw [if_pos c13] at H; have c13b0 : decide (0 ≤ x6_1) = true := decide_eq_true c13; clear c13
            by_cases c14 : x6_1 < (l0.length : Int)
            ·rw [if_pos c14] at H; have c14b0 : decide (x6_1 < (l0.length : Int)) = true := decide_eq_true c14; clear c14; obtain ⟨t206, A15, H⟩ := ob H; obtain ⟨y207, hy207⟩ : ∃ y_ : List Int, y_ = (x5_2.set ((ji10) : Int).toNat (Int.tmod (wrap64 ((wrap64 ((rd x5_2 (ji10)) + (wrap64 ((rd l0 x6_1) * t206)))) + x7_2)) 1000000000)) := ⟨_, rfl⟩; replace H : (dioramaref02_Times.l1 k2 l0 l1 y207 x6_1 (wrap64 (Int.tdiv (wrap64 ((wrap64 ((rd x5_2 (ji10)) + (wrap64 ((rd l0 x6_1) * t206)))) + x7_2)) 1000000000)) (wrap64 (x8_2 + 1))) = some r := by first | (rw [hy207]; with_reducible exact H) | (have H2_ := (Option.bind_some _ _).symm.trans H; rw [hy207]; with_reducible exact H2_) | (have H2_ := (Option.bind_some _ _).symm.trans H; with_reducible exact H2_) | with_reducible exact H | (rw [hy207]; exact H) | exact H
             have Ny207 := Aside0.mk hy207; clear hy207; have H' := Aside0.mk H; clear H; obtain ⟨Ao17, co17, eo17⟩ := Kd.R_slice HO_5.out; subst eo17; have p204 : 0 ≤ ((ji10) : Int) := od; have q204 : (ji10) < (x5_2.length : Int) := od; obtain ⟨ad204, e204, hx204_0⟩ := Kd.at_int (Kd.R_reads' HO_5.out).2.2 (ji10) p204 q204
             cases e204
             replace p204 := eq_true p204; replace q204 := eq_true q204; have p205 : 0 ≤ (x6_1 : Int) := od; have q205 : x6_1 < (l0.length : Int) := od; obtain ⟨ad205, e205, hx205_0⟩ := Kd.at_int HR0.out x6_1 p205 q205
             cases e205
             replace hx205_0 := cl HB hx205_0; replace p205 := eq_true p205; replace q205 := eq_true q205
             go_wp2_with (first | (go_at_call 155; (with_reducible refine (dioramaref02_digit.calls _ _ l1 x8_2 t206 _ ?side1 ?side2 A15.out).mono ?_); (case side1 => exact cz HR1); (case side2 => exact HC1.out); rintro e w' ⟨rfl, ⟨nd, rfl⟩⟩; (try first | exact ⟨rfl, _, World.drewN_drewN _ _ _⟩ | exact ⟨rfl, _, Eq.trans (World.drewN_drewN _ _ _) (congrArg (World.drewN _) (Nat.add_assoc _ _ _))⟩); have p16 : 0 ≤ ((ji10) : Int) := od; have q16 : ((ji10) : Int) < ((x5_2.length : Int) : Int) := od; obtain ⟨go16, co16, eo16, gb16, gl16, cl16, HG16⟩ := Kd.R_form HO_5.out (by omega); (first | cases eo16 | (injection eo16 with ea_ en_ ec_; (first | subst ea_ | (injection ea_ with ea_; subst ea_)); subst ec_; clear en_)); have GB16 := Aside0.mk gb16; have GG16 := Aside0.mk HG16; clear gb16 gl16 HG16; (first | simp only [add_plain] at hx204_0 | skip); obtain ⟨hx16_0, hf16_0⟩ := Kd.R_celln 0 HO_5.out ((ji10) : Int) p16 q16; replace p16 := eq_true p16; replace q16 := eq_true q16; obtain ⟨hy18_, hz18_⟩ := Kd.R_celln 0 HO_5.out ((ji10) : Int) (od) (od); have HP18 := Kd.R_putg HO_5.out ((ji10) : Int) (Int.tmod (wrap64 ((wrap64 ((rd x5_2 (ji10)) + (wrap64 ((rd l0 x6_1) * t206)))) + x7_2)) 1000000000)) | ((with_reducible refine gate_store (t := 3) (p := 55) rfl ?_); (try (rw [drewN_self wr]; generalize hq_ : World.drewN wr _ = wr; have n0_ := Aside0.mk (Kd.R_at hq_ HO_5.out); have n1_ := Aside0.mk (below_at hq_ HB.out); clear hq_ HO_5 HB; have HO_5 := n0_; have HB := n1_; clear n0_ n1_; (try (obtain ⟨hy18_, hz18_⟩ := Kd.R_celln 0 HO_5.out ((ji10) : Int) (od) (od))); (try (have HP18 := Kd.R_putg HO_5.out ((ji10) : Int) (Int.tmod (wrap64 ((wrap64 ((rd x5_2 (ji10)) + (wrap64 ((rd l0 x6_1) * t206)))) + x7_2)) 1000000000))))); refine store_event (t := 3) (p := 55) (v := ?vo_w19) (w1 := (wr.setCell ⟨go16, ((ji10) : Int).toNat, none⟩ (.int .i64 (Int.tmod (wrap64 ((wrap64 ((rd x5_2 (ji10)) + (wrap64 ((rd l0 x6_1) * t206)))) + x7_2)) 1000000000)))) ?hg ?ho ?hn ?hr ?_; (case ho => rfl); (case hg => rfl); (case hn => rfl); (case hr => first | (go_simp; done) | (go_simp; rfl)); intro w19 hw; have hg : wr.grownBy w19 (some go16) := (by rw [hw]; exact HP18.2); have hp_ : Kd.R (Kd.int .i64) 3 w19 w.heap.size (fun _ => True) (.slice (some ⟨go16, 0, none⟩) x5_2.length co17) y207 := (by rw [hw, Ny207.out]; exact HP18.1); clear HP18; replace HO_5 := Aside0.mk (hp_); replace HB := Aside0.mk ((by rw [hw]; exact below_set (HB.out) GB16.out : Below w.heap.size w w19)); clear hg hw hp_))
             repeat (go_quiet (first | (go_at_call 155; (with_reducible refine (dioramaref02_digit.calls _ _ l1 x8_2 t206 _ ?side1 ?side2 A15.out).mono ?_); (case side1 => exact cz HR1); (case side2 => exact HC1.out); rintro e w' ⟨rfl, ⟨nd, rfl⟩⟩; (try first | exact ⟨rfl, _, World.drewN_drewN _ _ _⟩ | exact ⟨rfl, _, Eq.trans (World.drewN_drewN _ _ _) (congrArg (World.drewN _) (Nat.add_assoc _ _ _))⟩); have p16 : 0 ≤ ((ji10) : Int) := od; have q16 : ((ji10) : Int) < ((x5_2.length : Int) : Int) := od; obtain ⟨go16, co16, eo16, gb16, gl16, cl16, HG16⟩ := Kd.R_form HO_5.out (by omega); (first | cases eo16 | (injection eo16 with ea_ en_ ec_; (first | subst ea_ | (injection ea_ with ea_; subst ea_)); subst ec_; clear en_)); have GB16 := Aside0.mk gb16; have GG16 := Aside0.mk HG16; clear gb16 gl16 HG16; (first | simp only [add_plain] at hx204_0 | skip); obtain ⟨hx16_0, hf16_0⟩ := Kd.R_celln 0 HO_5.out ((ji10) : Int) p16 q16; replace p16 := eq_true p16; replace q16 := eq_true q16; obtain ⟨hy18_, hz18_⟩ := Kd.R_celln 0 HO_5.out ((ji10) : Int) (od) (od); have HP18 := Kd.R_putg HO_5.out ((ji10) : Int) (Int.tmod (wrap64 ((wrap64 ((rd x5_2 (ji10)) + (wrap64 ((rd l0 x6_1) * t206)))) + x7_2)) 1000000000)) | ((with_reducible refine gate_store (t := 3) (p := 55) rfl ?_); (try (rw [drewN_self wr]; generalize hq_ : World.drewN wr _ = wr; have n0_ := Aside0.mk (Kd.R_at hq_ HO_5.out); have n1_ := Aside0.mk (below_at hq_ HB.out); clear hq_ HO_5 HB; have HO_5 := n0_; have HB := n1_; clear n0_ n1_; (try (obtain ⟨hy18_, hz18_⟩ := Kd.R_celln 0 HO_5.out ((ji10) : Int) (od) (od))); (try (have HP18 := Kd.R_putg HO_5.out ((ji10) : Int) (Int.tmod (wrap64 ((wrap64 ((rd x5_2 (ji10)) + (wrap64 ((rd l0 x6_1) * t206)))) + x7_2)) 1000000000))))); refine store_event (t := 3) (p := 55) (v := ?vo_w19) (w1 := (wr.setCell ⟨go16, ((ji10) : Int).toNat, none⟩ (.int .i64 (Int.tmod (wrap64 ((wrap64 ((rd x5_2 (ji10)) + (wrap64 ((rd l0 x6_1) * t206)))) + x7_2)) 1000000000)))) ?hg ?ho ?hn ?hr ?_; (case ho => rfl); (case hg => rfl); (case hn => rfl); (case hr => first | (go_simp; done) | (go_simp; rfl)); intro w19 hw; have hg : wr.grownBy w19 (some go16) := (by rw [hw]; exact HP18.2); have hp_ : Kd.R (Kd.int .i64) 3 w19 w.heap.size (fun _ => True) (.slice (some ⟨go16, 0, none⟩) x5_2.length co17) y207 := (by rw [hw, Ny207.out]; exact HP18.1); clear HP18; have n0_ := Aside0.mk (hp_); have n1_ := Aside0.mk ((by rw [hw]; exact below_set (HB.out) GB16.out : Below w.heap.size w w19)); clear HO_5; clear HB; have HO_5 := n0_; have HB := n1_; clear n0_ n1_; clear hg hw hp_)); try go_wp2_with (first | (go_at_call 155; (with_reducible refine (dioramaref02_digit.calls _ _ l1 x8_2 t206 _ ?side1 ?side2 A15.out).mono ?_); (case side1 => exact cz HR1); (case side2 => exact HC1.out); rintro e w' ⟨rfl, ⟨nd, rfl⟩⟩; (try first | exact ⟨rfl, _, World.drewN_drewN _ _ _⟩ | exact ⟨rfl, _, Eq.trans (World.drewN_drewN _ _ _) (congrArg (World.drewN _) (Nat.add_assoc _ _ _))⟩); have p16 : 0 ≤ ((ji10) : Int) := od; have q16 : ((ji10) : Int) < ((x5_2.length : Int) : Int) := od; obtain ⟨go16, co16, eo16, gb16, gl16, cl16, HG16⟩ := Kd.R_form HO_5.out (by omega); (first | cases eo16 | (injection eo16 with ea_ en_ ec_; (first | subst ea_ | (injection ea_ with ea_; subst ea_)); subst ec_; clear en_)); have GB16 := Aside0.mk gb16; have GG16 := Aside0.mk HG16; clear gb16 gl16 HG16; (first | simp only [add_plain] at hx204_0 | skip); obtain ⟨hx16_0, hf16_0⟩ := Kd.R_celln 0 HO_5.out ((ji10) : Int) p16 q16; replace p16 := eq_true p16; replace q16 := eq_true q16; obtain ⟨hy18_, hz18_⟩ := Kd.R_celln 0 HO_5.out ((ji10) : Int) (od) (od); have HP18 := Kd.R_putg HO_5.out ((ji10) : Int) (Int.tmod (wrap64 ((wrap64 ((rd x5_2 (ji10)) + (wrap64 ((rd l0 x6_1) * t206)))) + x7_2)) 1000000000)) | ((with_reducible refine gate_store (t := 3) (p := 55) rfl ?_); (try (rw [drewN_self wr]; generalize hq_ : World.drewN wr _ = wr; have n0_ := Aside0.mk (Kd.R_at hq_ HO_5.out); have n1_ := Aside0.mk (below_at hq_ HB.out); clear hq_ HO_5 HB; have HO_5 := n0_; have HB := n1_; clear n0_ n1_; (try (obtain ⟨hy18_, hz18_⟩ := Kd.R_celln 0 HO_5.out ((ji10) : Int) (od) (od))); (try (have HP18 := Kd.R_putg HO_5.out ((ji10) : Int) (Int.tmod (wrap64 ((wrap64 ((rd x5_2 (ji10)) + (wrap64 ((rd l0 x6_1) * t206)))) + x7_2)) 1000000000))))); refine store_event (t := 3) (p := 55) (v := ?vo_w19) (w1 := (wr.setCell ⟨go16, ((ji10) : Int).toNat, none⟩ (.int .i64 (Int.tmod (wrap64 ((wrap64 ((rd x5_2 (ji10)) + (wrap64 ((rd l0 x6_1) * t206)))) + x7_2)) 1000000000)))) ?hg ?ho ?hn ?hr ?_; (case ho => rfl); (case hg => rfl); (case hn => rfl); (case hr => first | (go_simp; done) | (go_simp; rfl)); intro w19 hw; have hg : wr.grownBy w19 (some go16) := (by rw [hw]; exact HP18.2); have hp_ : Kd.R (Kd.int .i64) 3 w19 w.heap.size (fun _ => True) (.slice (some ⟨go16, 0, none⟩) x5_2.length co17) y207 := (by rw [hw, Ny207.out]; exact HP18.1); clear HP18; replace HO_5 := Aside0.mk (hp_); replace HB := Aside0.mk ((by rw [hw]; exact below_set (HB.out) GB16.out : Below w.heap.size w w19)); clear hg hw hp_)))
             go_roundg k2
             case measure => have := HK1.out; have := HK2.out; omega
             case rel => exact ⟨(y207), (wrap64 (Int.tdiv (wrap64 ((wrap64 ((rd x5_2 (ji10)) + (wrap64 ((rd l0 x6_1) * t206)))) + x7_2)) 1000000000)), (wrap64 (x8_2 + 1)), (by first | rfl | (simp; done) | (simp only [← hji10] <;> (first | rfl | simp)) | (simp [*]; done)), jz, H', ⟨by have := HK1.out; have := HK2.out; omega⟩, ⟨rz HO_5⟩, ⟨bz⟩⟩
            ·rw [if_neg c14] at H
             exact absurd H (by simp)
           ·rw [if_neg c13] at H
            exact absurd H (by simp)
          ·rw [if_neg c12] at H
           exact absurd H (by simp)
         ·rw [if_neg c11] at H
          exact absurd H (by simp)
        ·rw [if_neg c9] at H; have c9b0 : decide (x8_2 < (l1.length : Int)) = false := decide_eq_false c9; clear c9
         by_cases c20 : x7_2 > 0
         ·rw [if_pos c20] at H; have c20b0 : decide (0 < x7_2) = true := decide_eq_true c20; clear c20; obtain ⟨ji21, hji21⟩ : ∃ j_ : Int, (wrap64 (x6_1 + x8_2)) = j_ := ⟨_, rfl⟩; replace H : (if 0 ≤ (ji21) then (if (ji21) < (x5_2.length : Int) then (if 0 ≤ x6_1 then (if x6_1 < (l0.length : Int) then ((dioramaref02_digit.f l1 x8_2).bind fun t210 => (dioramaref02_Times.l1 k2 l0 l1 (x5_2.set ((ji21) : Int).toNat (Int.tmod (wrap64 ((wrap64 ((rd x5_2 (ji21)) + (wrap64 ((rd l0 x6_1) * t210)))) + x7_2)) 1000000000)) x6_1 (wrap64 (Int.tdiv (wrap64 ((wrap64 ((rd x5_2 (ji21)) + (wrap64 ((rd l0 x6_1) * t210)))) + x7_2)) 1000000000)) (wrap64 (x8_2 + 1)))) else (none)) else (none)) else (none)) else (none)) = some r := by first | (rw [hji21] at H; exact H) | (simp only [hji21] at H ⊢; exact H)
          have hji21w : (IntKind.i64.wrap (x6_1 + x8_2)) = ji21 := (i64_w _).trans hji21
          by_cases c22 : 0 ≤ (ji21)
          ·rw [if_pos c22] at H; have c22b0 : decide (0 ≤ (ji21)) = true := decide_eq_true c22; clear c22
           by_cases c23 : (ji21) < (x5_2.length : Int)
           ·rw [if_pos c23] at H; have c23b0 : decide ((ji21) < (x5_2.length : Int)) = true := decide_eq_true c23; clear c23
            by_cases c24 : 0 ≤ x6_1
            ·rw [if_pos c24] at H; have c24b0 : decide (0 ≤ x6_1) = true := decide_eq_true c24; clear c24
             by_cases c25 : x6_1 < (l0.length : Int)
             ·rw [if_pos c25] at H; have c25b0 : decide (x6_1 < (l0.length : Int)) = true := decide_eq_true c25; clear c25; obtain ⟨t210, A26, H⟩ := ob H; obtain ⟨y211, hy211⟩ : ∃ y_ : List Int, y_ = (x5_2.set ((ji21) : Int).toNat (Int.tmod (wrap64 ((wrap64 ((rd x5_2 (ji21)) + (wrap64 ((rd l0 x6_1) * t210)))) + x7_2)) 1000000000)) := ⟨_, rfl⟩; replace H : (dioramaref02_Times.l1 k2 l0 l1 y211 x6_1 (wrap64 (Int.tdiv (wrap64 ((wrap64 ((rd x5_2 (ji21)) + (wrap64 ((rd l0 x6_1) * t210)))) + x7_2)) 1000000000)) (wrap64 (x8_2 + 1))) = some r := by first | (rw [hy211]; with_reducible exact H) | (have H2_ := (Option.bind_some _ _).symm.trans H; rw [hy211]; with_reducible exact H2_) | (have H2_ := (Option.bind_some _ _).symm.trans H; with_reducible exact H2_) | with_reducible exact H | (rw [hy211]; exact H) | exact H
              have Ny211 := Aside0.mk hy211; clear hy211; have H' := Aside0.mk H; clear H; obtain ⟨Ao28, co28, eo28⟩ := Kd.R_slice HO_5.out; subst eo28; have p208 : 0 ≤ ((ji21) : Int) := od; have q208 : (ji21) < (x5_2.length : Int) := od; obtain ⟨ad208, e208, hx208_0⟩ := Kd.at_int (Kd.R_reads' HO_5.out).2.2 (ji21) p208 q208
              cases e208
              replace p208 := eq_true p208; replace q208 := eq_true q208; have p209 : 0 ≤ (x6_1 : Int) := od; have q209 : x6_1 < (l0.length : Int) := od; obtain ⟨ad209, e209, hx209_0⟩ := Kd.at_int HR0.out x6_1 p209 q209
              cases e209
              replace hx209_0 := cl HB hx209_0; replace p209 := eq_true p209; replace q209 := eq_true q209
              go_wp2_with (first | (go_at_call 155; (with_reducible refine (dioramaref02_digit.calls _ _ l1 x8_2 t210 _ ?side1 ?side2 A26.out).mono ?_); (case side1 => exact cz HR1); (case side2 => exact HC1.out); rintro e w' ⟨rfl, ⟨nd, rfl⟩⟩; (try first | exact ⟨rfl, _, World.drewN_drewN _ _ _⟩ | exact ⟨rfl, _, Eq.trans (World.drewN_drewN _ _ _) (congrArg (World.drewN _) (Nat.add_assoc _ _ _))⟩); have p27 : 0 ≤ ((ji21) : Int) := od; have q27 : ((ji21) : Int) < ((x5_2.length : Int) : Int) := od; obtain ⟨go27, co27, eo27, gb27, gl27, cl27, HG27⟩ := Kd.R_form HO_5.out (by omega); (first | cases eo27 | (injection eo27 with ea_ en_ ec_; (first | subst ea_ | (injection ea_ with ea_; subst ea_)); subst ec_; clear en_)); have GB27 := Aside0.mk gb27; have GG27 := Aside0.mk HG27; clear gb27 gl27 HG27; (first | simp only [add_plain] at hx208_0 | skip); obtain ⟨hx27_0, hf27_0⟩ := Kd.R_celln 0 HO_5.out ((ji21) : Int) p27 q27; replace p27 := eq_true p27; replace q27 := eq_true q27; obtain ⟨hy29_, hz29_⟩ := Kd.R_celln 0 HO_5.out ((ji21) : Int) (od) (od); have HP29 := Kd.R_putg HO_5.out ((ji21) : Int) (Int.tmod (wrap64 ((wrap64 ((rd x5_2 (ji21)) + (wrap64 ((rd l0 x6_1) * t210)))) + x7_2)) 1000000000)) | ((with_reducible refine gate_store (t := 3) (p := 55) rfl ?_); (try (rw [drewN_self wr]; generalize hq_ : World.drewN wr _ = wr; have n0_ := Aside0.mk (Kd.R_at hq_ HO_5.out); have n1_ := Aside0.mk (below_at hq_ HB.out); clear hq_ HO_5 HB; have HO_5 := n0_; have HB := n1_; clear n0_ n1_; (try (obtain ⟨hy29_, hz29_⟩ := Kd.R_celln 0 HO_5.out ((ji21) : Int) (od) (od))); (try (have HP29 := Kd.R_putg HO_5.out ((ji21) : Int) (Int.tmod (wrap64 ((wrap64 ((rd x5_2 (ji21)) + (wrap64 ((rd l0 x6_1) * t210)))) + x7_2)) 1000000000))))); refine store_event (t := 3) (p := 55) (v := ?vo_w30) (w1 := (wr.setCell ⟨go27, ((ji21) : Int).toNat, none⟩ (.int .i64 (Int.tmod (wrap64 ((wrap64 ((rd x5_2 (ji21)) + (wrap64 ((rd l0 x6_1) * t210)))) + x7_2)) 1000000000)))) ?hg ?ho ?hn ?hr ?_; (case ho => rfl); (case hg => rfl); (case hn => rfl); (case hr => first | (go_simp; done) | (go_simp; rfl)); intro w30 hw; have hg : wr.grownBy w30 (some go27) := (by rw [hw]; exact HP29.2); have hp_ : Kd.R (Kd.int .i64) 3 w30 w.heap.size (fun _ => True) (.slice (some ⟨go27, 0, none⟩) x5_2.length co28) y211 := (by rw [hw, Ny211.out]; exact HP29.1); clear HP29; replace HO_5 := Aside0.mk (hp_); replace HB := Aside0.mk ((by rw [hw]; exact below_set (HB.out) GB27.out : Below w.heap.size w w30)); clear hg hw hp_))
              repeat (go_quiet (first | (go_at_call 155; (with_reducible refine (dioramaref02_digit.calls _ _ l1 x8_2 t210 _ ?side1 ?side2 A26.out).mono ?_); (case side1 => exact cz HR1); (case side2 => exact HC1.out); rintro e w' ⟨rfl, ⟨nd, rfl⟩⟩; (try first | exact ⟨rfl, _, World.drewN_drewN _ _ _⟩ | exact ⟨rfl, _, Eq.trans (World.drewN_drewN _ _ _) (congrArg (World.drewN _) (Nat.add_assoc _ _ _))⟩); have p27 : 0 ≤ ((ji21) : Int) := od; have q27 : ((ji21) : Int) < ((x5_2.length : Int) : Int) := od; obtain ⟨go27, co27, eo27, gb27, gl27, cl27, HG27⟩ := Kd.R_form HO_5.out (by omega); (first | cases eo27 | (injection eo27 with ea_ en_ ec_; (first | subst ea_ | (injection ea_ with ea_; subst ea_)); subst ec_; clear en_)); have GB27 := Aside0.mk gb27; have GG27 := Aside0.mk HG27; clear gb27 gl27 HG27; (first | simp only [add_plain] at hx208_0 | skip); obtain ⟨hx27_0, hf27_0⟩ := Kd.R_celln 0 HO_5.out ((ji21) : Int) p27 q27; replace p27 := eq_true p27; replace q27 := eq_true q27; obtain ⟨hy29_, hz29_⟩ := Kd.R_celln 0 HO_5.out ((ji21) : Int) (od) (od); have HP29 := Kd.R_putg HO_5.out ((ji21) : Int) (Int.tmod (wrap64 ((wrap64 ((rd x5_2 (ji21)) + (wrap64 ((rd l0 x6_1) * t210)))) + x7_2)) 1000000000)) | ((with_reducible refine gate_store (t := 3) (p := 55) rfl ?_); (try (rw [drewN_self wr]; generalize hq_ : World.drewN wr _ = wr; have n0_ := Aside0.mk (Kd.R_at hq_ HO_5.out); have n1_ := Aside0.mk (below_at hq_ HB.out); clear hq_ HO_5 HB; have HO_5 := n0_; have HB := n1_; clear n0_ n1_; (try (obtain ⟨hy29_, hz29_⟩ := Kd.R_celln 0 HO_5.out ((ji21) : Int) (od) (od))); (try (have HP29 := Kd.R_putg HO_5.out ((ji21) : Int) (Int.tmod (wrap64 ((wrap64 ((rd x5_2 (ji21)) + (wrap64 ((rd l0 x6_1) * t210)))) + x7_2)) 1000000000))))); refine store_event (t := 3) (p := 55) (v := ?vo_w30) (w1 := (wr.setCell ⟨go27, ((ji21) : Int).toNat, none⟩ (.int .i64 (Int.tmod (wrap64 ((wrap64 ((rd x5_2 (ji21)) + (wrap64 ((rd l0 x6_1) * t210)))) + x7_2)) 1000000000)))) ?hg ?ho ?hn ?hr ?_; (case ho => rfl); (case hg => rfl); (case hn => rfl); (case hr => first | (go_simp; done) | (go_simp; rfl)); intro w30 hw; have hg : wr.grownBy w30 (some go27) := (by rw [hw]; exact HP29.2); have hp_ : Kd.R (Kd.int .i64) 3 w30 w.heap.size (fun _ => True) (.slice (some ⟨go27, 0, none⟩) x5_2.length co28) y211 := (by rw [hw, Ny211.out]; exact HP29.1); clear HP29; have n0_ := Aside0.mk (hp_); have n1_ := Aside0.mk ((by rw [hw]; exact below_set (HB.out) GB27.out : Below w.heap.size w w30)); clear HO_5; clear HB; have HO_5 := n0_; have HB := n1_; clear n0_ n1_; clear hg hw hp_)); try go_wp2_with (first | (go_at_call 155; (with_reducible refine (dioramaref02_digit.calls _ _ l1 x8_2 t210 _ ?side1 ?side2 A26.out).mono ?_); (case side1 => exact cz HR1); (case side2 => exact HC1.out); rintro e w' ⟨rfl, ⟨nd, rfl⟩⟩; (try first | exact ⟨rfl, _, World.drewN_drewN _ _ _⟩ | exact ⟨rfl, _, Eq.trans (World.drewN_drewN _ _ _) (congrArg (World.drewN _) (Nat.add_assoc _ _ _))⟩); have p27 : 0 ≤ ((ji21) : Int) := od; have q27 : ((ji21) : Int) < ((x5_2.length : Int) : Int) := od; obtain ⟨go27, co27, eo27, gb27, gl27, cl27, HG27⟩ := Kd.R_form HO_5.out (by omega); (first | cases eo27 | (injection eo27 with ea_ en_ ec_; (first | subst ea_ | (injection ea_ with ea_; subst ea_)); subst ec_; clear en_)); have GB27 := Aside0.mk gb27; have GG27 := Aside0.mk HG27; clear gb27 gl27 HG27; (first | simp only [add_plain] at hx208_0 | skip); obtain ⟨hx27_0, hf27_0⟩ := Kd.R_celln 0 HO_5.out ((ji21) : Int) p27 q27; replace p27 := eq_true p27; replace q27 := eq_true q27; obtain ⟨hy29_, hz29_⟩ := Kd.R_celln 0 HO_5.out ((ji21) : Int) (od) (od); have HP29 := Kd.R_putg HO_5.out ((ji21) : Int) (Int.tmod (wrap64 ((wrap64 ((rd x5_2 (ji21)) + (wrap64 ((rd l0 x6_1) * t210)))) + x7_2)) 1000000000)) | ((with_reducible refine gate_store (t := 3) (p := 55) rfl ?_); (try (rw [drewN_self wr]; generalize hq_ : World.drewN wr _ = wr; have n0_ := Aside0.mk (Kd.R_at hq_ HO_5.out); have n1_ := Aside0.mk (below_at hq_ HB.out); clear hq_ HO_5 HB; have HO_5 := n0_; have HB := n1_; clear n0_ n1_; (try (obtain ⟨hy29_, hz29_⟩ := Kd.R_celln 0 HO_5.out ((ji21) : Int) (od) (od))); (try (have HP29 := Kd.R_putg HO_5.out ((ji21) : Int) (Int.tmod (wrap64 ((wrap64 ((rd x5_2 (ji21)) + (wrap64 ((rd l0 x6_1) * t210)))) + x7_2)) 1000000000))))); refine store_event (t := 3) (p := 55) (v := ?vo_w30) (w1 := (wr.setCell ⟨go27, ((ji21) : Int).toNat, none⟩ (.int .i64 (Int.tmod (wrap64 ((wrap64 ((rd x5_2 (ji21)) + (wrap64 ((rd l0 x6_1) * t210)))) + x7_2)) 1000000000)))) ?hg ?ho ?hn ?hr ?_; (case ho => rfl); (case hg => rfl); (case hn => rfl); (case hr => first | (go_simp; done) | (go_simp; rfl)); intro w30 hw; have hg : wr.grownBy w30 (some go27) := (by rw [hw]; exact HP29.2); have hp_ : Kd.R (Kd.int .i64) 3 w30 w.heap.size (fun _ => True) (.slice (some ⟨go27, 0, none⟩) x5_2.length co28) y211 := (by rw [hw, Ny211.out]; exact HP29.1); clear HP29; replace HO_5 := Aside0.mk (hp_); replace HB := Aside0.mk ((by rw [hw]; exact below_set (HB.out) GB27.out : Below w.heap.size w w30)); clear hg hw hp_)))
              go_roundg k2
              case measure => have := HK1.out; have := HK2.out; omega
              case rel => exact ⟨(y211), (wrap64 (Int.tdiv (wrap64 ((wrap64 ((rd x5_2 (ji21)) + (wrap64 ((rd l0 x6_1) * t210)))) + x7_2)) 1000000000)), (wrap64 (x8_2 + 1)), (by first | rfl | (simp; done) | (simp only [← hji21] <;> (first | rfl | simp)) | (simp [*]; done)), jz, H', ⟨by have := HK1.out; have := HK2.out; omega⟩, ⟨rz HO_5⟩, ⟨bz⟩⟩
             ·rw [if_neg c25] at H
              exact absurd H (by simp)
            ·rw [if_neg c24] at H
             exact absurd H (by simp)
           ·rw [if_neg c23] at H
            exact absurd H (by simp)
          ·rw [if_neg c22] at H
           exact absurd H (by simp)
         ·rw [if_neg c20] at H; have c20b0 : decide (0 < x7_2) = false := decide_eq_false c20; clear c20; have H' := Aside0.mk H; clear H
          go_wp2
          repeat (go_quiet (fail); try go_wp2)
          go_roundg k2
          case measure => have := HK1.out; have := HK2.out; omega
          case rel => exact ⟨(x5_2), (wrap64 (x6_1 + 1)), jz, H', ⟨by have := HK1.out; have := HK2.out; omega⟩, ⟨rz HO_5⟩, ⟨bz⟩⟩
     ·rw [if_neg c8] at H; have c8b0 : decide (x6_1 < (l0.length : Int)) = false := decide_eq_false c8; clear c8; obtain ⟨t201, A31, H⟩ := ob H; obtain rfl := Option.some.inj H; obtain ⟨Ao32, co32, eo32⟩ := Kd.R_slice HO_5.out; subst eo32
      go_wp2_with (first | (go_at_call 154; (with_reducible refine (dioramaref02_trimmed.calls k1 (fun k_ => some k_ = (.slice Ao32 x5_1.length co32 : Value).ownBlock) (.slice Ao32 x5_1.length co32) x5_1 t201 w _ ?side1 ?side2 A31.out).mono ?_); (case side1 => repeat (first | (with_reducible first | exact HB.out | apply below_alloc | apply pw_below_drewN | apply below_drew1) | exact HB.out)); (case side2 => exact Kd.R_tight rfl HO_5.out); rintro e w33 ⟨v202, rfl, ho0, hb, hkp⟩; have HO203 := Aside0.mk (Kd.R_mono (ok' := fun k_ => True) ho0 (fun k_ hk_ => trivial)); replace HB := Aside0.mk (hb); clear HO_5; clear hb hkp ho0))
      repeat (go_quiet (first | (go_at_call 154; (with_reducible refine (dioramaref02_trimmed.calls k1 (fun k_ => some k_ = (.slice Ao32 x5_1.length co32 : Value).ownBlock) (.slice Ao32 x5_1.length co32) x5_1 t201 w _ ?side1 ?side2 A31.out).mono ?_); (case side1 => repeat (first | (with_reducible first | exact HB.out | apply below_alloc | apply pw_below_drewN | apply below_drew1) | exact HB.out)); (case side2 => exact Kd.R_tight rfl HO_5.out); rintro e w33 ⟨v202, rfl, ho0, hb, hkp⟩; have n0_ := Aside0.mk (Kd.R_mono (ok' := fun k_ => True) ho0 (fun k_ hk_ => trivial)); have n1_ := Aside0.mk (hb); clear HB; clear HO_5; have HO203 := n0_; have HB := n1_; clear n0_ n1_; (try clear hb); (try clear hkp); (try clear ho0))); try go_wp2_with (first | (go_at_call 154; (with_reducible refine (dioramaref02_trimmed.calls k1 (fun k_ => some k_ = (.slice Ao32 x5_1.length co32 : Value).ownBlock) (.slice Ao32 x5_1.length co32) x5_1 t201 w _ ?side1 ?side2 A31.out).mono ?_); (case side1 => repeat (first | (with_reducible first | exact HB.out | apply below_alloc | apply pw_below_drewN | apply below_drew1) | exact HB.out)); (case side2 => exact Kd.R_tight rfl HO_5.out); rintro e w33 ⟨v202, rfl, ho0, hb, hkp⟩; have HO203 := Aside0.mk (Kd.R_mono (ok' := fun k_ => True) ho0 (fun k_ hk_ => trivial)); replace HB := Aside0.mk (hb); clear HO_5; clear hb hkp; (try clear ho0))))
      go_ret
      exact ⟨_, by first | rfl | (simp [errW_none, errW_some] <;> rfl) | (simp only [← hji3]; first | rfl | (simp [errW_none, errW_some] <;> rfl)) | (simp [*, errW_none, errW_some] <;> rfl), by (with_reducible repeat (first | apply Kd.R_alloc | apply Kd.R_drewN | apply Kd.R_drew)); exact HO203.out, bz⟩
  ·rw [if_neg c5] at H
   exact absurd H (by simp)
 ·rw [if_neg c4] at H
  exact absurd H (by simp)
mutual
def dioramaref02_Plus.l0 : Nat → List Int → List Int → List Int → Int → Int → Option (List Int)
  | 0, _, _, _, _, _ => none
  | k + 1, x0, x1, x5, x6, x7 => if x7 < (x0.length : Int) then (dioramaref02_Plus.j1 k x0 x1 x5 x6 x7 true) else (if x7 < (x1.length : Int) then (dioramaref02_Plus.j1 k x0 x1 x5 x6 x7 true) else (dioramaref02_Plus.j1 k x0 x1 x5 x6 x7 (decide (x6 > 0))))
def dioramaref02_Plus.j1 : Nat → List Int → List Int → List Int → Int → Int → Bool → Option (List Int)
  | 0, _, _, _, _, _, _ => none
  | k + 1, x0, x1, x5, x6, x7, x22 => if x22 = true then ((dioramaref02_digit.f x0 x7).bind fun t212 => ((dioramaref02_digit.f x1 x7).bind fun t213 => (if x5.length < 17592186044416 then (dioramaref02_Plus.l0 k x0 x1 (x5 ++ [Int.tmod (wrap64 ((wrap64 (t212 + t213)) + x6)) 1000000000]) (wrap64 (Int.tdiv (wrap64 ((wrap64 (t212 + t213)) + x6)) 1000000000)) (wrap64 (x7 + 1))) else (none)))) else (some x5)
end
def dioramaref02_Plus.f (k : Nat) (l0 : List Int) (l1 : List Int) : Option (List Int) := dioramaref02_Plus.l0 k l0 l1 ([] : List Int) 0 0
set_option maxHeartbeats 8000000 in
set_option maxRecDepth 100000 in
theorem dioramaref02_Plus.calls (k : Nat) (A0 : Option Addr) (c0 : Nat) (l0 : List Int) (A1 : Option Addr) (c1 : Nat) (l1 : List Int) (r : List Int) (w : World) (hr0 : Kd.C (Kd.int .i64) w A0 l0.length l0) (hc0 : l0.length ≤ c0) (hr1 : Kd.C (Kd.int .i64) w A1 l1.length l1) (hc1 : l1.length ≤ c1) (h : dioramaref02_Plus.f k l0 l1 = some r) :
  Calls Try.prog 137 #[.slice A0 l0.length c0, .slice A1 l1.length c1] w fun e w' => ∃ v0_ : Value, e = .returned (v0_) ∧ Kd.R (Kd.int .i64) 3 w' w.heap.size (fun _ => True) v0_ r ∧ Below w.heap.size w w' := by
 have HR0 := Aside0.mk hr0; have HC0 := Aside0.mk hc0; clear hr0 hc0; have HR1 := Aside0.mk hr1; have HC1 := Aside0.mk hc1; clear hr1 hc1; have HB := Aside0.mk (Below.refl w.heap.size w); have H : (dioramaref02_Plus.l0 k l0 l1 ([] : List Int) 0 0) = some r := h; clear h; have H' := Aside0.mk H; clear H
 go_enter Try.func137, Try.ntmps137
 go_wp2
 go_loopg [5, 6, 7] k (fun kq v5 v6 v7 w' => ∃ (x5_1 : List Int) (x6_1 : Int) (x7_1 : Int), v6 = .int .i64 x6_1 ∧ v7 = .int .i64 x7_1 ∧ Aside0 (dioramaref02_Plus.l0 kq l0 l1 x5_1 x6_1 x7_1 = some r) ∧ Aside0 (kq ≤ k) ∧ Aside0 (Kd.R (Kd.int .i64) 3 w' w.heap.size (fun _ => True) v5 x5_1) ∧ Aside0 (Below w.heap.size w w'))
 case atStart => exact ⟨(([] : List Int)), (0), (0), jz, jz, H', ⟨Nat.le_refl _⟩, ⟨by first | exact Kd.R_nil _ _ _ _ _ | exact Kd.N_nil _ _ _ _ _ | exact Kd.V_nil _ _ _ _ _ | exact Kd.Q_nil _ _ _ _ _ | exact Kd.S_nil _ _ _ _ _⟩, ⟨bz⟩⟩
 case round =>
  clear H'
  try clear c1
  try clear p2
  obtain ⟨x5_1, x6_1, x7_1, rfl, rfl, HA, HK1, HO_5, HB⟩ := hrel
  cases gk with
  | zero => exact absurd HA.out (by simp [dioramaref02_Plus.l0])
  | succ k1 =>
   have H := HA.out; clear HA; simp only [dioramaref02_Plus.l0] at H; have HC3 := Aside0.mk H; clear H
   go_upto_region 4 with (fail)
   go_cut [22] (fun v22 wc => ∃ (kq : Nat) (x22_2 : Bool), v22 = .bool x22_2 ∧ Aside0 (dioramaref02_Plus.j1 kq l0 l1 x5_1 x6_1 x7_1 x22_2 = some r) ∧ Aside0 (kq ≤ k1) ∧ Aside0 (Kd.R (Kd.int .i64) 3 wc w.heap.size (fun _ => True) u5 x5_1) ∧ Aside0 (Below w.heap.size w wc))
   case first =>
    have H := HC3.out; clear HC3
    by_cases c4 : x7_1 < (l0.length : Int)
    ·rw [if_pos c4] at H; have c4b0 : decide (x7_1 < (l0.length : Int)) = true := decide_eq_true c4; clear c4
     (first | rw [c4b0] | (simp only [i64_w, i32_w]; rw [c4b0]) | skip)
     have H' := Aside0.mk H; clear H
     go_wp2
     go_meet
     case rel => exact ⟨_, (true), jz, H', ⟨by have := HK1.out; first | omega | exact Nat.le_refl _⟩, ⟨rz HO_5⟩, ⟨bz⟩⟩
    ·rw [if_neg c4] at H; have c4b0 : decide (x7_1 < (l0.length : Int)) = false := decide_eq_false c4; clear c4
     (first | rw [c4b0] | (simp only [i64_w, i32_w]; rw [c4b0]) | skip)
     by_cases c5 : x7_1 < (l1.length : Int)
     ·rw [if_pos c5] at H; have c5b0 : decide (x7_1 < (l1.length : Int)) = true := decide_eq_true c5; clear c5; have H' := Aside0.mk H; clear H
      go_wp2
      go_meet
      case rel => exact ⟨_, (true), jz, H', ⟨by have := HK1.out; first | omega | exact Nat.le_refl _⟩, ⟨rz HO_5⟩, ⟨bz⟩⟩
     ·rw [if_neg c5] at H; have c5b0 : decide (x7_1 < (l1.length : Int)) = false := decide_eq_false c5; clear c5; have H' := Aside0.mk H; clear H
      go_wp2
      go_meet
      case rel => exact ⟨_, (decide (x6_1 > 0)), jz, H', ⟨by have := HK1.out; first | omega | exact Nat.le_refl _⟩, ⟨rz HO_5⟩, ⟨bz⟩⟩
   case rest =>
    clear HC3
    try clear c1
    try clear p2
    try clear c4
    try clear c4b0
    try clear c5
    try clear c5b0
    try clear p2
    obtain ⟨kq, x22_2, rfl, HA, HJ2, HO_5, HB⟩ := hcut
    cases kq with
    | zero => exact absurd HA.out (by simp [dioramaref02_Plus.j1])
    | succ kj2 =>
     have H := HA.out; clear HA; simp only [dioramaref02_Plus.j1] at H
     by_cases c6 : x22_2 = true
     ·subst c6; rw [if_pos rfl] at H; obtain ⟨t212, A7, H⟩ := ob H; obtain ⟨t213, A8, H⟩ := ob H
      by_cases c9 : x5_1.length < 17592186044416
      ·rw [if_pos c9] at H; have LMc9 := Aside0.mk c9; clear c9; obtain ⟨y214, hy214⟩ : ∃ y_ : List Int, y_ = (x5_1 ++ [Int.tmod (wrap64 ((wrap64 (t212 + t213)) + x6_1)) 1000000000]) := ⟨_, rfl⟩; replace H : (dioramaref02_Plus.l0 kj2 l0 l1 y214 (wrap64 (Int.tdiv (wrap64 ((wrap64 (t212 + t213)) + x6_1)) 1000000000)) (wrap64 (x7_1 + 1))) = some r := by first | (rw [hy214]; with_reducible exact H) | (have H2_ := (Option.bind_some _ _).symm.trans H; rw [hy214]; with_reducible exact H2_) | (have H2_ := (Option.bind_some _ _).symm.trans H; with_reducible exact H2_) | with_reducible exact H | (rw [hy214]; exact H) | exact H
       have Ny214 := Aside0.mk hy214; clear hy214; have H' := Aside0.mk H; clear H
       go_wp2_with (first | ((with_reducible refine gate_callee (f := 155) rfl ?_); refine zC 27 Try.func155 #[.slice A0 l0.length c0, .int .i64 x7_1] ?_; (with_reducible refine (dioramaref02_digit.calls _ _ l0 x7_1 t212 _ ?side1 ?side2 A7.out).mono ?_); (case side1 => exact cz HR0); (case side2 => exact HC0.out); rintro e w' ⟨rfl, ⟨nd, rfl⟩⟩; refine ⟨_, rfl, ?_⟩) | ((with_reducible refine gate_callee (f := 155) rfl ?_); refine zC 30 Try.func155 #[.slice A1 l1.length c1, .int .i64 x7_1] ?_; (with_reducible refine (dioramaref02_digit.calls _ _ l1 x7_1 t213 _ ?side1 ?side2 A8.out).mono ?_); (case side1 => repeat (first | exact (Kd.C_below HR1.out bz) | (with_reducible refine Kd.C_alloc ?_ _) | (with_reducible refine Kd.C_drewN ?_ _) | (with_reducible refine Kd.C_drew ?_))); (case side2 => exact HC1.out); rintro e w' ⟨rfl, ⟨nd, rfl⟩⟩; refine ⟨_, rfl, ?_⟩) | ((with_reducible refine gate_builtin (b := .append) (xs := #[.tmp 34, .tmp 37]) rfl ?_); at_builtin; refine Kd.R_append (Kd.int .i64) (w0 := w) w.heap.size rfl (.tmp 34) (.tmp 37) 93 3 (.int .i64 0) 8 rfl Try.underlying93 info3 rfl (by decide) (by omega) u5 x5_1 (Int.tmod (wrap64 ((wrap64 (t212 + t213)) + x6_1)) 1000000000) [.int .i64 (Int.tmod (wrap64 ((wrap64 (t212 + t213)) + x6_1)) 1000000000)] (fun _ => True) (fun _ => False) rfl rfl ?aP (fun _ hk => hk.elim) ?aF ?aO ?aB ?aS ?aL ?_; (case aP => exact rfl); (case aB => exact bz); (case aF => exact (fun _ _ => trivial)); (case aO => exact (rz HO_5)); (case aS => exact sz); (case aL => have := LMc9.out; omega); intro v215 w10 ho hb hg hat; rw [← Ny214.out] at ho; replace HB := Aside0.mk (hb); have HO216 := Aside0.mk (ho); clear HO_5; clear ho hb hg hat))
       go_roundg kj2
       case measure => have := HK1.out; have := HJ2.out; omega
       case rel => exact ⟨(y214), (wrap64 (Int.tdiv (wrap64 ((wrap64 (t212 + t213)) + x6_1)) 1000000000)), (wrap64 (x7_1 + 1)), jz, jz, H', ⟨by have := HK1.out; have := HJ2.out; omega⟩, ⟨rz HO216⟩, ⟨bz⟩⟩
      ·rw [if_neg c9] at H
       exact absurd H (by simp)
     ·obtain rfl := bf c6; rw [if_neg (show ¬ (false = true) by decide)] at H; obtain rfl := Option.some.inj H
      go_wp2
      go_ret
      exact ⟨_, ez, by (with_reducible repeat (first | apply Kd.R_alloc | apply Kd.R_drewN | apply Kd.R_drew)); exact HO_5.out, bz⟩
def dioramaref02_Minus.l0 : Nat → List Int → List Int → List Int → Int → Int → Option (List Int)
  | 0, _, _, _, _, _ => none
  | k + 1, x0, x1, x5, x6, x7 => if x7 < (x0.length : Int) then ((dioramaref02_digit.f x0 x7).bind fun t220 => ((dioramaref02_digit.f x1 x7).bind fun t221 => (if (wrap64 ((wrap64 (t220 - t221)) - x6)) < 0 then (if x5.length < 17592186044416 then (dioramaref02_Minus.l0 k x0 x1 (x5 ++ [wrap64 ((wrap64 ((wrap64 (t220 - t221)) - x6)) + 1000000000)]) 1 (wrap64 (x7 + 1))) else (none)) else (if x5.length < 17592186044416 then (dioramaref02_Minus.l0 k x0 x1 (x5 ++ [wrap64 ((wrap64 (t220 - t221)) - x6)]) 0 (wrap64 (x7 + 1))) else (none))))) else ((dioramaref02_trimmed.f k x5).bind fun t217 => (some t217))
def dioramaref02_Minus.f (k : Nat) (l0 : List Int) (l1 : List Int) : Option (List Int) := dioramaref02_Minus.l0 k l0 l1 ([] : List Int) 0 0
set_option maxHeartbeats 8000000 in
set_option maxRecDepth 100000 in
theorem dioramaref02_Minus.calls (k : Nat) (A0 : Option Addr) (c0 : Nat) (l0 : List Int) (A1 : Option Addr) (c1 : Nat) (l1 : List Int) (r : List Int) (w : World) (hr0 : Kd.C (Kd.int .i64) w A0 l0.length l0) (hc0 : l0.length ≤ c0) (hr1 : Kd.C (Kd.int .i64) w A1 l1.length l1) (hc1 : l1.length ≤ c1) (h : dioramaref02_Minus.f k l0 l1 = some r) :
  Calls Try.prog 138 #[.slice A0 l0.length c0, .slice A1 l1.length c1] w fun e w' => ∃ v0_ : Value, e = .returned (v0_) ∧ Kd.R (Kd.int .i64) 3 w' w.heap.size (fun _ => True) v0_ r ∧ Below w.heap.size w w' := by
 have HR0 := Aside0.mk hr0; have HC0 := Aside0.mk hc0; clear hr0 hc0; have HR1 := Aside0.mk hr1; have HC1 := Aside0.mk hc1; clear hr1 hc1; have HB := Aside0.mk (Below.refl w.heap.size w); have H : (dioramaref02_Minus.l0 k l0 l1 ([] : List Int) 0 0) = some r := h; clear h; have H' := Aside0.mk H; clear H
 go_enter Try.func138, Try.ntmps138
 go_wp2
 go_loopg [5, 6, 7] k (fun kq v5 v6 v7 w' => ∃ (x5_1 : List Int) (x6_1 : Int) (x7_1 : Int), v6 = .int .i64 x6_1 ∧ v7 = .int .i64 x7_1 ∧ Aside0 (dioramaref02_Minus.l0 kq l0 l1 x5_1 x6_1 x7_1 = some r) ∧ Aside0 (kq ≤ k) ∧ Aside0 (Kd.R (Kd.int .i64) 3 w' w.heap.size (fun _ => True) v5 x5_1) ∧ Aside0 (Below w.heap.size w w'))
 case atStart => exact ⟨(([] : List Int)), (0), (0), jz, jz, H', ⟨Nat.le_refl _⟩, ⟨by first | exact Kd.R_nil _ _ _ _ _ | exact Kd.N_nil _ _ _ _ _ | exact Kd.V_nil _ _ _ _ _ | exact Kd.Q_nil _ _ _ _ _ | exact Kd.S_nil _ _ _ _ _⟩, ⟨bz⟩⟩
 case round =>
  clear H'
  try clear c1
  try clear p2
  obtain ⟨x5_1, x6_1, x7_1, rfl, rfl, HA, HK1, HO_5, HB⟩ := hrel
  cases gk with
  | zero => exact absurd HA.out (by simp [dioramaref02_Minus.l0])
  | succ k1 =>
   have H := HA.out; clear HA; simp only [dioramaref02_Minus.l0] at H
   by_cases c3 : x7_1 < (l0.length : Int)
   ·rw [if_pos c3] at H; have c3b0 : decide (x7_1 < (l0.length : Int)) = true := decide_eq_true c3; clear c3; obtain ⟨t220, A4, H⟩ := ob H; obtain ⟨t221, A5, H⟩ := ob H
    by_cases c6 : (wrap64 ((wrap64 (t220 - t221)) - x6_1)) < 0
    ·rw [if_pos c6] at H; have c6b0 : decide ((wrap64 ((wrap64 (t220 - t221)) - x6_1)) < 0) = true := decide_eq_true c6; clear c6
     by_cases c7 : x5_1.length < 17592186044416
     ·rw [if_pos c7] at H; have LMc7 := Aside0.mk c7; clear c7; obtain ⟨y222, hy222⟩ : ∃ y_ : List Int, y_ = (x5_1 ++ [wrap64 ((wrap64 ((wrap64 (t220 - t221)) - x6_1)) + 1000000000)]) := ⟨_, rfl⟩; replace H : (dioramaref02_Minus.l0 k1 l0 l1 y222 1 (wrap64 (x7_1 + 1))) = some r := by first | (rw [hy222]; with_reducible exact H) | (have H2_ := (Option.bind_some _ _).symm.trans H; rw [hy222]; with_reducible exact H2_) | (have H2_ := (Option.bind_some _ _).symm.trans H; with_reducible exact H2_) | with_reducible exact H | (rw [hy222]; exact H) | exact H
      have Ny222 := Aside0.mk hy222; clear hy222; have H' := Aside0.mk H; clear H
      go_wp2_with (first | ((with_reducible refine gate_callee (f := 155) rfl ?_); refine zC 17 Try.func155 #[.slice A0 l0.length c0, .int .i64 x7_1] ?_; (with_reducible refine (dioramaref02_digit.calls _ _ l0 x7_1 t220 _ ?side1 ?side2 A4.out).mono ?_); (case side1 => exact cz HR0); (case side2 => exact HC0.out); rintro e w' ⟨rfl, ⟨nd, rfl⟩⟩; refine ⟨_, rfl, ?_⟩) | ((with_reducible refine gate_callee (f := 155) rfl ?_); refine zC 20 Try.func155 #[.slice A1 l1.length c1, .int .i64 x7_1] ?_; (with_reducible refine (dioramaref02_digit.calls _ _ l1 x7_1 t221 _ ?side1 ?side2 A5.out).mono ?_); (case side1 => repeat (first | exact (Kd.C_below HR1.out bz) | (with_reducible refine Kd.C_alloc ?_ _) | (with_reducible refine Kd.C_drewN ?_ _) | (with_reducible refine Kd.C_drew ?_))); (case side2 => exact HC1.out); rintro e w' ⟨rfl, ⟨nd, rfl⟩⟩; refine ⟨_, rfl, ?_⟩) | ((with_reducible refine gate_builtin (b := .append) (xs := #[.tmp 28, .tmp 30]) rfl ?_); at_builtin; refine Kd.R_append (Kd.int .i64) (w0 := w) w.heap.size rfl (.tmp 28) (.tmp 30) 93 3 (.int .i64 0) 8 rfl Try.underlying93 info3 rfl (by decide) (by omega) u5 x5_1 (wrap64 ((wrap64 ((wrap64 (t220 - t221)) - x6_1)) + 1000000000)) [.int .i64 (wrap64 ((wrap64 ((wrap64 (t220 - t221)) - x6_1)) + 1000000000))] (fun _ => True) (fun _ => False) rfl rfl ?aP (fun _ hk => hk.elim) ?aF ?aO ?aB ?aS ?aL ?_; (case aP => exact rfl); (case aB => exact bz); (case aF => exact (fun _ _ => trivial)); (case aO => exact (rz HO_5)); (case aS => exact sz); (case aL => have := LMc7.out; omega); intro v223 w8 ho hb hg hat; rw [← Ny222.out] at ho; replace HB := Aside0.mk (hb); have HO224 := Aside0.mk (ho); clear HO_5; clear ho hb hg hat))
      go_roundg k1
      case measure => have := HK1.out; omega
      case rel => exact ⟨(y222), (1), (wrap64 (x7_1 + 1)), jz, jz, H', ⟨by have := HK1.out; omega⟩, ⟨rz HO224⟩, ⟨bz⟩⟩
     ·rw [if_neg c7] at H
      exact absurd H (by simp)
    ·rw [if_neg c6] at H; have c6b0 : decide ((wrap64 ((wrap64 (t220 - t221)) - x6_1)) < 0) = false := decide_eq_false c6; clear c6
     by_cases c9 : x5_1.length < 17592186044416
     ·rw [if_pos c9] at H; have LMc9 := Aside0.mk c9; clear c9; obtain ⟨y225, hy225⟩ : ∃ y_ : List Int, y_ = (x5_1 ++ [wrap64 ((wrap64 (t220 - t221)) - x6_1)]) := ⟨_, rfl⟩; replace H : (dioramaref02_Minus.l0 k1 l0 l1 y225 0 (wrap64 (x7_1 + 1))) = some r := by first | (rw [hy225]; with_reducible exact H) | (have H2_ := (Option.bind_some _ _).symm.trans H; rw [hy225]; with_reducible exact H2_) | (have H2_ := (Option.bind_some _ _).symm.trans H; with_reducible exact H2_) | with_reducible exact H | (rw [hy225]; exact H) | exact H
      have Ny225 := Aside0.mk hy225; clear hy225; have H' := Aside0.mk H; clear H
      go_wp2_with (first | ((with_reducible refine gate_callee (f := 155) rfl ?_); refine zC 17 Try.func155 #[.slice A0 l0.length c0, .int .i64 x7_1] ?_; (with_reducible refine (dioramaref02_digit.calls _ _ l0 x7_1 t220 _ ?side1 ?side2 A4.out).mono ?_); (case side1 => exact cz HR0); (case side2 => exact HC0.out); rintro e w' ⟨rfl, ⟨nd, rfl⟩⟩; refine ⟨_, rfl, ?_⟩) | ((with_reducible refine gate_callee (f := 155) rfl ?_); refine zC 20 Try.func155 #[.slice A1 l1.length c1, .int .i64 x7_1] ?_; (with_reducible refine (dioramaref02_digit.calls _ _ l1 x7_1 t221 _ ?side1 ?side2 A5.out).mono ?_); (case side1 => repeat (first | exact (Kd.C_below HR1.out bz) | (with_reducible refine Kd.C_alloc ?_ _) | (with_reducible refine Kd.C_drewN ?_ _) | (with_reducible refine Kd.C_drew ?_))); (case side2 => exact HC1.out); rintro e w' ⟨rfl, ⟨nd, rfl⟩⟩; refine ⟨_, rfl, ?_⟩) | ((with_reducible refine gate_builtin (b := .append) (xs := #[.tmp 28, .tmp 30]) rfl ?_); at_builtin; refine Kd.R_append (Kd.int .i64) (w0 := w) w.heap.size rfl (.tmp 28) (.tmp 30) 93 3 (.int .i64 0) 8 rfl Try.underlying93 info3 rfl (by decide) (by omega) u5 x5_1 (wrap64 ((wrap64 (t220 - t221)) - x6_1)) [.int .i64 (wrap64 ((wrap64 (t220 - t221)) - x6_1))] (fun _ => True) (fun _ => False) rfl rfl ?aP (fun _ hk => hk.elim) ?aF ?aO ?aB ?aS ?aL ?_; (case aP => exact rfl); (case aB => exact bz); (case aF => exact (fun _ _ => trivial)); (case aO => exact (rz HO_5)); (case aS => exact sz); (case aL => have := LMc9.out; omega); intro v226 w10 ho hb hg hat; rw [← Ny225.out] at ho; replace HB := Aside0.mk (hb); have HO227 := Aside0.mk (ho); clear HO_5; clear ho hb hg hat))
      go_roundg k1
      case measure => have := HK1.out; omega
      case rel => exact ⟨(y225), (0), (wrap64 (x7_1 + 1)), jz, jz, H', ⟨by have := HK1.out; omega⟩, ⟨rz HO227⟩, ⟨bz⟩⟩
     ·rw [if_neg c9] at H
      exact absurd H (by simp)
   ·rw [if_neg c3] at H; have c3b0 : decide (x7_1 < (l0.length : Int)) = false := decide_eq_false c3; clear c3; obtain ⟨t217, A11, H⟩ := ob H; obtain rfl := Option.some.inj H; obtain ⟨Ao12, co12, eo12⟩ := Kd.R_slice HO_5.out; subst eo12
    go_wp2_with (first | ((with_reducible refine gate_callee (f := 154) rfl ?_); refine zC 33 Try.func154 #[.slice Ao12 x5_1.length co12] ?_; (with_reducible refine (dioramaref02_trimmed.calls k1 (fun k_ => some k_ = (.slice Ao12 x5_1.length co12 : Value).ownBlock) (.slice Ao12 x5_1.length co12) x5_1 t217 w _ ?side1 ?side2 A11.out).mono ?_); (case side1 => repeat (first | (with_reducible first | exact HB.out | apply below_alloc | apply pw_below_drewN | apply below_drew1) | exact HB.out)); (case side2 => exact Kd.R_tight rfl HO_5.out); rintro e w13 ⟨v218, rfl, ho0, hb, hkp⟩; refine ⟨_, rfl, ?_⟩; have HO219 := Aside0.mk (Kd.R_mono (ok' := fun k_ => True) ho0 (fun k_ hk_ => trivial)); replace HB := Aside0.mk (hb); clear HO_5; clear hb hkp ho0))
    go_ret
    exact ⟨_, ez, by (with_reducible repeat (first | apply Kd.R_alloc | apply Kd.R_drewN | apply Kd.R_drew)); exact HO219.out, bz⟩
def dioramaref02_Small.l0 : Nat → List Int → Int → Int → Option (Int × Bool)
  | 0, _, _, _ => none
  | k + 1, x0, x6, x7 => if x7 ≥ 0 then (if 0 ≤ x7 then (if x7 < (x0.length : Int) then (dioramaref02_Small.l0 k x0 (wrap64 ((wrap64 (x6 * 1000000000)) + (rd x0 x7))) (wrap64 (x7 - 1))) else (none)) else (none)) else (some (x6, true))
def dioramaref02_Small.f (k : Nat) (l0 : List Int) (a1 : Int) : Option (Int × Bool) := (dioramaref02_Of.f k a1).bind fun t260 => ((dioramaref02_Compare.f k l0 t260).bind fun t263 => (if t263 > 0 then (some (0, false)) else (dioramaref02_Small.l0 k l0 0 (wrap64 ((l0.length : Int) - 1)))))
set_option maxHeartbeats 8000000 in
set_option maxRecDepth 100000 in
theorem dioramaref02_Small.calls (k : Nat) (A0 : Option Addr) (c0 : Nat) (l0 : List Int) (a1 : Int) (r1 : Int) (r2 : Bool) (w : World) (hr0 : Kd.C (Kd.int .i64) w A0 l0.length l0) (hc0 : l0.length ≤ c0) (h : dioramaref02_Small.f k l0 a1 = some (r1, r2)) :
  Calls Try.prog 70 #[.slice A0 l0.length c0, .int .i64 a1] w fun e w' => e = .returned (.tuple #[.int .i64 r1, .bool r2]) ∧ Below w.heap.size w w' := by
 have HR0 := Aside0.mk hr0; have HC0 := Aside0.mk hc0; clear hr0 hc0; have HB := Aside0.mk (Below.refl w.heap.size w); have H : ((dioramaref02_Of.f k a1).bind fun t260 => ((dioramaref02_Compare.f k l0 t260).bind fun t263 => (if t263 > 0 then (some (0, false)) else (dioramaref02_Small.l0 k l0 0 (wrap64 ((l0.length : Int) - 1)))))) = some (r1, r2) := h
 clear h; obtain ⟨t260, A3, H⟩ := ob H; obtain ⟨t263, A4, H⟩ := ob H
 by_cases c5 : t263 > 0
 ·rw [if_pos c5] at H; have c5b0 : decide (0 < t263) = true := decide_eq_true c5; clear c5; simp only [Option.some.injEq, Prod.mk.injEq] at H; obtain ⟨rfl, rfl⟩ := H
  go_enter Try.func70, Try.ntmps70
  go_wp2_with (first | ((with_reducible refine gate_callee (f := 121) rfl ?_); refine zC 10 Try.func121 #[.int .i64 a1] ?_; (with_reducible refine (dioramaref02_Of.calls k a1 t260 _ A3.out).mono ?_); rintro e w6 ⟨v261, rfl, ho0, hb⟩; refine ⟨_, rfl, ?_⟩; have HO262 := Aside0.mk (Kd.R_lower ho0 sz); replace HB := bp hb; clear hb ho0; obtain ⟨Ao7, co7, eo7⟩ := Kd.R_slice HO262.out; subst eo7) | ((with_reducible refine gate_callee (f := 122) rfl ?_); refine zC 11 Try.func122 #[.slice A0 l0.length c0, .slice Ao7 t260.length co7] ?_; (with_reducible refine (dioramaref02_Compare.calls k _ _ l0 _ _ t260 t263 _ ?side1 ?side2 ?side3 ?side4 A4.out).mono ?_); (case side1 => exact cz HR0); (case side2 => exact HC0.out); (case side3 => exact cr HO262); (case side4 => exact (Kd.R_reads' HO262.out).2.1); rintro e w' ⟨rfl, ⟨nd, rfl⟩⟩; refine ⟨_, rfl, ?_⟩))
  go_ret2
  exact ⟨ez, bz⟩
 ·rw [if_neg c5] at H; have c5b0 : decide (0 < t263) = false := decide_eq_false c5; clear c5; have H' := Aside0.mk H; clear H
  go_enter Try.func70, Try.ntmps70
  go_wp2_with (first | ((with_reducible refine gate_callee (f := 121) rfl ?_); refine zC 10 Try.func121 #[.int .i64 a1] ?_; (with_reducible refine (dioramaref02_Of.calls k a1 t260 _ A3.out).mono ?_); rintro e w8 ⟨v261, rfl, ho0, hb⟩; refine ⟨_, rfl, ?_⟩; have HO262 := Aside0.mk (Kd.R_lower ho0 sz); replace HB := bp hb; clear hb ho0; obtain ⟨Ao9, co9, eo9⟩ := Kd.R_slice HO262.out; subst eo9) | ((with_reducible refine gate_callee (f := 122) rfl ?_); refine zC 11 Try.func122 #[.slice A0 l0.length c0, .slice Ao9 t260.length co9] ?_; (with_reducible refine (dioramaref02_Compare.calls k _ _ l0 _ _ t260 t263 _ ?side1 ?side2 ?side3 ?side4 A4.out).mono ?_); (case side1 => exact cz HR0); (case side2 => exact HC0.out); (case side3 => exact cr HO262); (case side4 => exact (Kd.R_reads' HO262.out).2.1); rintro e w' ⟨rfl, ⟨nd, rfl⟩⟩; refine ⟨_, rfl, ?_⟩))
  go_loopg [6, 7] k (fun kq v6 v7 w' => ∃ (x6_1 : Int) (x7_1 : Int), v6 = .int .i64 x6_1 ∧ v7 = .int .i64 x7_1 ∧ Aside0 (dioramaref02_Small.l0 kq l0 x6_1 x7_1 = some (r1, r2)) ∧ Aside0 (kq ≤ k) ∧ Aside0 (Below w.heap.size w w'))
  case atStart => exact ⟨(0), (wrap64 ((l0.length : Int) - 1)), jz, jz, H', ⟨Nat.le_refl _⟩, ⟨bz⟩⟩
  case round =>
   clear H'
   try clear c1
   try clear p2
   try clear c5
   try clear c5b0
   try clear p6
   try clear c7
   obtain ⟨x6_1, x7_1, rfl, rfl, HA, HK1, HB⟩ := hrel
   cases gk with
   | zero => exact absurd HA.out (by simp [dioramaref02_Small.l0])
   | succ k1 =>
    have H := HA.out; clear HA; simp only [dioramaref02_Small.l0] at H
    by_cases c10 : x7_1 ≥ 0
    ·rw [if_pos c10] at H; have c10b0 : decide (0 ≤ x7_1) = true := decide_eq_true c10; clear c10
     by_cases c11 : 0 ≤ x7_1
     ·rw [if_pos c11] at H; have c11b0 : decide (0 ≤ x7_1) = true := decide_eq_true c11; clear c11
      by_cases c12 : x7_1 < (l0.length : Int)
      ·rw [if_pos c12] at H; have c12b0 : decide (x7_1 < (l0.length : Int)) = true := decide_eq_true c12; clear c12; have H' := Aside0.mk H; clear H; have p264 : 0 ≤ (x7_1 : Int) := od; have q264 : x7_1 < (l0.length : Int) := od; obtain ⟨ad264, e264, hx264_0⟩ := Kd.at_int HR0.out x7_1 p264 q264
       cases e264
       replace hx264_0 := cl HB hx264_0; replace p264 := eq_true p264; replace q264 := eq_true q264
       go_wp2
       go_roundg k1
       case measure => have := HK1.out; omega
       case rel => exact ⟨(wrap64 ((wrap64 (x6_1 * 1000000000)) + (rd l0 x7_1))), (wrap64 (x7_1 - 1)), jz, jz, H', ⟨by have := HK1.out; omega⟩, ⟨bz⟩⟩
      ·rw [if_neg c12] at H
       exact absurd H (by simp)
     ·rw [if_neg c11] at H
      exact absurd H (by simp)
    ·rw [if_neg c10] at H; have c10b0 : decide (0 ≤ x7_1) = false := decide_eq_false c10; clear c10; simp only [Option.some.injEq, Prod.mk.injEq] at H; obtain ⟨rfl, rfl⟩ := H
     go_wp2
     go_ret2
     exact ⟨ez, bz⟩
def dioramaref10_times.f (k : Nat) (a0_0 : Bool) (l0_1 : List Int) (l0_2 : List Int) (a1_0 : Bool) (l1_1 : List Int) (l1_2 : List Int) : Option (Bool × List Int × List Int) := (dioramaref02_Times.f k l0_1 l1_1).bind fun t270 => ((dioramaref02_Times.f k l0_2 l1_2).bind fun t273 => (some ((a0_0 != a1_0), t270, t273)))
set_option maxHeartbeats 8000000 in
set_option maxRecDepth 100000 in
theorem dioramaref10_times.calls (k : Nat) (a0_0 : Bool) (A0_1 : Option Addr) (c0_1 : Nat) (l0_1 : List Int) (A0_2 : Option Addr) (c0_2 : Nat) (l0_2 : List Int) (a1_0 : Bool) (A1_1 : Option Addr) (c1_1 : Nat) (l1_1 : List Int) (A1_2 : Option Addr) (c1_2 : Nat) (l1_2 : List Int) (r1 : Bool) (r2 : List Int) (r3 : List Int) (w : World) (hr0_1 : Kd.C (Kd.int .i64) w A0_1 l0_1.length l0_1) (hc0_1 : l0_1.length ≤ c0_1) (hr0_2 : Kd.C (Kd.int .i64) w A0_2 l0_2.length l0_2) (hc0_2 : l0_2.length ≤ c0_2) (hr1_1 : Kd.C (Kd.int .i64) w A1_1 l1_1.length l1_1) (hc1_1 : l1_1.length ≤ c1_1) (hr1_2 : Kd.C (Kd.int .i64) w A1_2 l1_2.length l1_2) (hc1_2 : l1_2.length ≤ c1_2) (h : dioramaref10_times.f k a0_0 l0_1 l0_2 a1_0 l1_1 l1_2 = some (r1, r2, r3)) :
  Calls Try.prog 73 #[.agg #[.bool a0_0, .slice A0_1 l0_1.length c0_1, .slice A0_2 l0_2.length c0_2], .agg #[.bool a1_0, .slice A1_1 l1_1.length c1_1, .slice A1_2 l1_2.length c1_2]] w fun e w' => ∃ v1_ v2_ : Value, e = .returned (.agg #[.bool r1, v1_, v2_]) ∧ Kd.R (Kd.int .i64) 3 w' w.heap.size (fun k_ => some k_ ≠ (v2_ : Value).ownBlock) v1_ r2 ∧ Kd.R (Kd.int .i64) 3 w' w.heap.size (fun k_ => some k_ ≠ (v1_ : Value).ownBlock) v2_ r3 ∧ Below w.heap.size w w' := by
 have hu95 := Try.underlying95; have HR0_1 := Aside0.mk hr0_1; have HC0_1 := Aside0.mk hc0_1; clear hr0_1 hc0_1; have HR0_2 := Aside0.mk hr0_2; have HC0_2 := Aside0.mk hc0_2; clear hr0_2 hc0_2; have HR1_1 := Aside0.mk hr1_1; have HC1_1 := Aside0.mk hc1_1; clear hr1_1 hc1_1; have HR1_2 := Aside0.mk hr1_2; have HC1_2 := Aside0.mk hc1_2; clear hr1_2 hc1_2; have HB := Aside0.mk (Below.refl w.heap.size w); have H : ((dioramaref02_Times.f k l0_1 l1_1).bind fun t270 => ((dioramaref02_Times.f k l0_2 l1_2).bind fun t273 => (some ((a0_0 != a1_0), t270, t273)))) = some (r1, r2, r3) := h
 clear h; obtain ⟨t270, A3, H⟩ := ob H; obtain ⟨t273, A4, H⟩ := ob H; simp only [Option.some.injEq, Prod.mk.injEq] at H; obtain ⟨rfl, rfl, rfl⟩ := H
 go_enter Try.func73, Try.ntmps73
 try go_wp2_with (first | ((with_reducible refine gate_dst (N := 2) rfl ?_); refine zB 2 95 #[.bool a0_0, .slice A0_1 l0_1.length c0_1, .slice A0_2 l0_2.length c0_2] ?_; intro gb267 hg w5 hbox hb; have BK267 := Aside0.mk hbox; have GW267 := gz hg; have GE267 := gz hg; replace HB := bp hb; clear hb hbox hg) | ((with_reducible refine gate_dst (N := 3) rfl ?_); refine zB 3 95 #[.bool a1_0, .slice A1_1 l1_1.length c1_1, .slice A1_2 l1_2.length c1_2] ?_; intro gb268 hg w6 hbox hb; have BK268 := Aside0.mk hbox; have GW268 := gz hg; have GE268 := gz hg; replace HB := bp hb; have NB267_268 := Aside0.mk ((by rw [hg]; exact Nat.ne_of_lt (bl BK267) : gb267 ≠ gb268)); have NB268_267 := Aside0.mk ((by rw [hg]; exact Nat.ne_of_gt (bl BK267) : gb268 ≠ gb267)); replace BK267 := kb BK267 hb; clear hb hbox hg) | ((with_reducible refine gate_dst (N := 4) rfl ?_); refine zB 4 95 #[.bool false, .slice none 0 0, .slice none 0 0] ?_; intro gb269 hg w7 hbox hb; have BK269 := Aside0.mk hbox; have GW269 := gz hg; have GE269 := gz hg; replace HB := bp hb; have NB267_269 := Aside0.mk ((by rw [hg]; exact Nat.ne_of_lt (bl BK267) : gb267 ≠ gb269)); have NB269_267 := Aside0.mk ((by rw [hg]; exact Nat.ne_of_gt (bl BK267) : gb269 ≠ gb267)); replace BK267 := kb BK267 hb; have NB268_269 := Aside0.mk ((by rw [hg]; exact Nat.ne_of_lt (bl BK268) : gb268 ≠ gb269)); have NB269_268 := Aside0.mk ((by rw [hg]; exact Nat.ne_of_gt (bl BK268) : gb269 ≠ gb268)); replace BK268 := kb BK268 hb; clear hb hbox hg))
 replace BK267 := Aside0.mk (blk_drew BK267.out); replace BK268 := Aside0.mk (blk_drew BK268.out); replace BK269 := Aside0.mk (blk_drew BK269.out); replace HB := Aside0.mk (below_drew1 HB.out); refine start_ (n := 17) (S := fun w' => w'.cell? ⟨gb267, 0, none⟩ = some (.bool a0_0) ∧ w'.cell? ⟨gb267, 1, none⟩ = some (.slice A0_1 l0_1.length c0_1) ∧ w'.cell? ⟨gb267, 2, none⟩ = some (.slice A0_2 l0_2.length c0_2) ∧ w'.cell? ⟨gb268, 0, none⟩ = some (.bool a1_0) ∧ w'.cell? ⟨gb268, 1, none⟩ = some (.slice A1_1 l1_1.length c1_1) ∧ w'.cell? ⟨gb268, 2, none⟩ = some (.slice A1_2 l1_2.length c1_2)) (ds := []) (bs 17 0) (by kernel_rfl) rfl rfl ⟨ct BK267 0, ct BK267 1, ct BK267 2, ct BK268 0, ct BK268 1, ct BK268 2⟩ (fun hHeld => ?_)
 generalize w7.drew = w8 at BK267 BK268 BK269 HB hHeld ⊢; refine zP 0 5 17 1 ?_; refine zP 2 7 17 5 ?_; refine zP 5 10 17 37 ?_; refine zP 7 12 17 165 ?_; refine zP 10 15 17 1189 ?_; refine zP 12 17 17 5285 ?_; refine zT 1 6 17 5287 hHeld ?_; refine zT 3 8 17 5295 hHeld ?_; refine zP 4 9 17 5311 ?_; refine zT 6 11 17 5375 hHeld ?_; refine zT 8 13 17 5631 hHeld ?_; refine zT 11 16 17 7679 hHeld ?_; refine zT 13 18 17 15871 hHeld ?_; refine zN 9 (some 14) 17 16383 (fun K hK => ?_); refine zG Try.func124 #[.slice A0_1 l0_1.length c0_1, .slice A1_1 l1_1.length c1_1] ?_
 with_reducible refine (dioramaref02_Times.calls k _ _ l0_1 _ _ l1_1 t270 _ ?side1 ?side2 ?side3 ?side4 A3.out).mono ?_
 (case side1 => exact cz HR0_1)
 (case side2 => exact HC0_1.out)
 (case side3 => exact cz HR1_1)
 (case side4 => exact HC1_1.out)
 rintro e w9 ⟨v271, rfl, ho0, hb⟩; refine ⟨_, rfl, ?_⟩; have HO272 := Aside0.mk (Kd.R_lower ho0 sz); replace BK267 := kb BK267 hb; replace BK268 := kb BK268 hb; replace BK269 := kb BK269 hb; replace HB := bp hb; clear hb ho0; refine hK.out _ _ ⟨ct BK267 0, ct BK267 1, ct BK267 2, ct BK268 0, ct BK268 1, ct BK268 2⟩ (fun hHeld => ?_); clear hK K; refine zM 14 ?_; refine zN 14 (some 19) 17 32767 (fun K hK => ?_); refine zG Try.func124 #[.slice A0_2 l0_2.length c0_2, .slice A1_2 l1_2.length c1_2] ?_
 with_reducible refine (dioramaref02_Times.calls k _ _ l0_2 _ _ l1_2 t273 _ ?side1 ?side2 ?side3 ?side4 A4.out).mono ?_
 (case side1 => exact cz HR0_2)
 (case side2 => exact HC0_2.out)
 (case side3 => exact cz HR1_2)
 (case side4 => exact HC1_2.out)
 rintro e w10 ⟨v274, rfl, ho0, hb⟩; refine ⟨_, rfl, ?_⟩; have HO275 := Aside0.mk (Kd.R_lower (Kd.R_new' ho0 (Kd.R_lt (rz HO272))) sz); replace HO272 := Aside0.mk (Kd.R_elder' (rz HO272) (Kd.R_base ho0) hb); replace BK267 := kb BK267 hb; replace BK268 := kb BK268 hb; replace BK269 := kb BK269 hb; replace HB := bp hb; clear hb ho0; obtain ⟨Ao11, co11, eo11⟩ := Kd.R_slice HO275.out
 (first | subst eo11 | (injection eo11 with f1_ f2_ f3_; have f4_ := f1_.symm; have f5_ := f3_.symm; clear f1_ f2_ f3_; subst f4_; subst f5_))
 obtain ⟨Ao12, co12, eo12⟩ := Kd.R_slice HO272.out
 (first | subst eo12 | (injection eo12 with f1_ f2_ f3_; have f4_ := f1_.symm; have f5_ := f3_.symm; clear f1_ f2_ f3_; subst f4_; subst f5_))
 refine hK.out _ _ ⟨ct BK267 0, ct BK267 1, ct BK267 2, ct BK268 0, ct BK268 1, ct BK268 2⟩ (fun hHeld => ?_); clear hK K; refine zM 19 ?_; refine zP 15 20 17 65535 ?_; refine zN 16 none 17 131071 (fun K hK => ?_); have hs13 : w10.cell? ⟨gb269, 0, none⟩ = some (.bool false) := ct BK269 0; have hfs13 := blk_frozen BK269.out 0; have hns13_0 := NB267_269.out; have hns13_1 := NB268_269.out; have hms13_0 := NB269_267.out; have hms13_1 := NB269_268.out; have hs14 : w10.cell? ⟨gb269, 1, none⟩ = some (.slice none 0 0) := ct BK269 1; have hfs14 := blk_frozen BK269.out 1; have hns14_0 := NB267_269.out; have hns14_1 := NB268_269.out; have hms14_0 := NB269_267.out; have hms14_1 := NB269_268.out; have hs15 : w10.cell? ⟨gb269, 2, none⟩ = some (.slice none 0 0) := ct BK269 2; have hfs15 := blk_frozen BK269.out 2; have hns15_0 := NB267_269.out; have hns15_1 := NB268_269.out; have hms15_0 := NB269_267.out; have hms15_1 := NB269_268.out; refine skip_ (w1 := ?_) (by rfl) rfl ?_ ?_
 rotate_left
 ·go_simp
  rfl
 refine hK.out _ _ ⟨((cell_far (p := ⟨gb269, _, none⟩) NB267_269.out _).trans (((cell_far (p := ⟨gb269, _, none⟩) NB267_269.out _).trans (((cell_far (p := ⟨gb269, _, none⟩) NB267_269.out _).trans (hHeld.1)))))), ((cell_far (p := ⟨gb269, _, none⟩) NB267_269.out _).trans (((cell_far (p := ⟨gb269, _, none⟩) NB267_269.out _).trans (((cell_far (p := ⟨gb269, _, none⟩) NB267_269.out _).trans (hHeld.2.1)))))), ((cell_far (p := ⟨gb269, _, none⟩) NB267_269.out _).trans (((cell_far (p := ⟨gb269, _, none⟩) NB267_269.out _).trans (((cell_far (p := ⟨gb269, _, none⟩) NB267_269.out _).trans (hHeld.2.2.1)))))), ((cell_far (p := ⟨gb269, _, none⟩) NB268_269.out _).trans (((cell_far (p := ⟨gb269, _, none⟩) NB268_269.out _).trans (((cell_far (p := ⟨gb269, _, none⟩) NB268_269.out _).trans (hHeld.2.2.2.1)))))), ((cell_far (p := ⟨gb269, _, none⟩) NB268_269.out _).trans (((cell_far (p := ⟨gb269, _, none⟩) NB268_269.out _).trans (((cell_far (p := ⟨gb269, _, none⟩) NB268_269.out _).trans (hHeld.2.2.2.2.1)))))), ((cell_far (p := ⟨gb269, _, none⟩) NB268_269.out _).trans (((cell_far (p := ⟨gb269, _, none⟩) NB268_269.out _).trans (((cell_far (p := ⟨gb269, _, none⟩) NB268_269.out _).trans (hHeld.2.2.2.2.2))))))⟩ (fun hHeld => ?_); clear hK K; refine done_ (by kernel_rfl) ?_
 try go_wp2
 refine bodyPost_ret (results_cell_row rfl _ _ gb269 95 #[.bool (a0_0 != a1_0), .slice Ao12 t270.length co12, .slice Ao11 t273.length co11] (0, 0) _ rfl (by (with_reducible repeat (first | refine blk_drewN ?_ _ | refine blk_drew ?_ | refine blk_alloc ?_ _)); refine blk_put (cs := #[.bool (a0_0 != a1_0), .slice Ao12 t270.length co12, .slice none 0 0]) ?_ 2 _ rfl; (with_reducible repeat (first | refine blk_drewN ?_ _ | refine blk_drew ?_ | refine blk_alloc ?_ _)); refine blk_put (cs := #[.bool (a0_0 != a1_0), .slice none 0 0, .slice none 0 0]) ?_ 1 _ rfl; (with_reducible repeat (first | refine blk_drewN ?_ _ | refine blk_drew ?_ | refine blk_alloc ?_ _)); refine blk_put (cs := #[.bool false, .slice none 0 0, .slice none 0 0]) ?_ 0 _ rfl; (with_reducible repeat (first | refine blk_drewN ?_ _ | refine blk_drew ?_ | refine blk_alloc ?_ _)); exact BK269.out) Try.underlying95 rfl (by kernel_rfl)) rfl ?_
 exact ⟨_, _, ez, by (with_reducible repeat (first | apply Kd.R_alloc | apply Kd.R_drewN | apply Kd.R_drew)); exact Kd.R_mono (Kd.R_far (p := ⟨gb269, 2, none⟩) (Kd.R_far (p := ⟨gb269, 1, none⟩) (Kd.R_far (p := ⟨gb269, 0, none⟩) (Kd.R_types HO272.out BK269.out (by decide)) (fun _ hk => hk.2) (.bool (a0_0 != a1_0))) (fun _ hk => hk.2) (.slice Ao12 t270.length co12)) (fun _ hk => hk.2) (.slice Ao11 t273.length co11)) (fun _ hk => hk.1.2), by (with_reducible repeat (first | apply Kd.R_alloc | apply Kd.R_drewN | apply Kd.R_drew)); exact Kd.R_mono (Kd.R_far (p := ⟨gb269, 2, none⟩) (Kd.R_far (p := ⟨gb269, 1, none⟩) (Kd.R_far (p := ⟨gb269, 0, none⟩) (Kd.R_types HO275.out BK269.out (by decide)) (fun _ hk => hk.2) (.bool (a0_0 != a1_0))) (fun _ hk => hk.2) (.slice Ao12 t270.length co12)) (fun _ hk => hk.2) (.slice Ao11 t273.length co11)) (fun _ hk => hk.1.2), bz⟩
end Go.Proofs.Ytpbhepdgamoiaaa.E

/-
  Printed walks.
-/
import Derived.Test.YtknklchmpohjfaaQRModelCloseda
namespace Go.Proofs.Ytknklchmpohjfaa.E
open Go.Proofs.Ytknklchmpohjfaa.Z Go.RowKit Go.Proofs.YtknklchmpohjfaaW.PrintWords Go.Proofs.YtknklchmpohjfaaW.PrintLast Go.Proofs.YtknklchmpohjfaaW.PrintMore
attribute [local go_sem] max2_int min2_int max_two min_two max_three min_three max_four min_four
set_option linter.unusedVariables false
set_option linter.unusedSimpArgs false
mutual
def dioramaref03_edits.l0 : Nat → List (S86) → Int → Int → Option (Bool)
  | 0, _, _, _ => none
  | k + 1, x0, x3, x4 => if x4 < (x0.length : Int) then (if 0 ≤ x4 then ((dioramaref03_in.f ((rd_T86 x0 x4).f0) 1 1099511627776).bind fun t126 => (if t126 = true then ((dioramaref03_in.f ((rd_T86 x0 x4).f1) (-1) 1099511627776).bind fun t127 => (if t127 = true then ((dioramaref03_in.f ((rd_T86 x0 x4).f2) 0 1000).bind fun t128 => (if t128 = true then ((dioramaref03_in.f ((rd_T86 x0 x4).f3) 1 1000).bind fun t129 => (dioramaref03_edits.j1 k x0 x3 x4 (!t129) ((rd_T86 x0 x4).f0) ((rd_T86 x0 x4).f1) ((rd_T86 x0 x4).f2) ((rd_T86 x0 x4).f3))) else (dioramaref03_edits.j1 k x0 x3 x4 true ((rd_T86 x0 x4).f0) ((rd_T86 x0 x4).f1) ((rd_T86 x0 x4).f2) ((rd_T86 x0 x4).f3)))) else (dioramaref03_edits.j1 k x0 x3 x4 true ((rd_T86 x0 x4).f0) ((rd_T86 x0 x4).f1) ((rd_T86 x0 x4).f2) ((rd_T86 x0 x4).f3)))) else (dioramaref03_edits.j1 k x0 x3 x4 true ((rd_T86 x0 x4).f0) ((rd_T86 x0 x4).f1) ((rd_T86 x0 x4).f2) ((rd_T86 x0 x4).f3)))) else (none)) else (some (decide (x3 ≤ 1099511627776)))
def dioramaref03_edits.j1 : Nat → List (S86) → Int → Int → Bool → Int → Int → Int → Int → Option (Bool)
  | 0, _, _, _, _, _, _, _, _ => none
  | k + 1, x0, x3, x4, x37, x126000, x126001, x126002, x126003 => if x37 = true then (some false) else (if x126001 = (-1) then (if x126002 = 1 then (if x126003 = 1 then (dioramaref03_edits.l0 k x0 (wrap64 (x3 + x126000)) (wrap64 (x4 + 1))) else (some false)) else (some false)) else (dioramaref03_edits.l0 k x0 (wrap64 (x3 + x126000)) (wrap64 (x4 + 1))))
end
def dioramaref03_edits.f (k : Nat) (l0 : List (S86)) : Option (Bool) := dioramaref03_edits.l0 k l0 0 0
set_option maxHeartbeats 8000000 in
set_option maxRecDepth 100000 in
theorem dioramaref03_edits.calls (k : Nat) (A0 : Option Addr) (c0 : Nat) (l0 : List (S86)) (r : Bool) (w : World) (hr0 : Kd.C k86 w A0 l0.length l0) (hc0 : l0.length ≤ c0) (h : dioramaref03_edits.f k l0 = some r) :
  Calls Try.prog 47 #[.slice A0 l0.length c0] w fun e w' => e = .returned (.bool r) ∧ Below w.heap.size w w' := by
 have hu86 := Try.underlying86; have HR0 := Aside0.mk hr0; have HC0 := Aside0.mk hc0; clear hr0 hc0; have HB := Aside0.mk (Below.refl w.heap.size w); have H : (dioramaref03_edits.l0 k l0 0 0) = some r := h; clear h; have H' := Aside0.mk H; clear H
 go_enter Try.func47, Try.ntmps47
 go_wp2
 go_loopg [3, 4] k (fun kq v3 v4 w' => ∃ (x3_1 : Int) (x4_1 : Int), v3 = .int .i64 x3_1 ∧ v4 = .int .i64 x4_1 ∧ Aside0 (dioramaref03_edits.l0 kq l0 x3_1 x4_1 = some r) ∧ Aside0 (kq ≤ k) ∧ Aside0 (Below w.heap.size w w'))
 case atStart => exact ⟨(0), (0), jz, jz, H', ⟨Nat.le_refl _⟩, ⟨bz⟩⟩
 case round =>
  clear H'; obtain ⟨x3_1, x4_1, rfl, rfl, HA, HK1, HB⟩ := hrel
  cases gk with
  | zero => exact absurd HA.out (by simp [dioramaref03_edits.l0])
  | succ k1 =>
   have H := HA.out; clear HA; simp only [dioramaref03_edits.l0] at H
   by_cases c2 : x4_1 < (l0.length : Int)
   ·rw [if_pos c2] at H; have c2b0 : decide (x4_1 < (l0.length : Int)) = true := decide_eq_true c2; clear c2
    by_cases c3 : 0 ≤ x4_1
    ·rw [if_pos c3] at H; have c3b0 : decide (0 ≤ x4_1) = true := decide_eq_true c3; clear c3; have HC4 := Aside0.mk H; clear H; have p124 : 0 ≤ (x4_1 : Int) := od; have q124 : x4_1 < (l0.length : Int) := od; obtain ⟨ad124, e124, hx124_0, hx124_1, hx124_2, hx124_3⟩ := at_T86 HR0.out x4_1 p124 q124
     cases e124
     replace hx124_0 := cl HB hx124_0; replace hx124_1 := cl HB hx124_1; replace hx124_2 := cl HB hx124_2; replace hx124_3 := cl HB hx124_3; replace p124 := eq_true p124; replace q124 := eq_true q124
     go_upto_region 6 with (first | ((with_reducible refine gate_dst (N := 5) rfl ?_); refine zB 5 86 #[.int .i64 0, .int .i64 0, .int .i64 0, .int .i64 0] ?_; intro gb125 hg w5 hbox hb; have BK125 := Aside0.mk hbox; have GW125 := gz hg; have GE125 := gz hg; replace HB := bp hb; clear hb hbox hg; obtain ⟨hcz6_0, hcz6_1, hcz6_2, hcz6_3, hfz6_0, hfz6_1, hfz6_2, hfz6_3⟩ := xc4 BK125))
     (try simp only [Act.put, List.setIfInBounds_toArray, List.set_cons_zero, List.set_cons_succ])
     go_cut [37] (fun v37 wc => ∃ (kq : Nat) (x37_3 : Bool), v37 = .bool x37_3 ∧ Aside0 (dioramaref03_edits.j1 kq l0 x3_1 x4_1 x37_3 ((rd_T86 l0 x4_1).f0) ((rd_T86 l0 x4_1).f1) ((rd_T86 l0 x4_1).f2) ((rd_T86 l0 x4_1).f3) = some r) ∧ Aside0 (kq ≤ k1) ∧ Aside0 (wc.heap[gb125]? = some (.cells #[.int .i64 ((rd_T86 l0 x4_1).f0), .int .i64 ((rd_T86 l0 x4_1).f1), .int .i64 ((rd_T86 l0 x4_1).f2), .int .i64 ((rd_T86 l0 x4_1).f3)] 86 (0, 0))) ∧ Aside0 (Below w.heap.size w wc))
     case first =>
      have H := HC4.out; clear HC4; obtain ⟨t126, A7, H⟩ := ob H
      by_cases c8 : t126 = true
      ·subst c8; rw [if_pos rfl] at H; obtain ⟨t127, A9, H⟩ := ob H
       by_cases c10 : t127 = true
       ·subst c10; rw [if_pos rfl] at H; obtain ⟨t128, A11, H⟩ := ob H
        by_cases c12 : t128 = true
        ·subst c12; rw [if_pos rfl] at H; obtain ⟨t129, A13, H⟩ := ob H; have H' := Aside0.mk H; clear H; obtain ⟨hcz14_0, hcz14_1, hcz14_2, hcz14_3, hfz14_0, hfz14_1, hfz14_2, hfz14_3⟩ := xc4 BK125
         go_wp2_with (first | ((with_reducible refine gate_callee (f := 34) rfl ?_); refine zC 18 Try.func34 #[.int .i64 ((rd_T86 l0 x4_1).f0), .int .i64 1, .int .i64 1099511627776] ?_; (with_reducible refine (dioramaref03_in.calls ((rd_T86 l0 x4_1).f0) 1 1099511627776 true _ A7.out).mono ?_); rintro e w' ⟨rfl, ⟨nd, rfl⟩⟩; refine ⟨_, rfl, ?_⟩) | (go_at_call 34; (with_reducible refine (dioramaref03_in.calls ((rd_T86 l0 x4_1).f1) (-1) 1099511627776 true _ A9.out).mono ?_); rintro e w' ⟨rfl, ⟨nd, rfl⟩⟩) | (go_at_call 34; (with_reducible refine (dioramaref03_in.calls ((rd_T86 l0 x4_1).f2) 0 1000 true _ A11.out).mono ?_); rintro e w' ⟨rfl, ⟨nd, rfl⟩⟩) | (go_at_call 34; (with_reducible refine (dioramaref03_in.calls ((rd_T86 l0 x4_1).f3) 1 1000 t129 _ A13.out).mono ?_); rintro e w' ⟨rfl, ⟨nd, rfl⟩⟩))
         go_meet
         case rel => exact ⟨_, (!t129), jz, H', ⟨by have := HK1.out; first | omega | exact Nat.le_refl _⟩, ⟨by (with_reducible repeat (first | refine blk_drewN ?_ _ | refine blk_drew ?_ | refine blk_alloc ?_ _)); refine blk_put (cs := #[.int .i64 ((rd_T86 l0 x4_1).f0), .int .i64 ((rd_T86 l0 x4_1).f1), .int .i64 ((rd_T86 l0 x4_1).f2), .int .i64 0]) ?_ 3 _ rfl; (with_reducible repeat (first | refine blk_drewN ?_ _ | refine blk_drew ?_ | refine blk_alloc ?_ _)); refine blk_put (cs := #[.int .i64 ((rd_T86 l0 x4_1).f0), .int .i64 ((rd_T86 l0 x4_1).f1), .int .i64 0, .int .i64 0]) ?_ 2 _ rfl; (with_reducible repeat (first | refine blk_drewN ?_ _ | refine blk_drew ?_ | refine blk_alloc ?_ _)); refine blk_put (cs := #[.int .i64 ((rd_T86 l0 x4_1).f0), .int .i64 0, .int .i64 0, .int .i64 0]) ?_ 1 _ rfl; (with_reducible repeat (first | refine blk_drewN ?_ _ | refine blk_drew ?_ | refine blk_alloc ?_ _)); refine blk_put (cs := #[.int .i64 0, .int .i64 0, .int .i64 0, .int .i64 0]) ?_ 0 _ rfl; (with_reducible repeat (first | refine blk_drewN ?_ _ | refine blk_drew ?_ | refine blk_alloc ?_ _)); exact BK125.out⟩, ⟨bz⟩⟩
        ·obtain rfl := bf c12; rw [if_neg (show ¬ (false = true) by decide)] at H; have H' := Aside0.mk H; clear H; obtain ⟨hcz15_0, hcz15_1, hcz15_2, hcz15_3, hfz15_0, hfz15_1, hfz15_2, hfz15_3⟩ := xc4 BK125
         go_wp2_with (first | ((with_reducible refine gate_callee (f := 34) rfl ?_); refine zC 18 Try.func34 #[.int .i64 ((rd_T86 l0 x4_1).f0), .int .i64 1, .int .i64 1099511627776] ?_; (with_reducible refine (dioramaref03_in.calls ((rd_T86 l0 x4_1).f0) 1 1099511627776 true _ A7.out).mono ?_); rintro e w' ⟨rfl, ⟨nd, rfl⟩⟩; refine ⟨_, rfl, ?_⟩) | (go_at_call 34; (with_reducible refine (dioramaref03_in.calls ((rd_T86 l0 x4_1).f1) (-1) 1099511627776 true _ A9.out).mono ?_); rintro e w' ⟨rfl, ⟨nd, rfl⟩⟩) | (go_at_call 34; (with_reducible refine (dioramaref03_in.calls ((rd_T86 l0 x4_1).f2) 0 1000 false _ A11.out).mono ?_); rintro e w' ⟨rfl, ⟨nd, rfl⟩⟩))
         go_meet
         case rel => exact ⟨_, (true), jz, H', ⟨by have := HK1.out; first | omega | exact Nat.le_refl _⟩, ⟨by (with_reducible repeat (first | refine blk_drewN ?_ _ | refine blk_drew ?_ | refine blk_alloc ?_ _)); refine blk_put (cs := #[.int .i64 ((rd_T86 l0 x4_1).f0), .int .i64 ((rd_T86 l0 x4_1).f1), .int .i64 ((rd_T86 l0 x4_1).f2), .int .i64 0]) ?_ 3 _ rfl; (with_reducible repeat (first | refine blk_drewN ?_ _ | refine blk_drew ?_ | refine blk_alloc ?_ _)); refine blk_put (cs := #[.int .i64 ((rd_T86 l0 x4_1).f0), .int .i64 ((rd_T86 l0 x4_1).f1), .int .i64 0, .int .i64 0]) ?_ 2 _ rfl; (with_reducible repeat (first | refine blk_drewN ?_ _ | refine blk_drew ?_ | refine blk_alloc ?_ _)); refine blk_put (cs := #[.int .i64 ((rd_T86 l0 x4_1).f0), .int .i64 0, .int .i64 0, .int .i64 0]) ?_ 1 _ rfl; (with_reducible repeat (first | refine blk_drewN ?_ _ | refine blk_drew ?_ | refine blk_alloc ?_ _)); refine blk_put (cs := #[.int .i64 0, .int .i64 0, .int .i64 0, .int .i64 0]) ?_ 0 _ rfl; (with_reducible repeat (first | refine blk_drewN ?_ _ | refine blk_drew ?_ | refine blk_alloc ?_ _)); exact BK125.out⟩, ⟨bz⟩⟩
       ·obtain rfl := bf c10; rw [if_neg (show ¬ (false = true) by decide)] at H; have H' := Aside0.mk H; clear H; obtain ⟨hcz16_0, hcz16_1, hcz16_2, hcz16_3, hfz16_0, hfz16_1, hfz16_2, hfz16_3⟩ := xc4 BK125
        go_wp2_with (first | ((with_reducible refine gate_callee (f := 34) rfl ?_); refine zC 18 Try.func34 #[.int .i64 ((rd_T86 l0 x4_1).f0), .int .i64 1, .int .i64 1099511627776] ?_; (with_reducible refine (dioramaref03_in.calls ((rd_T86 l0 x4_1).f0) 1 1099511627776 true _ A7.out).mono ?_); rintro e w' ⟨rfl, ⟨nd, rfl⟩⟩; refine ⟨_, rfl, ?_⟩) | (go_at_call 34; (with_reducible refine (dioramaref03_in.calls ((rd_T86 l0 x4_1).f1) (-1) 1099511627776 false _ A9.out).mono ?_); rintro e w' ⟨rfl, ⟨nd, rfl⟩⟩))
        go_meet
        case rel => exact ⟨_, (true), jz, H', ⟨by have := HK1.out; first | omega | exact Nat.le_refl _⟩, ⟨by (with_reducible repeat (first | refine blk_drewN ?_ _ | refine blk_drew ?_ | refine blk_alloc ?_ _)); refine blk_put (cs := #[.int .i64 ((rd_T86 l0 x4_1).f0), .int .i64 ((rd_T86 l0 x4_1).f1), .int .i64 ((rd_T86 l0 x4_1).f2), .int .i64 0]) ?_ 3 _ rfl; (with_reducible repeat (first | refine blk_drewN ?_ _ | refine blk_drew ?_ | refine blk_alloc ?_ _)); refine blk_put (cs := #[.int .i64 ((rd_T86 l0 x4_1).f0), .int .i64 ((rd_T86 l0 x4_1).f1), .int .i64 0, .int .i64 0]) ?_ 2 _ rfl; (with_reducible repeat (first | refine blk_drewN ?_ _ | refine blk_drew ?_ | refine blk_alloc ?_ _)); refine blk_put (cs := #[.int .i64 ((rd_T86 l0 x4_1).f0), .int .i64 0, .int .i64 0, .int .i64 0]) ?_ 1 _ rfl; (with_reducible repeat (first | refine blk_drewN ?_ _ | refine blk_drew ?_ | refine blk_alloc ?_ _)); refine blk_put (cs := #[.int .i64 0, .int .i64 0, .int .i64 0, .int .i64 0]) ?_ 0 _ rfl; (with_reducible repeat (first | refine blk_drewN ?_ _ | refine blk_drew ?_ | refine blk_alloc ?_ _)); exact BK125.out⟩, ⟨bz⟩⟩
      ·obtain rfl := bf c8; rw [if_neg (show ¬ (false = true) by decide)] at H; have H' := Aside0.mk H; clear H; obtain ⟨hcz17_0, hcz17_1, hcz17_2, hcz17_3, hfz17_0, hfz17_1, hfz17_2, hfz17_3⟩ := xc4 BK125
       go_wp2_with (first | ((with_reducible refine gate_callee (f := 34) rfl ?_); refine zC 18 Try.func34 #[.int .i64 ((rd_T86 l0 x4_1).f0), .int .i64 1, .int .i64 1099511627776] ?_; (with_reducible refine (dioramaref03_in.calls ((rd_T86 l0 x4_1).f0) 1 1099511627776 false _ A7.out).mono ?_); rintro e w' ⟨rfl, ⟨nd, rfl⟩⟩; refine ⟨_, rfl, ?_⟩))
       go_meet
       case rel => exact ⟨_, (true), jz, H', ⟨by have := HK1.out; first | omega | exact Nat.le_refl _⟩, ⟨by (with_reducible repeat (first | refine blk_drewN ?_ _ | refine blk_drew ?_ | refine blk_alloc ?_ _)); refine blk_put (cs := #[.int .i64 ((rd_T86 l0 x4_1).f0), .int .i64 ((rd_T86 l0 x4_1).f1), .int .i64 ((rd_T86 l0 x4_1).f2), .int .i64 0]) ?_ 3 _ rfl; (with_reducible repeat (first | refine blk_drewN ?_ _ | refine blk_drew ?_ | refine blk_alloc ?_ _)); refine blk_put (cs := #[.int .i64 ((rd_T86 l0 x4_1).f0), .int .i64 ((rd_T86 l0 x4_1).f1), .int .i64 0, .int .i64 0]) ?_ 2 _ rfl; (with_reducible repeat (first | refine blk_drewN ?_ _ | refine blk_drew ?_ | refine blk_alloc ?_ _)); refine blk_put (cs := #[.int .i64 ((rd_T86 l0 x4_1).f0), .int .i64 0, .int .i64 0, .int .i64 0]) ?_ 1 _ rfl; (with_reducible repeat (first | refine blk_drewN ?_ _ | refine blk_drew ?_ | refine blk_alloc ?_ _)); refine blk_put (cs := #[.int .i64 0, .int .i64 0, .int .i64 0, .int .i64 0]) ?_ 0 _ rfl; (with_reducible repeat (first | refine blk_drewN ?_ _ | refine blk_drew ?_ | refine blk_alloc ?_ _)); exact BK125.out⟩, ⟨bz⟩⟩
     case rest =>
      clear HC4
      try clear c1
      try clear p1
      try clear q1
      try clear hx1
      try clear c2
      try clear c2b0
      try clear p2
      try clear c3
      try clear c3b0
      try clear c4
      try clear c8
      try clear c10
      try clear c12
      try clear p12
      try clear q12
      try clear hx12
      try clear hcz14_0
      try clear hcz14_1
      try clear hcz14_2
      try clear hcz14_3
      try clear hcz15_0
      try clear hcz15_1
      try clear hcz15_2
      try clear hcz15_3
      try clear hcz16_0
      try clear hcz16_1
      try clear hcz16_2
      try clear hcz16_3
      try clear hcz17_0
      try clear hcz17_1
      try clear hcz17_2
      try clear hcz17_3
      try clear hcz6_0
      try clear hcz6_1
      try clear hcz6_2
      try clear hcz6_3
      try clear hfz14_0
      try clear hfz14_1
      try clear hfz14_2
      try clear hfz14_3
      try clear hfz15_0
      try clear hfz15_1
      try clear hfz15_2
      try clear hfz15_3
      try clear hfz16_0
      try clear hfz16_1
      try clear hfz16_2
      try clear hfz16_3
      try clear hfz17_0
      try clear hfz17_1
      try clear hfz17_2
      try clear hfz17_3
      try clear hfz6_0
      try clear hfz6_1
      try clear hfz6_2
      try clear hfz6_3
      try clear hx124_0
      try clear hx124_1
      try clear hx124_2
      try clear hx124_3
      try clear p124
      try clear q124
      obtain ⟨kq, x37_3, rfl, HA, HJ3, BK125, HB⟩ := hcut
      cases kq with
      | zero => exact absurd HA.out (by simp [dioramaref03_edits.j1])
      | succ kj3 =>
       have H := HA.out; clear HA; simp only [dioramaref03_edits.j1] at H
       by_cases c18 : x37_3 = true
       ·subst c18; rw [if_pos rfl] at H; obtain rfl := Option.some.inj H
        go_wp2
        go_ret
        exact ⟨ez, bz⟩
       ·obtain rfl := bf c18; rw [if_neg (show ¬ (false = true) by decide)] at H
        by_cases c19 : ((rd_T86 l0 x4_1).f1) = (-1)
        ·rw [if_pos c19] at H; have c19b0 : (((rd_T86 l0 x4_1).f1) == (-1)) = true := beq_iff_eq.mpr c19; have c19b1 : (((rd_T86 l0 x4_1).f1) != (-1)) = false := bne_eq_false_iff_eq.mpr c19; clear c19
         by_cases c20 : ((rd_T86 l0 x4_1).f2) = 1
         ·rw [if_pos c20] at H; have c20b0 : (((rd_T86 l0 x4_1).f2) == 1) = true := beq_iff_eq.mpr c20; have c20b1 : (((rd_T86 l0 x4_1).f2) != 1) = false := bne_eq_false_iff_eq.mpr c20; clear c20
          by_cases c21 : ((rd_T86 l0 x4_1).f3) = 1
          ·rw [if_pos c21] at H; have c21b0 : (((rd_T86 l0 x4_1).f3) == 1) = true := beq_iff_eq.mpr c21; have c21b1 : (((rd_T86 l0 x4_1).f3) != 1) = false := bne_eq_false_iff_eq.mpr c21; clear c21; have H' := Aside0.mk H; clear H; obtain ⟨hcz22_0, hcz22_1, hcz22_2, hcz22_3, hfz22_0, hfz22_1, hfz22_2, hfz22_3⟩ := xc4 BK125
           go_wp2
           go_roundg kj3
           case measure => have := HK1.out; have := HJ3.out; omega
           case rel => exact ⟨(wrap64 (x3_1 + ((rd_T86 l0 x4_1).f0))), (wrap64 (x4_1 + 1)), jz, jz, H', ⟨by have := HK1.out; have := HJ3.out; omega⟩, ⟨bz⟩⟩
          ·rw [if_neg c21] at H; have c21b0 : (((rd_T86 l0 x4_1).f3) == 1) = false := beq_eq_false_iff_ne.mpr c21; have c21b1 : (((rd_T86 l0 x4_1).f3) != 1) = true := bne_iff_ne.mpr c21; obtain rfl := Option.some.inj H; obtain ⟨hcz23_0, hcz23_1, hcz23_2, hcz23_3, hfz23_0, hfz23_1, hfz23_2, hfz23_3⟩ := xc4 BK125
           go_wp2
           go_ret
           exact ⟨ez, bz⟩
         ·rw [if_neg c20] at H; have c20b0 : (((rd_T86 l0 x4_1).f2) == 1) = false := beq_eq_false_iff_ne.mpr c20; have c20b1 : (((rd_T86 l0 x4_1).f2) != 1) = true := bne_iff_ne.mpr c20; obtain rfl := Option.some.inj H; obtain ⟨hcz24_0, hcz24_1, hcz24_2, hcz24_3, hfz24_0, hfz24_1, hfz24_2, hfz24_3⟩ := xc4 BK125
          go_wp2
          go_ret
          exact ⟨ez, bz⟩
        ·rw [if_neg c19] at H; have c19b0 : (((rd_T86 l0 x4_1).f1) == (-1)) = false := beq_eq_false_iff_ne.mpr c19; have c19b1 : (((rd_T86 l0 x4_1).f1) != (-1)) = true := bne_iff_ne.mpr c19; have H' := Aside0.mk H; clear H; obtain ⟨hcz25_0, hcz25_1, hcz25_2, hcz25_3, hfz25_0, hfz25_1, hfz25_2, hfz25_3⟩ := xc4 BK125
         go_wp2
         go_roundg kj3
         case measure => have := HK1.out; have := HJ3.out; omega
         case rel => exact ⟨(wrap64 (x3_1 + ((rd_T86 l0 x4_1).f0))), (wrap64 (x4_1 + 1)), jz, jz, H', ⟨by have := HK1.out; have := HJ3.out; omega⟩, ⟨bz⟩⟩
    ·rw [if_neg c3] at H
     exact absurd H (by simp)
   ·rw [if_neg c2] at H; have c2b0 : decide (x4_1 < (l0.length : Int)) = false := decide_eq_false c2; clear c2; obtain rfl := Option.some.inj H
    go_wp2
    go_ret
    exact ⟨ez, bz⟩
mutual
def dioramaref03_sample.j0 : Nat → Int → Int → Bool → Int → Int → Int → Bool → List Int → List Int → Option (Int)
  | 0, _, _, _, _, _, _, _, _, _ => none
  | k + 1, x1, x2, x23, x131000, x131001, x131002, x131003, x131004, x131005 => if x23 = true then (some 1) else (if (x131005.length : Int) > 65536 then (dioramaref03_sample.j1 k x1 x2 true x131000 x131001 x131002 x131003 x131004 x131005) else (dioramaref03_sample.j1 k x1 x2 (decide ((x131004.length : Int) > 4)) x131000 x131001 x131002 x131003 x131004 x131005))
def dioramaref03_sample.j1 : Nat → Int → Int → Bool → Int → Int → Int → Bool → List Int → List Int → Option (Int)
  | 0, _, _, _, _, _, _, _, _, _ => none
  | k + 1, x1, x2, x33, x131000, x131001, x131002, x131003, x131004, x131005 => if x33 = true then (some 2) else (if x1 > 0 then (dioramaref03_sample.j2 k x1 (decide (x131000 ≤ x2)) x131000 x131001 x131002 x131003 x131004 x131005) else (dioramaref03_sample.j2 k x1 false x131000 x131001 x131002 x131003 x131004 x131005))
def dioramaref03_sample.j2 : Nat → Int → Bool → Int → Int → Int → Bool → List Int → List Int → Option (Int)
  | 0, _, _, _, _, _, _, _, _ => none
  | k + 1, x1, x41, x131000, x131001, x131002, x131003, x131004, x131005 => if x41 = true then (some 31) else (dioramaref03_sample.l0 k x1 0 x131000 x131001 x131002 x131003 x131004 x131005)
def dioramaref03_sample.l0 : Nat → Int → Int → Int → Int → Int → Bool → List Int → List Int → Option (Int)
  | 0, _, _, _, _, _, _, _, _ => none
  | k + 1, x1, x7, x131000, x131001, x131002, x131003, x131004, x131005 => if x7 < (x131004.length : Int) then (if 0 ≤ x7 then (if (rd x131004 x7) < 0 then (some 32) else (if (rd x131004 x7) ≥ x1 then (some 32) else (if x7 > 0 then (if 0 ≤ (wrap64 (x7 - 1)) then (if (wrap64 (x7 - 1)) < (x131004.length : Int) then (if (rd x131004 x7) ≤ (rd x131004 (wrap64 (x7 - 1))) then (some 32) else (dioramaref03_sample.l0 k x1 (wrap64 (x7 + 1)) x131000 x131001 x131002 x131003 x131004 x131005)) else (none)) else (none)) else (dioramaref03_sample.l0 k x1 (wrap64 (x7 + 1)) x131000 x131001 x131002 x131003 x131004 x131005)))) else (none)) else (if x131003 = true then (if (x131004.length : Int) > 0 then (some 32) else (some 0)) else (some 0))
end
def dioramaref03_sample.f (k : Nat) (a0_0 : Int) (a0_1 : Int) (a0_2 : Int) (a0_3 : Bool) (l0_4 : List Int) (l0_5 : List Int) (a1 : Int) (a2 : Int) : Option (Int) := (dioramaref03_in.f a0_0 (-1099511627776) 1099511627776).bind fun t131 => (if t131 = true then ((dioramaref03_in.f a0_1 (-1099511627776) 1099511627776).bind fun t132 => (if t132 = true then ((dioramaref03_in.f a0_2 0 1099511627776).bind fun t133 => (dioramaref03_sample.j0 k a1 a2 (!t133) a0_0 a0_1 a0_2 a0_3 l0_4 l0_5)) else (dioramaref03_sample.j0 k a1 a2 true a0_0 a0_1 a0_2 a0_3 l0_4 l0_5))) else (dioramaref03_sample.j0 k a1 a2 true a0_0 a0_1 a0_2 a0_3 l0_4 l0_5))
set_option maxHeartbeats 8000000 in
set_option maxRecDepth 100000 in
theorem dioramaref03_sample.calls (k : Nat) (a0_0 : Int) (a0_1 : Int) (a0_2 : Int) (a0_3 : Bool) (A0_4 : Option Addr) (c0_4 : Nat) (l0_4 : List Int) (A0_5 : Option Addr) (c0_5 : Nat) (l0_5 : List Int) (a1 : Int) (a2 : Int) (r : Int) (w : World) (hr0_4 : Kd.C (Kd.int .i64) w A0_4 l0_4.length l0_4) (hc0_4 : l0_4.length ≤ c0_4) (hr0_5 : Kd.C (Kd.int .u8) w A0_5 l0_5.length l0_5) (hc0_5 : l0_5.length ≤ c0_5) (h : dioramaref03_sample.f k a0_0 a0_1 a0_2 a0_3 l0_4 l0_5 a1 a2 = some r) :
  Calls Try.prog 48 #[.agg #[.int .i64 a0_0, .int .i64 a0_1, .int .i64 a0_2, .bool a0_3, .slice A0_4 l0_4.length c0_4, .slice A0_5 l0_5.length c0_5], .int .i64 a1, .int .i64 a2] w fun e w' => e = .returned (.int .i64 r) ∧ Below w.heap.size w w' := by
 have hu51 := Try.underlying51; have HR0_4 := Aside0.mk hr0_4; have HC0_4 := Aside0.mk hc0_4; clear hr0_4 hc0_4; have HR0_5 := Aside0.mk hr0_5; have HC0_5 := Aside0.mk hc0_5; clear hr0_5 hc0_5; have HB := Aside0.mk (Below.refl w.heap.size w); have H : ((dioramaref03_in.f a0_0 (-1099511627776) 1099511627776).bind fun t131 => (if t131 = true then ((dioramaref03_in.f a0_1 (-1099511627776) 1099511627776).bind fun t132 => (if t132 = true then ((dioramaref03_in.f a0_2 0 1099511627776).bind fun t133 => (dioramaref03_sample.j0 k a1 a2 (!t133) a0_0 a0_1 a0_2 a0_3 l0_4 l0_5)) else (dioramaref03_sample.j0 k a1 a2 true a0_0 a0_1 a0_2 a0_3 l0_4 l0_5))) else (dioramaref03_sample.j0 k a1 a2 true a0_0 a0_1 a0_2 a0_3 l0_4 l0_5))) = some r := h
 clear h; have HC4 := Aside0.mk H; clear H
 go_enter Try.func48, Try.ntmps48
 go_upto_region 1 with (first | ((with_reducible refine gate_dst (N := 3) rfl ?_); refine zB 3 51 #[.int .i64 a0_0, .int .i64 a0_1, .int .i64 a0_2, .bool a0_3, .slice A0_4 l0_4.length c0_4, .slice A0_5 l0_5.length c0_5] ?_; intro gb130 hg w5 hbox hb; have BK130 := Aside0.mk hbox; have GW130 := gz hg; have GE130 := gz hg; replace HB := bp hb; clear hb hbox hg))
 repeat (go_quiet (first | ((with_reducible refine gate_dst (N := 3) rfl ?_); refine zB 3 51 #[.int .i64 a0_0, .int .i64 a0_1, .int .i64 a0_2, .bool a0_3, .slice A0_4 l0_4.length c0_4, .slice A0_5 l0_5.length c0_5] ?_; intro gb130 hg w5 hbox hb; have n0_ := bp hb; have n1_ := Aside0.mk hbox; have n2_ := gz hg; have n3_ := gz hg; clear HB; have HB := n0_; have BK130 := n1_; have GW130 := n2_; have GE130 := n3_; clear n0_ n1_ n2_ n3_; clear hb hbox hg)); go_upto_region 1 with (first | ((with_reducible refine gate_dst (N := 3) rfl ?_); refine zB 3 51 #[.int .i64 a0_0, .int .i64 a0_1, .int .i64 a0_2, .bool a0_3, .slice A0_4 l0_4.length c0_4, .slice A0_5 l0_5.length c0_5] ?_; intro gb130 hg w5 hbox hb; have BK130 := Aside0.mk hbox; have GW130 := gz hg; have GE130 := gz hg; replace HB := bp hb; clear hb hbox hg)))
 (try simp only [Act.put, List.setIfInBounds_toArray, List.set_cons_zero, List.set_cons_succ])
 go_cut [23] (fun v23 wc => ∃ (kq : Nat) (x23_3 : Bool), v23 = .bool x23_3 ∧ Aside0 (dioramaref03_sample.j0 kq a1 a2 x23_3 a0_0 a0_1 a0_2 a0_3 l0_4 l0_5 = some r) ∧ Aside0 (kq ≤ k) ∧ Aside0 (wc.heap[gb130]? = some (.cells #[.int .i64 a0_0, .int .i64 a0_1, .int .i64 a0_2, .bool a0_3, (.slice A0_4 l0_4.length c0_4), (.slice A0_5 l0_5.length c0_5)] 51 (0, 0))) ∧ Aside0 (Below w.heap.size w wc))
 case first =>
  have H := HC4.out; clear HC4; obtain ⟨t131, A6, H⟩ := ob H
  by_cases c7 : t131 = true
  ·subst c7; rw [if_pos rfl] at H; obtain ⟨t132, A8, H⟩ := ob H
   by_cases c9 : t132 = true
   ·subst c9; rw [if_pos rfl] at H; obtain ⟨t133, A10, H⟩ := ob H; have H' := Aside0.mk H; clear H; have hcz11_0 : w5.cell? ⟨gb130, 0, none⟩ = some (.int .i64 a0_0) := ct BK130 0; have hcz11_1 : w5.cell? ⟨gb130, 1, none⟩ = some (.int .i64 a0_1) := ct BK130 1; have hcz11_2 : w5.cell? ⟨gb130, 2, none⟩ = some (.int .i64 a0_2) := ct BK130 2; have hcz11_3 : w5.cell? ⟨gb130, 3, none⟩ = some (.bool a0_3) := ct BK130 3; have hcz11_4 : w5.cell? ⟨gb130, 4, none⟩ = some (.slice A0_4 l0_4.length c0_4) := ct BK130 4; have hcz11_5 : w5.cell? ⟨gb130, 5, none⟩ = some (.slice A0_5 l0_5.length c0_5) := ct BK130 5; have hfz11_0 := blk_frozen BK130.out 0; have hfz11_1 := blk_frozen BK130.out 1; have hfz11_2 := blk_frozen BK130.out 2; have hfz11_3 := blk_frozen BK130.out 3; have hfz11_4 := blk_frozen BK130.out 4; have hfz11_5 := blk_frozen BK130.out 5
    go_wp2_with (first | (go_at_call 34; (with_reducible refine (dioramaref03_in.calls a0_0 (-1099511627776) 1099511627776 true _ A6.out).mono ?_); rintro e w' ⟨rfl, ⟨nd, rfl⟩⟩; (try first | exact ⟨rfl, _, World.drewN_drewN _ _ _⟩ | exact ⟨rfl, _, Eq.trans (World.drewN_drewN _ _ _) (congrArg (World.drewN _) (Nat.add_assoc _ _ _))⟩)) | (go_at_call 34; (with_reducible refine (dioramaref03_in.calls a0_1 (-1099511627776) 1099511627776 true _ A8.out).mono ?_); rintro e w' ⟨rfl, ⟨nd, rfl⟩⟩; (try first | exact ⟨rfl, _, World.drewN_drewN _ _ _⟩ | exact ⟨rfl, _, Eq.trans (World.drewN_drewN _ _ _) (congrArg (World.drewN _) (Nat.add_assoc _ _ _))⟩)) | (go_at_call 34; (with_reducible refine (dioramaref03_in.calls a0_2 0 1099511627776 t133 _ A10.out).mono ?_); rintro e w' ⟨rfl, ⟨nd, rfl⟩⟩; (try first | exact ⟨rfl, _, World.drewN_drewN _ _ _⟩ | exact ⟨rfl, _, Eq.trans (World.drewN_drewN _ _ _) (congrArg (World.drewN _) (Nat.add_assoc _ _ _))⟩)))
    repeat (go_quiet (first | (go_at_call 34; (with_reducible refine (dioramaref03_in.calls a0_0 (-1099511627776) 1099511627776 true _ A6.out).mono ?_); rintro e w' ⟨rfl, ⟨nd, rfl⟩⟩; (try first | exact ⟨rfl, _, World.drewN_drewN _ _ _⟩ | exact ⟨rfl, _, Eq.trans (World.drewN_drewN _ _ _) (congrArg (World.drewN _) (Nat.add_assoc _ _ _))⟩)) | (go_at_call 34; (with_reducible refine (dioramaref03_in.calls a0_1 (-1099511627776) 1099511627776 true _ A8.out).mono ?_); rintro e w' ⟨rfl, ⟨nd, rfl⟩⟩; (try first | exact ⟨rfl, _, World.drewN_drewN _ _ _⟩ | exact ⟨rfl, _, Eq.trans (World.drewN_drewN _ _ _) (congrArg (World.drewN _) (Nat.add_assoc _ _ _))⟩)) | (go_at_call 34; (with_reducible refine (dioramaref03_in.calls a0_2 0 1099511627776 t133 _ A10.out).mono ?_); rintro e w' ⟨rfl, ⟨nd, rfl⟩⟩; (try first | exact ⟨rfl, _, World.drewN_drewN _ _ _⟩ | exact ⟨rfl, _, Eq.trans (World.drewN_drewN _ _ _) (congrArg (World.drewN _) (Nat.add_assoc _ _ _))⟩))); try go_wp2_with (first | (go_at_call 34; (with_reducible refine (dioramaref03_in.calls a0_0 (-1099511627776) 1099511627776 true _ A6.out).mono ?_); rintro e w' ⟨rfl, ⟨nd, rfl⟩⟩; (try first | exact ⟨rfl, _, World.drewN_drewN _ _ _⟩ | exact ⟨rfl, _, Eq.trans (World.drewN_drewN _ _ _) (congrArg (World.drewN _) (Nat.add_assoc _ _ _))⟩)) | (go_at_call 34; (with_reducible refine (dioramaref03_in.calls a0_1 (-1099511627776) 1099511627776 true _ A8.out).mono ?_); rintro e w' ⟨rfl, ⟨nd, rfl⟩⟩; (try first | exact ⟨rfl, _, World.drewN_drewN _ _ _⟩ | exact ⟨rfl, _, Eq.trans (World.drewN_drewN _ _ _) (congrArg (World.drewN _) (Nat.add_assoc _ _ _))⟩)) | (go_at_call 34; (with_reducible refine (dioramaref03_in.calls a0_2 0 1099511627776 t133 _ A10.out).mono ?_); rintro e w' ⟨rfl, ⟨nd, rfl⟩⟩; (try first | exact ⟨rfl, _, World.drewN_drewN _ _ _⟩ | exact ⟨rfl, _, Eq.trans (World.drewN_drewN _ _ _) (congrArg (World.drewN _) (Nat.add_assoc _ _ _))⟩))))
    go_meet
    case rel => exact ⟨_, (!t133), jz, H', ⟨by first | omega | exact Nat.le_refl _⟩, ⟨kz⟩, ⟨bz⟩⟩
   ·obtain rfl := bf c9; rw [if_neg (show ¬ (false = true) by decide)] at H; have H' := Aside0.mk H; clear H; have hcz12_0 : w5.cell? ⟨gb130, 0, none⟩ = some (.int .i64 a0_0) := ct BK130 0; have hcz12_1 : w5.cell? ⟨gb130, 1, none⟩ = some (.int .i64 a0_1) := ct BK130 1; have hcz12_2 : w5.cell? ⟨gb130, 2, none⟩ = some (.int .i64 a0_2) := ct BK130 2; have hcz12_3 : w5.cell? ⟨gb130, 3, none⟩ = some (.bool a0_3) := ct BK130 3; have hcz12_4 : w5.cell? ⟨gb130, 4, none⟩ = some (.slice A0_4 l0_4.length c0_4) := ct BK130 4; have hcz12_5 : w5.cell? ⟨gb130, 5, none⟩ = some (.slice A0_5 l0_5.length c0_5) := ct BK130 5; have hfz12_0 := blk_frozen BK130.out 0; have hfz12_1 := blk_frozen BK130.out 1; have hfz12_2 := blk_frozen BK130.out 2; have hfz12_3 := blk_frozen BK130.out 3; have hfz12_4 := blk_frozen BK130.out 4; have hfz12_5 := blk_frozen BK130.out 5
    go_wp2_with (first | (go_at_call 34; (with_reducible refine (dioramaref03_in.calls a0_0 (-1099511627776) 1099511627776 true _ A6.out).mono ?_); rintro e w' ⟨rfl, ⟨nd, rfl⟩⟩; (try first | exact ⟨rfl, _, World.drewN_drewN _ _ _⟩ | exact ⟨rfl, _, Eq.trans (World.drewN_drewN _ _ _) (congrArg (World.drewN _) (Nat.add_assoc _ _ _))⟩)) | (go_at_call 34; (with_reducible refine (dioramaref03_in.calls a0_1 (-1099511627776) 1099511627776 false _ A8.out).mono ?_); rintro e w' ⟨rfl, ⟨nd, rfl⟩⟩; (try first | exact ⟨rfl, _, World.drewN_drewN _ _ _⟩ | exact ⟨rfl, _, Eq.trans (World.drewN_drewN _ _ _) (congrArg (World.drewN _) (Nat.add_assoc _ _ _))⟩)))
    repeat (go_quiet (first | (go_at_call 34; (with_reducible refine (dioramaref03_in.calls a0_0 (-1099511627776) 1099511627776 true _ A6.out).mono ?_); rintro e w' ⟨rfl, ⟨nd, rfl⟩⟩; (try first | exact ⟨rfl, _, World.drewN_drewN _ _ _⟩ | exact ⟨rfl, _, Eq.trans (World.drewN_drewN _ _ _) (congrArg (World.drewN _) (Nat.add_assoc _ _ _))⟩)) | (go_at_call 34; (with_reducible refine (dioramaref03_in.calls a0_1 (-1099511627776) 1099511627776 false _ A8.out).mono ?_); rintro e w' ⟨rfl, ⟨nd, rfl⟩⟩; (try first | exact ⟨rfl, _, World.drewN_drewN _ _ _⟩ | exact ⟨rfl, _, Eq.trans (World.drewN_drewN _ _ _) (congrArg (World.drewN _) (Nat.add_assoc _ _ _))⟩))); try go_wp2_with (first | (go_at_call 34; (with_reducible refine (dioramaref03_in.calls a0_0 (-1099511627776) 1099511627776 true _ A6.out).mono ?_); rintro e w' ⟨rfl, ⟨nd, rfl⟩⟩; (try first | exact ⟨rfl, _, World.drewN_drewN _ _ _⟩ | exact ⟨rfl, _, Eq.trans (World.drewN_drewN _ _ _) (congrArg (World.drewN _) (Nat.add_assoc _ _ _))⟩)) | (go_at_call 34; (with_reducible refine (dioramaref03_in.calls a0_1 (-1099511627776) 1099511627776 false _ A8.out).mono ?_); rintro e w' ⟨rfl, ⟨nd, rfl⟩⟩; (try first | exact ⟨rfl, _, World.drewN_drewN _ _ _⟩ | exact ⟨rfl, _, Eq.trans (World.drewN_drewN _ _ _) (congrArg (World.drewN _) (Nat.add_assoc _ _ _))⟩))))
    go_meet
    case rel => exact ⟨_, (true), jz, H', ⟨by first | omega | exact Nat.le_refl _⟩, ⟨kz⟩, ⟨bz⟩⟩
  ·obtain rfl := bf c7; rw [if_neg (show ¬ (false = true) by decide)] at H; have H' := Aside0.mk H; clear H; have hcz13_0 : w5.cell? ⟨gb130, 0, none⟩ = some (.int .i64 a0_0) := ct BK130 0; have hcz13_1 : w5.cell? ⟨gb130, 1, none⟩ = some (.int .i64 a0_1) := ct BK130 1; have hcz13_2 : w5.cell? ⟨gb130, 2, none⟩ = some (.int .i64 a0_2) := ct BK130 2; have hcz13_3 : w5.cell? ⟨gb130, 3, none⟩ = some (.bool a0_3) := ct BK130 3; have hcz13_4 : w5.cell? ⟨gb130, 4, none⟩ = some (.slice A0_4 l0_4.length c0_4) := ct BK130 4; have hcz13_5 : w5.cell? ⟨gb130, 5, none⟩ = some (.slice A0_5 l0_5.length c0_5) := ct BK130 5; have hfz13_0 := blk_frozen BK130.out 0; have hfz13_1 := blk_frozen BK130.out 1; have hfz13_2 := blk_frozen BK130.out 2; have hfz13_3 := blk_frozen BK130.out 3; have hfz13_4 := blk_frozen BK130.out 4; have hfz13_5 := blk_frozen BK130.out 5
   go_wp2_with (first | (go_at_call 34; (with_reducible refine (dioramaref03_in.calls a0_0 (-1099511627776) 1099511627776 false _ A6.out).mono ?_); rintro e w' ⟨rfl, ⟨nd, rfl⟩⟩; (try first | exact ⟨rfl, _, World.drewN_drewN _ _ _⟩ | exact ⟨rfl, _, Eq.trans (World.drewN_drewN _ _ _) (congrArg (World.drewN _) (Nat.add_assoc _ _ _))⟩)))
   repeat (go_quiet (first | (go_at_call 34; (with_reducible refine (dioramaref03_in.calls a0_0 (-1099511627776) 1099511627776 false _ A6.out).mono ?_); rintro e w' ⟨rfl, ⟨nd, rfl⟩⟩; (try first | exact ⟨rfl, _, World.drewN_drewN _ _ _⟩ | exact ⟨rfl, _, Eq.trans (World.drewN_drewN _ _ _) (congrArg (World.drewN _) (Nat.add_assoc _ _ _))⟩))); try go_wp2_with (first | (go_at_call 34; (with_reducible refine (dioramaref03_in.calls a0_0 (-1099511627776) 1099511627776 false _ A6.out).mono ?_); rintro e w' ⟨rfl, ⟨nd, rfl⟩⟩; (try first | exact ⟨rfl, _, World.drewN_drewN _ _ _⟩ | exact ⟨rfl, _, Eq.trans (World.drewN_drewN _ _ _) (congrArg (World.drewN _) (Nat.add_assoc _ _ _))⟩))))
   go_meet
   case rel => exact ⟨_, (true), jz, H', ⟨by first | omega | exact Nat.le_refl _⟩, ⟨kz⟩, ⟨bz⟩⟩
 case rest =>
  clear HC4
  try clear p2
  try clear c4
  try clear c7
  try clear c9
  try clear hcz11_0
  try clear hcz11_1
  try clear hcz11_2
  try clear hcz11_3
  try clear hcz11_4
  try clear hcz11_5
  try clear hcz12_0
  try clear hcz12_1
  try clear hcz12_2
  try clear hcz12_3
  try clear hcz12_4
  try clear hcz12_5
  try clear hcz13_0
  try clear hcz13_1
  try clear hcz13_2
  try clear hcz13_3
  try clear hcz13_4
  try clear hcz13_5
  try clear hfz11_0
  try clear hfz11_1
  try clear hfz11_2
  try clear hfz11_3
  try clear hfz11_4
  try clear hfz11_5
  try clear hfz12_0
  try clear hfz12_1
  try clear hfz12_2
  try clear hfz12_3
  try clear hfz12_4
  try clear hfz12_5
  try clear hfz13_0
  try clear hfz13_1
  try clear hfz13_2
  try clear hfz13_3
  try clear hfz13_4
  try clear hfz13_5
  obtain ⟨kq, x23_3, rfl, HA, HJ3, BK130, HB⟩ := hcut
  cases kq with
  | zero => exact absurd HA.out (by simp [dioramaref03_sample.j0])
  | succ kj3 =>
   have H := HA.out; clear HA; simp only [dioramaref03_sample.j0] at H
   by_cases c14 : x23_3 = true
   ·subst c14; rw [if_pos rfl] at H; obtain rfl := Option.some.inj H
    go_wp2
    repeat (go_quiet (fail); try go_wp2)
    go_ret
    exact ⟨ez, bz⟩
   ·obtain rfl := bf c14; rw [if_neg (show ¬ (false = true) by decide)] at H; have HC15 := Aside0.mk H; clear H
    go_upto_region 3 with (fail)
    repeat (go_quiet (fail); go_upto_region 3 with (fail))
    go_cut [33] (fun v33 wc => ∃ (kq : Nat) (x33_14 : Bool), v33 = .bool x33_14 ∧ Aside0 (dioramaref03_sample.j1 kq a1 a2 x33_14 a0_0 a0_1 a0_2 a0_3 l0_4 l0_5 = some r) ∧ Aside0 (kq ≤ kj3) ∧ Aside0 (wc.heap[gb130]? = some (.cells #[.int .i64 a0_0, .int .i64 a0_1, .int .i64 a0_2, .bool a0_3, (.slice A0_4 l0_4.length c0_4), (.slice A0_5 l0_5.length c0_5)] 51 (0, 0))) ∧ Aside0 (Below w.heap.size w wc))
    case first =>
     have H := HC15.out; clear HC15
     by_cases c16 : (l0_5.length : Int) > 65536
     ·rw [if_pos c16] at H; have c16b0 : decide (65536 < (l0_5.length : Int)) = true := decide_eq_true c16; have c16b1 : decide (65536 < l0_5.length) = true := decide_eq_true (by omega); clear c16
      (first | rw [c16b0] | (simp only [i64_w, i32_w]; rw [c16b0]) | skip)
      have H' := Aside0.mk H; clear H; have hcz17_0 : wc.cell? ⟨gb130, 0, none⟩ = some (.int .i64 a0_0) := ct BK130 0; have hcz17_1 : wc.cell? ⟨gb130, 1, none⟩ = some (.int .i64 a0_1) := ct BK130 1; have hcz17_2 : wc.cell? ⟨gb130, 2, none⟩ = some (.int .i64 a0_2) := ct BK130 2; have hcz17_3 : wc.cell? ⟨gb130, 3, none⟩ = some (.bool a0_3) := ct BK130 3; have hcz17_4 : wc.cell? ⟨gb130, 4, none⟩ = some (.slice A0_4 l0_4.length c0_4) := ct BK130 4; have hcz17_5 : wc.cell? ⟨gb130, 5, none⟩ = some (.slice A0_5 l0_5.length c0_5) := ct BK130 5; have hfz17_0 := blk_frozen BK130.out 0; have hfz17_1 := blk_frozen BK130.out 1; have hfz17_2 := blk_frozen BK130.out 2; have hfz17_3 := blk_frozen BK130.out 3; have hfz17_4 := blk_frozen BK130.out 4; have hfz17_5 := blk_frozen BK130.out 5
      go_wp2
      repeat (go_quiet (fail); try go_wp2)
      go_meet
      case rel => exact ⟨_, (true), jz, H', ⟨by have := HJ3.out; first | omega | exact Nat.le_refl _⟩, ⟨kz⟩, ⟨bz⟩⟩
     ·rw [if_neg c16] at H; have c16b0 : decide (65536 < (l0_5.length : Int)) = false := decide_eq_false c16; have c16b1 : decide (65536 < l0_5.length) = false := decide_eq_false (by omega); clear c16
      (first | rw [c16b0] | (simp only [i64_w, i32_w]; rw [c16b0]) | skip)
      have H' := Aside0.mk H; clear H; have hcz18_0 : wc.cell? ⟨gb130, 0, none⟩ = some (.int .i64 a0_0) := ct BK130 0; have hcz18_1 : wc.cell? ⟨gb130, 1, none⟩ = some (.int .i64 a0_1) := ct BK130 1; have hcz18_2 : wc.cell? ⟨gb130, 2, none⟩ = some (.int .i64 a0_2) := ct BK130 2; have hcz18_3 : wc.cell? ⟨gb130, 3, none⟩ = some (.bool a0_3) := ct BK130 3; have hcz18_4 : wc.cell? ⟨gb130, 4, none⟩ = some (.slice A0_4 l0_4.length c0_4) := ct BK130 4; have hcz18_5 : wc.cell? ⟨gb130, 5, none⟩ = some (.slice A0_5 l0_5.length c0_5) := ct BK130 5; have hfz18_0 := blk_frozen BK130.out 0; have hfz18_1 := blk_frozen BK130.out 1; have hfz18_2 := blk_frozen BK130.out 2; have hfz18_3 := blk_frozen BK130.out 3; have hfz18_4 := blk_frozen BK130.out 4; have hfz18_5 := blk_frozen BK130.out 5
      go_wp2
      repeat (go_quiet (fail); try go_wp2)
      go_meet
      case rel => exact ⟨_, (decide ((l0_4.length : Int) > 4)), jz, H', ⟨by have := HJ3.out; first | omega | exact Nat.le_refl _⟩, ⟨kz⟩, ⟨bz⟩⟩
    case rest =>
     clear HC15
     try clear c1
     try clear p2
     try clear c4
     try clear c7
     try clear c9
     try clear c14
     try clear c16
     try clear c16b0
     try clear c16b1
     try clear hcz11_0
     try clear hcz11_1
     try clear hcz11_2
     try clear hcz11_3
     try clear hcz11_4
     try clear hcz11_5
     try clear hcz12_0
     try clear hcz12_1
     try clear hcz12_2
     try clear hcz12_3
     try clear hcz12_4
     try clear hcz12_5
     try clear hcz13_0
     try clear hcz13_1
     try clear hcz13_2
     try clear hcz13_3
     try clear hcz13_4
     try clear hcz13_5
     try clear hcz17_0
     try clear hcz17_1
     try clear hcz17_2
     try clear hcz17_3
     try clear hcz17_4
     try clear hcz17_5
     try clear hcz18_0
     try clear hcz18_1
     try clear hcz18_2
     try clear hcz18_3
     try clear hcz18_4
     try clear hcz18_5
     try clear hfz11_0
     try clear hfz11_1
     try clear hfz11_2
     try clear hfz11_3
     try clear hfz11_4
     try clear hfz11_5
     try clear hfz12_0
     try clear hfz12_1
     try clear hfz12_2
     try clear hfz12_3
     try clear hfz12_4
     try clear hfz12_5
     try clear hfz13_0
     try clear hfz13_1
     try clear hfz13_2
     try clear hfz13_3
     try clear hfz13_4
     try clear hfz13_5
     try clear hfz17_0
     try clear hfz17_1
     try clear hfz17_2
     try clear hfz17_3
     try clear hfz17_4
     try clear hfz17_5
     try clear hfz18_0
     try clear hfz18_1
     try clear hfz18_2
     try clear hfz18_3
     try clear hfz18_4
     try clear hfz18_5
     try clear p2
     obtain ⟨kq, x33_14, rfl, HA, HJ14, BK130, HB⟩ := hcut
     cases kq with
     | zero => exact absurd HA.out (by simp [dioramaref03_sample.j1])
     | succ kj14 =>
      have H := HA.out; clear HA; simp only [dioramaref03_sample.j1] at H
      by_cases c19 : x33_14 = true
      ·subst c19; rw [if_pos rfl] at H; obtain rfl := Option.some.inj H
       go_wp2
       repeat (go_quiet (fail); try go_wp2)
       go_ret
       exact ⟨ez, bz⟩
      ·obtain rfl := bf c19; rw [if_neg (show ¬ (false = true) by decide)] at H; have HC20 := Aside0.mk H; clear H
       go_upto_region 5 with (fail)
       repeat (go_quiet (fail); go_upto_region 5 with (fail))
       go_cut [41] (fun v41 wc => ∃ (kq : Nat) (x41_19 : Bool), v41 = .bool x41_19 ∧ Aside0 (dioramaref03_sample.j2 kq a1 x41_19 a0_0 a0_1 a0_2 a0_3 l0_4 l0_5 = some r) ∧ Aside0 (kq ≤ kj14) ∧ Aside0 (wc.heap[gb130]? = some (.cells #[.int .i64 a0_0, .int .i64 a0_1, .int .i64 a0_2, .bool a0_3, (.slice A0_4 l0_4.length c0_4), (.slice A0_5 l0_5.length c0_5)] 51 (0, 0))) ∧ Aside0 (Below w.heap.size w wc))
       case first =>
        have H := HC20.out; clear HC20
        by_cases c21 : a1 > 0
        ·rw [if_pos c21] at H; have c21b0 : decide (0 < a1) = true := decide_eq_true c21; clear c21
         (first | rw [c21b0] | (simp only [i64_w, i32_w]; rw [c21b0]) | skip)
         have H' := Aside0.mk H; clear H; have hcz22_0 : wc.cell? ⟨gb130, 0, none⟩ = some (.int .i64 a0_0) := ct BK130 0; have hcz22_1 : wc.cell? ⟨gb130, 1, none⟩ = some (.int .i64 a0_1) := ct BK130 1; have hcz22_2 : wc.cell? ⟨gb130, 2, none⟩ = some (.int .i64 a0_2) := ct BK130 2; have hcz22_3 : wc.cell? ⟨gb130, 3, none⟩ = some (.bool a0_3) := ct BK130 3; have hcz22_4 : wc.cell? ⟨gb130, 4, none⟩ = some (.slice A0_4 l0_4.length c0_4) := ct BK130 4; have hcz22_5 : wc.cell? ⟨gb130, 5, none⟩ = some (.slice A0_5 l0_5.length c0_5) := ct BK130 5; have hfz22_0 := blk_frozen BK130.out 0; have hfz22_1 := blk_frozen BK130.out 1; have hfz22_2 := blk_frozen BK130.out 2; have hfz22_3 := blk_frozen BK130.out 3; have hfz22_4 := blk_frozen BK130.out 4; have hfz22_5 := blk_frozen BK130.out 5
         go_wp2
         repeat (go_quiet (fail); try go_wp2)
         go_meet
         case rel => exact ⟨_, (decide (a0_0 ≤ a2)), jz, H', ⟨by have := HJ3.out; have := HJ14.out; first | omega | exact Nat.le_refl _⟩, ⟨kz⟩, ⟨bz⟩⟩
        ·rw [if_neg c21] at H; have c21b0 : decide (0 < a1) = false := decide_eq_false c21; clear c21
         (first | rw [c21b0] | (simp only [i64_w, i32_w]; rw [c21b0]) | skip)
         have H' := Aside0.mk H; clear H
         go_wp2
         repeat (go_quiet (fail); try go_wp2)
         go_meet
         case rel => exact ⟨_, (false), jz, H', ⟨by have := HJ3.out; have := HJ14.out; first | omega | exact Nat.le_refl _⟩, ⟨kz⟩, ⟨bz⟩⟩
       case rest =>
        clear HC20
        try clear c1
        try clear c2
        try clear p2
        try clear c4
        try clear c7
        try clear c9
        try clear c14
        try clear c16
        try clear c16b0
        try clear c16b1
        try clear c19
        try clear c21
        try clear c21b0
        try clear hcz11_0
        try clear hcz11_1
        try clear hcz11_2
        try clear hcz11_3
        try clear hcz11_4
        try clear hcz11_5
        try clear hcz12_0
        try clear hcz12_1
        try clear hcz12_2
        try clear hcz12_3
        try clear hcz12_4
        try clear hcz12_5
        try clear hcz13_0
        try clear hcz13_1
        try clear hcz13_2
        try clear hcz13_3
        try clear hcz13_4
        try clear hcz13_5
        try clear hcz17_0
        try clear hcz17_1
        try clear hcz17_2
        try clear hcz17_3
        try clear hcz17_4
        try clear hcz17_5
        try clear hcz18_0
        try clear hcz18_1
        try clear hcz18_2
        try clear hcz18_3
        try clear hcz18_4
        try clear hcz18_5
        try clear hcz22_0
        try clear hcz22_1
        try clear hcz22_2
        try clear hcz22_3
        try clear hcz22_4
        try clear hcz22_5
        try clear hfz11_0
        try clear hfz11_1
        try clear hfz11_2
        try clear hfz11_3
        try clear hfz11_4
        try clear hfz11_5
        try clear hfz12_0
        try clear hfz12_1
        try clear hfz12_2
        try clear hfz12_3
        try clear hfz12_4
        try clear hfz12_5
        try clear hfz13_0
        try clear hfz13_1
        try clear hfz13_2
        try clear hfz13_3
        try clear hfz13_4
        try clear hfz13_5
        try clear hfz17_0
        try clear hfz17_1
        try clear hfz17_2
        try clear hfz17_3
        try clear hfz17_4
        try clear hfz17_5
        try clear hfz18_0
        try clear hfz18_1
        try clear hfz18_2
        try clear hfz18_3
        try clear hfz18_4
        try clear hfz18_5
        try clear hfz22_0
        try clear hfz22_1
        try clear hfz22_2
        try clear hfz22_3
        try clear hfz22_4
        try clear hfz22_5
        try clear p2
        obtain ⟨kq, x41_19, rfl, HA, HJ19, BK130, HB⟩ := hcut
        cases kq with
        | zero => exact absurd HA.out (by simp [dioramaref03_sample.j2])
        | succ kj19 =>
         have H := HA.out; clear HA; simp only [dioramaref03_sample.j2] at H
         by_cases c23 : x41_19 = true
         ·subst c23; rw [if_pos rfl] at H; obtain rfl := Option.some.inj H
          go_wp2
          repeat (go_quiet (fail); try go_wp2)
          go_ret
          exact ⟨ez, bz⟩
         ·obtain rfl := bf c23; rw [if_neg (show ¬ (false = true) by decide)] at H; have H' := Aside0.mk H; clear H
          go_wp2
          repeat (go_quiet (fail); try go_wp2)
          go_loopg [7] kj19 (fun kq v7 w' => ∃ (x7_4 : Int), v7 = .int .i64 x7_4 ∧ Aside0 (dioramaref03_sample.l0 kq a1 x7_4 a0_0 a0_1 a0_2 a0_3 l0_4 l0_5 = some r) ∧ Aside0 (kq ≤ kj19) ∧ Aside0 (w'.heap[gb130]? = some (.cells #[.int .i64 a0_0, .int .i64 a0_1, .int .i64 a0_2, .bool a0_3, (.slice A0_4 l0_4.length c0_4), (.slice A0_5 l0_5.length c0_5)] 51 (0, 0))) ∧ Aside0 (Below w.heap.size w w'))
          case atStart => exact ⟨(0), jz, H', ⟨Nat.le_refl _⟩, ⟨kz⟩, ⟨bz⟩⟩
          case round =>
           clear H'
           try clear c1
           try clear c2
           try clear p2
           try clear c4
           try clear c7
           try clear c9
           try clear c14
           try clear c16
           try clear c16b0
           try clear c16b1
           try clear c19
           try clear c21
           try clear c21b0
           try clear c23
           try clear hcz11_0
           try clear hcz11_1
           try clear hcz11_2
           try clear hcz11_3
           try clear hcz11_4
           try clear hcz11_5
           try clear hcz12_0
           try clear hcz12_1
           try clear hcz12_2
           try clear hcz12_3
           try clear hcz12_4
           try clear hcz12_5
           try clear hcz13_0
           try clear hcz13_1
           try clear hcz13_2
           try clear hcz13_3
           try clear hcz13_4
           try clear hcz13_5
           try clear hcz17_0
           try clear hcz17_1
           try clear hcz17_2
           try clear hcz17_3
           try clear hcz17_4
           try clear hcz17_5
           try clear hcz18_0
           try clear hcz18_1
           try clear hcz18_2
           try clear hcz18_3
           try clear hcz18_4
           try clear hcz18_5
           try clear hcz22_0
           try clear hcz22_1
           try clear hcz22_2
           try clear hcz22_3
           try clear hcz22_4
           try clear hcz22_5
           try clear hfz11_0
           try clear hfz11_1
           try clear hfz11_2
           try clear hfz11_3
           try clear hfz11_4
           try clear hfz11_5
           try clear hfz12_0
           try clear hfz12_1
           try clear hfz12_2
           try clear hfz12_3
           try clear hfz12_4
           try clear hfz12_5
           try clear hfz13_0
           try clear hfz13_1
           try clear hfz13_2
           try clear hfz13_3
           try clear hfz13_4
           try clear hfz13_5
           try clear hfz17_0
           try clear hfz17_1
           try clear hfz17_2
           try clear hfz17_3
           try clear hfz17_4
           try clear hfz17_5
           try clear hfz18_0
           try clear hfz18_1
           try clear hfz18_2
           try clear hfz18_3
           try clear hfz18_4
           try clear hfz18_5
           try clear hfz22_0
           try clear hfz22_1
           try clear hfz22_2
           try clear hfz22_3
           try clear hfz22_4
           try clear hfz22_5
           try clear p2
           obtain ⟨x7_4, rfl, HA, HK4, BK130, HB⟩ := hrel
           cases gk with
           | zero => exact absurd HA.out (by simp [dioramaref03_sample.l0])
           | succ k4 =>
            have H := HA.out; clear HA; simp only [dioramaref03_sample.l0] at H
            by_cases c24 : x7_4 < (l0_4.length : Int)
            ·rw [if_pos c24] at H; have c24b0 : decide (x7_4 < (l0_4.length : Int)) = true := decide_eq_true c24; clear c24
             by_cases c25 : 0 ≤ x7_4
             ·rw [if_pos c25] at H; have c25b0 : decide (0 ≤ x7_4) = true := decide_eq_true c25; clear c25
              by_cases c26 : (rd l0_4 x7_4) < 0
              ·rw [if_pos c26] at H; have c26b0 : decide ((rd l0_4 x7_4) < 0) = true := decide_eq_true c26; clear c26; obtain rfl := Option.some.inj H; have hcz27_0 : wr.cell? ⟨gb130, 0, none⟩ = some (.int .i64 a0_0) := ct BK130 0; have hcz27_1 : wr.cell? ⟨gb130, 1, none⟩ = some (.int .i64 a0_1) := ct BK130 1; have hcz27_2 : wr.cell? ⟨gb130, 2, none⟩ = some (.int .i64 a0_2) := ct BK130 2; have hcz27_3 : wr.cell? ⟨gb130, 3, none⟩ = some (.bool a0_3) := ct BK130 3; have hcz27_4 : wr.cell? ⟨gb130, 4, none⟩ = some (.slice A0_4 l0_4.length c0_4) := ct BK130 4; have hcz27_5 : wr.cell? ⟨gb130, 5, none⟩ = some (.slice A0_5 l0_5.length c0_5) := ct BK130 5; have hfz27_0 := blk_frozen BK130.out 0; have hfz27_1 := blk_frozen BK130.out 1; have hfz27_2 := blk_frozen BK130.out 2; have hfz27_3 := blk_frozen BK130.out 3; have hfz27_4 := blk_frozen BK130.out 4; have hfz27_5 := blk_frozen BK130.out 5; have p134 : 0 ≤ (x7_4 : Int) := od; have q134 : x7_4 < (l0_4.length : Int) := od; obtain ⟨ad134, e134, hx134_0⟩ := Kd.at_int HR0_4.out x7_4 p134 q134
               cases e134
               replace hx134_0 := cl HB hx134_0; replace p134 := eq_true p134; replace q134 := eq_true q134
               go_wp2
               repeat (go_quiet (fail); try go_wp2)
               go_ret
               exact ⟨ez, bz⟩
              ·rw [if_neg c26] at H; have c26b0 : decide ((rd l0_4 x7_4) < 0) = false := decide_eq_false c26; clear c26
               by_cases c28 : (rd l0_4 x7_4) ≥ a1
               ·rw [if_pos c28] at H; have c28b0 : decide (a1 ≤ (rd l0_4 x7_4)) = true := decide_eq_true c28; clear c28; obtain rfl := Option.some.inj H; have hcz29_0 : wr.cell? ⟨gb130, 0, none⟩ = some (.int .i64 a0_0) := ct BK130 0; have hcz29_1 : wr.cell? ⟨gb130, 1, none⟩ = some (.int .i64 a0_1) := ct BK130 1; have hcz29_2 : wr.cell? ⟨gb130, 2, none⟩ = some (.int .i64 a0_2) := ct BK130 2; have hcz29_3 : wr.cell? ⟨gb130, 3, none⟩ = some (.bool a0_3) := ct BK130 3; have hcz29_4 : wr.cell? ⟨gb130, 4, none⟩ = some (.slice A0_4 l0_4.length c0_4) := ct BK130 4; have hcz29_5 : wr.cell? ⟨gb130, 5, none⟩ = some (.slice A0_5 l0_5.length c0_5) := ct BK130 5; have hfz29_0 := blk_frozen BK130.out 0; have hfz29_1 := blk_frozen BK130.out 1; have hfz29_2 := blk_frozen BK130.out 2; have hfz29_3 := blk_frozen BK130.out 3; have hfz29_4 := blk_frozen BK130.out 4; have hfz29_5 := blk_frozen BK130.out 5; have p134 : 0 ≤ (x7_4 : Int) := od; have q134 : x7_4 < (l0_4.length : Int) := od; obtain ⟨ad134, e134, hx134_0⟩ := Kd.at_int HR0_4.out x7_4 p134 q134
                cases e134
                replace hx134_0 := cl HB hx134_0; replace p134 := eq_true p134; replace q134 := eq_true q134; have p135 : 0 ≤ (x7_4 : Int) := od; have q135 : x7_4 < (l0_4.length : Int) := od; obtain ⟨ad135, e135, hx135_0⟩ := Kd.at_int HR0_4.out x7_4 p135 q135; obtain rfl : ad134 = ad135 := (by injection e135); replace hx135_0 := cl HB hx135_0; replace p135 := eq_true p135; replace q135 := eq_true q135
                go_wp2
                repeat (go_quiet (fail); try go_wp2)
                go_ret
                exact ⟨ez, bz⟩
               ·rw [if_neg c28] at H; have c28b0 : decide (a1 ≤ (rd l0_4 x7_4)) = false := decide_eq_false c28; clear c28
                by_cases c30 : x7_4 > 0
                ·rw [if_pos c30] at H; have c30b0 : decide (0 < x7_4) = true := decide_eq_true c30; clear c30; obtain ⟨ji31, hji31⟩ : ∃ j_ : Int, (wrap64 (x7_4 - 1)) = j_ := ⟨_, rfl⟩; replace H : (if 0 ≤ (ji31) then (if (ji31) < (l0_4.length : Int) then (if (rd l0_4 x7_4) ≤ (rd l0_4 (ji31)) then (some 32) else (dioramaref03_sample.l0 k4 a1 (wrap64 (x7_4 + 1)) a0_0 a0_1 a0_2 a0_3 l0_4 l0_5)) else (none)) else (none)) = some r := by first | (rw [hji31] at H; exact H) | (simp only [hji31] at H ⊢; exact H)
                 have hji31w : (IntKind.i64.wrap (x7_4 - 1)) = ji31 := (i64_w _).trans hji31
                 by_cases c32 : 0 ≤ (ji31)
                 ·rw [if_pos c32] at H; have c32b0 : decide (0 ≤ (ji31)) = true := decide_eq_true c32; clear c32
                  by_cases c33 : (ji31) < (l0_4.length : Int)
                  ·rw [if_pos c33] at H; have c33b0 : decide ((ji31) < (l0_4.length : Int)) = true := decide_eq_true c33; clear c33
                   by_cases c34 : (rd l0_4 x7_4) ≤ (rd l0_4 (ji31))
                   ·rw [if_pos c34] at H; have c34b0 : decide ((rd l0_4 x7_4) ≤ (rd l0_4 (ji31))) = true := decide_eq_true c34; clear c34; obtain rfl := Option.some.inj H; have hcz35_0 : wr.cell? ⟨gb130, 0, none⟩ = some (.int .i64 a0_0) := ct BK130 0; have hcz35_1 : wr.cell? ⟨gb130, 1, none⟩ = some (.int .i64 a0_1) := ct BK130 1; have hcz35_2 : wr.cell? ⟨gb130, 2, none⟩ = some (.int .i64 a0_2) := ct BK130 2; have hcz35_3 : wr.cell? ⟨gb130, 3, none⟩ = some (.bool a0_3) := ct BK130 3; have hcz35_4 : wr.cell? ⟨gb130, 4, none⟩ = some (.slice A0_4 l0_4.length c0_4) := ct BK130 4; have hcz35_5 : wr.cell? ⟨gb130, 5, none⟩ = some (.slice A0_5 l0_5.length c0_5) := ct BK130 5; have hfz35_0 := blk_frozen BK130.out 0; have hfz35_1 := blk_frozen BK130.out 1; have hfz35_2 := blk_frozen BK130.out 2; have hfz35_3 := blk_frozen BK130.out 3; have hfz35_4 := blk_frozen BK130.out 4; have hfz35_5 := blk_frozen BK130.out 5; have p134 : 0 ≤ (x7_4 : Int) := od; have q134 : x7_4 < (l0_4.length : Int) := od; obtain ⟨ad134, e134, hx134_0⟩ := Kd.at_int HR0_4.out x7_4 p134 q134
                    cases e134
                    replace hx134_0 := cl HB hx134_0; replace p134 := eq_true p134; replace q134 := eq_true q134; have p135 : 0 ≤ (x7_4 : Int) := od; have q135 : x7_4 < (l0_4.length : Int) := od; obtain ⟨ad135, e135, hx135_0⟩ := Kd.at_int HR0_4.out x7_4 p135 q135; obtain rfl : ad134 = ad135 := (by injection e135); replace hx135_0 := cl HB hx135_0; replace p135 := eq_true p135; replace q135 := eq_true q135; have p136 : 0 ≤ (x7_4 : Int) := od; have q136 : x7_4 < (l0_4.length : Int) := od; obtain ⟨ad136, e136, hx136_0⟩ := Kd.at_int HR0_4.out x7_4 p136 q136; obtain rfl : ad134 = ad136 := (by injection e136); replace hx136_0 := cl HB hx136_0; replace p136 := eq_true p136; replace q136 := eq_true q136; have p137 : 0 ≤ ((ji31) : Int) := od; have q137 : (ji31) < (l0_4.length : Int) := od; obtain ⟨ad137, e137, hx137_0⟩ := Kd.at_int HR0_4.out (ji31) p137 q137; obtain rfl : ad134 = ad137 := (by injection e137); replace hx137_0 := cl HB hx137_0; replace p137 := eq_true p137; replace q137 := eq_true q137
                    go_wp2
                    repeat (go_quiet (fail); try go_wp2)
                    go_ret
                    exact ⟨by first | rfl | (simp [errW_none, errW_some] <;> rfl) | (simp only [← hji31]; first | rfl | (simp [errW_none, errW_some] <;> rfl)) | (simp [*, errW_none, errW_some] <;> rfl), bz⟩
                   ·rw [if_neg c34] at H; have c34b0 : decide ((rd l0_4 x7_4) ≤ (rd l0_4 (ji31))) = false := decide_eq_false c34; clear c34; have H' := Aside0.mk H; clear H; have hcz36_0 : wr.cell? ⟨gb130, 0, none⟩ = some (.int .i64 a0_0) := ct BK130 0; have hcz36_1 : wr.cell? ⟨gb130, 1, none⟩ = some (.int .i64 a0_1) := ct BK130 1; have hcz36_2 : wr.cell? ⟨gb130, 2, none⟩ = some (.int .i64 a0_2) := ct BK130 2; have hcz36_3 : wr.cell? ⟨gb130, 3, none⟩ = some (.bool a0_3) := ct BK130 3; have hcz36_4 : wr.cell? ⟨gb130, 4, none⟩ = some (.slice A0_4 l0_4.length c0_4) := ct BK130 4; have hcz36_5 : wr.cell? ⟨gb130, 5, none⟩ = some (.slice A0_5 l0_5.length c0_5) := ct BK130 5; have hfz36_0 := blk_frozen BK130.out 0; have hfz36_1 := blk_frozen BK130.out 1; have hfz36_2 := blk_frozen BK130.out 2; have hfz36_3 := blk_frozen BK130.out 3; have hfz36_4 := blk_frozen BK130.out 4; have hfz36_5 := blk_frozen BK130.out 5; have p134 : 0 ≤ (x7_4 : Int) := od; have q134 : x7_4 < (l0_4.length : Int) := od; obtain ⟨ad134, e134, hx134_0⟩ := Kd.at_int HR0_4.out x7_4 p134 q134
                    cases e134
                    replace hx134_0 := cl HB hx134_0; replace p134 := eq_true p134; replace q134 := eq_true q134; have p135 : 0 ≤ (x7_4 : Int) := od; have q135 : x7_4 < (l0_4.length : Int) := od; obtain ⟨ad135, e135, hx135_0⟩ := Kd.at_int HR0_4.out x7_4 p135 q135; obtain rfl : ad134 = ad135 := (by injection e135); replace hx135_0 := cl HB hx135_0; replace p135 := eq_true p135; replace q135 := eq_true q135; have p136 : 0 ≤ (x7_4 : Int) := od; have q136 : x7_4 < (l0_4.length : Int) := od; obtain ⟨ad136, e136, hx136_0⟩ := Kd.at_int HR0_4.out x7_4 p136 q136; obtain rfl : ad134 = ad136 := (by injection e136); replace hx136_0 := cl HB hx136_0; replace p136 := eq_true p136; replace q136 := eq_true q136; have p137 : 0 ≤ ((ji31) : Int) := od; have q137 : (ji31) < (l0_4.length : Int) := od; obtain ⟨ad137, e137, hx137_0⟩ := Kd.at_int HR0_4.out (ji31) p137 q137; obtain rfl : ad134 = ad137 := (by injection e137); replace hx137_0 := cl HB hx137_0; replace p137 := eq_true p137; replace q137 := eq_true q137
                    go_wp2
                    repeat (go_quiet (fail); try go_wp2)
                    go_roundg k4
                    case measure => have := HJ3.out; have := HJ14.out; have := HJ19.out; have := HK4.out; omega
                    case rel => exact ⟨(wrap64 (x7_4 + 1)), jz, H', ⟨by have := HJ3.out; have := HJ14.out; have := HJ19.out; have := HK4.out; omega⟩, ⟨kz⟩, ⟨bz⟩⟩
                  ·rw [if_neg c33] at H
                   exact absurd H (by simp)
                 ·rw [if_neg c32] at H
                  exact absurd H (by simp)
                ·rw [if_neg c30] at H; have c30b0 : decide (0 < x7_4) = false := decide_eq_false c30; clear c30; have H' := Aside0.mk H; clear H; have hcz37_0 : wr.cell? ⟨gb130, 0, none⟩ = some (.int .i64 a0_0) := ct BK130 0; have hcz37_1 : wr.cell? ⟨gb130, 1, none⟩ = some (.int .i64 a0_1) := ct BK130 1; have hcz37_2 : wr.cell? ⟨gb130, 2, none⟩ = some (.int .i64 a0_2) := ct BK130 2; have hcz37_3 : wr.cell? ⟨gb130, 3, none⟩ = some (.bool a0_3) := ct BK130 3; have hcz37_4 : wr.cell? ⟨gb130, 4, none⟩ = some (.slice A0_4 l0_4.length c0_4) := ct BK130 4; have hcz37_5 : wr.cell? ⟨gb130, 5, none⟩ = some (.slice A0_5 l0_5.length c0_5) := ct BK130 5; have hfz37_0 := blk_frozen BK130.out 0; have hfz37_1 := blk_frozen BK130.out 1; have hfz37_2 := blk_frozen BK130.out 2; have hfz37_3 := blk_frozen BK130.out 3; have hfz37_4 := blk_frozen BK130.out 4; have hfz37_5 := blk_frozen BK130.out 5; have p134 : 0 ≤ (x7_4 : Int) := od; have q134 : x7_4 < (l0_4.length : Int) := od; obtain ⟨ad134, e134, hx134_0⟩ := Kd.at_int HR0_4.out x7_4 p134 q134
                 cases e134
                 replace hx134_0 := cl HB hx134_0; replace p134 := eq_true p134; replace q134 := eq_true q134; have p135 : 0 ≤ (x7_4 : Int) := od; have q135 : x7_4 < (l0_4.length : Int) := od; obtain ⟨ad135, e135, hx135_0⟩ := Kd.at_int HR0_4.out x7_4 p135 q135; obtain rfl : ad134 = ad135 := (by injection e135); replace hx135_0 := cl HB hx135_0; replace p135 := eq_true p135; replace q135 := eq_true q135
                 go_wp2
                 repeat (go_quiet (fail); try go_wp2)
                 go_roundg k4
                 case measure => have := HJ3.out; have := HJ14.out; have := HJ19.out; have := HK4.out; omega
                 case rel => exact ⟨(wrap64 (x7_4 + 1)), jz, H', ⟨by have := HJ3.out; have := HJ14.out; have := HJ19.out; have := HK4.out; omega⟩, ⟨kz⟩, ⟨bz⟩⟩
             ·rw [if_neg c25] at H
              exact absurd H (by simp)
            ·rw [if_neg c24] at H; have c24b0 : decide (x7_4 < (l0_4.length : Int)) = false := decide_eq_false c24; clear c24
             by_cases c38 : a0_3 = true
             ·subst c38; rw [if_pos rfl] at H
              by_cases c39 : (l0_4.length : Int) > 0
              ·rw [if_pos c39] at H; have c39b0 : decide (0 < (l0_4.length : Int)) = true := decide_eq_true c39; have c39b1 : decide (0 < l0_4.length) = true := decide_eq_true (by omega); clear c39; obtain rfl := Option.some.inj H; have hcz40_0 : wr.cell? ⟨gb130, 0, none⟩ = some (.int .i64 a0_0) := ct BK130 0; have hcz40_1 : wr.cell? ⟨gb130, 1, none⟩ = some (.int .i64 a0_1) := ct BK130 1; have hcz40_2 : wr.cell? ⟨gb130, 2, none⟩ = some (.int .i64 a0_2) := ct BK130 2; have hcz40_3 : wr.cell? ⟨gb130, 3, none⟩ = some (.bool true) := ct BK130 3; have hcz40_4 : wr.cell? ⟨gb130, 4, none⟩ = some (.slice A0_4 l0_4.length c0_4) := ct BK130 4; have hcz40_5 : wr.cell? ⟨gb130, 5, none⟩ = some (.slice A0_5 l0_5.length c0_5) := ct BK130 5; have hfz40_0 := blk_frozen BK130.out 0; have hfz40_1 := blk_frozen BK130.out 1; have hfz40_2 := blk_frozen BK130.out 2; have hfz40_3 := blk_frozen BK130.out 3; have hfz40_4 := blk_frozen BK130.out 4; have hfz40_5 := blk_frozen BK130.out 5
               go_wp2
               repeat (go_quiet (fail); try go_wp2)
               go_ret
               exact ⟨ez, bz⟩
              ·rw [if_neg c39] at H; have c39b0 : decide (0 < (l0_4.length : Int)) = false := decide_eq_false c39; have c39b1 : decide (0 < l0_4.length) = false := decide_eq_false (by omega); clear c39; obtain rfl := Option.some.inj H; have hcz41_0 : wr.cell? ⟨gb130, 0, none⟩ = some (.int .i64 a0_0) := ct BK130 0; have hcz41_1 : wr.cell? ⟨gb130, 1, none⟩ = some (.int .i64 a0_1) := ct BK130 1; have hcz41_2 : wr.cell? ⟨gb130, 2, none⟩ = some (.int .i64 a0_2) := ct BK130 2; have hcz41_3 : wr.cell? ⟨gb130, 3, none⟩ = some (.bool true) := ct BK130 3; have hcz41_4 : wr.cell? ⟨gb130, 4, none⟩ = some (.slice A0_4 l0_4.length c0_4) := ct BK130 4; have hcz41_5 : wr.cell? ⟨gb130, 5, none⟩ = some (.slice A0_5 l0_5.length c0_5) := ct BK130 5; have hfz41_0 := blk_frozen BK130.out 0; have hfz41_1 := blk_frozen BK130.out 1; have hfz41_2 := blk_frozen BK130.out 2; have hfz41_3 := blk_frozen BK130.out 3; have hfz41_4 := blk_frozen BK130.out 4; have hfz41_5 := blk_frozen BK130.out 5
               go_wp2
               repeat (go_quiet (fail); try go_wp2)
               go_ret
               exact ⟨ez, bz⟩
             ·obtain rfl := bf c38; rw [if_neg (show ¬ (false = true) by decide)] at H; obtain rfl := Option.some.inj H; have hcz42_0 : wr.cell? ⟨gb130, 0, none⟩ = some (.int .i64 a0_0) := ct BK130 0; have hcz42_1 : wr.cell? ⟨gb130, 1, none⟩ = some (.int .i64 a0_1) := ct BK130 1; have hcz42_2 : wr.cell? ⟨gb130, 2, none⟩ = some (.int .i64 a0_2) := ct BK130 2; have hcz42_3 : wr.cell? ⟨gb130, 3, none⟩ = some (.bool false) := ct BK130 3; have hcz42_4 : wr.cell? ⟨gb130, 4, none⟩ = some (.slice A0_4 l0_4.length c0_4) := ct BK130 4; have hcz42_5 : wr.cell? ⟨gb130, 5, none⟩ = some (.slice A0_5 l0_5.length c0_5) := ct BK130 5; have hfz42_0 := blk_frozen BK130.out 0; have hfz42_1 := blk_frozen BK130.out 1; have hfz42_2 := blk_frozen BK130.out 2; have hfz42_3 := blk_frozen BK130.out 3; have hfz42_4 := blk_frozen BK130.out 4; have hfz42_5 := blk_frozen BK130.out 5
              go_wp2
              repeat (go_quiet (fail); try go_wp2)
              go_ret
              exact ⟨ez, bz⟩
mutual
def dioramaref03_CheckTrack.j0 : Nat → Bool → Int → Int → ByteArray → Int → List Int → ByteArray → ByteArray → Int → List (S86) → List (S68) → List (S51) → Option (Int)
  | 0, _, _, _, _, _, _, _, _, _, _, _, _ => none
  | k + 1, x30, x139000, x139001, x139002, x139003, x139004, x139005, x139006, x139007, x139008, x139009, x139010 => if x30 = true then (some 2) else ((dioramaref03_edits.f k x139008).bind fun t140 => (if t140 = true then (dioramaref03_CheckTrack.l0 k 0 0 x139000 x139001 x139002 x139003 x139004 x139005 x139006 x139007 x139008 x139009 x139010) else (some 33)))
def dioramaref03_CheckTrack.l0 : Nat → Int → Int → Int → Int → ByteArray → Int → List Int → ByteArray → ByteArray → Int → List (S86) → List (S68) → List (S51) → Option (Int)
  | 0, _, _, _, _, _, _, _, _, _, _, _, _, _ => none
  | k + 1, x3, x4, x139000, x139001, x139002, x139003, x139004, x139005, x139006, x139007, x139008, x139009, x139010 => if x4 < (x139010.length : Int) then (if 0 ≤ x4 then ((dioramaref03_sample.f k ((rd_T51 x139010 x4).f0) ((rd_T51 x139010 x4).f1) ((rd_T51 x139010 x4).f2) ((rd_T51 x139010 x4).f3) ((rd_T51 x139010 x4).f4) ((rd_T51 x139010 x4).f5) x4 x3).bind fun t142 => (if t142 = 0 then (dioramaref03_CheckTrack.l0 k ((rd_T51 x139010 x4).f0) (wrap64 (x4 + 1)) x139000 x139001 x139002 x139003 x139004 x139005 x139006 x139007 x139008 x139009 x139010) else (some t142))) else (none)) else (some 0)
end
def dioramaref03_CheckTrack.f (k : Nat) (a0_0 : Int) (a0_1 : Int) (a0_2 : ByteArray) (a0_3 : Int) (l0_4 : List Int) (a0_5 : ByteArray) (a0_6 : ByteArray) (a0_7 : Int) (l0_8 : List (S86)) (l0_9 : List (S68)) (l0_10 : List (S51)) : Option (Int) := (dioramaref03_fields.f k a0_0 a0_1 a0_2 a0_3 l0_4 a0_5 a0_6 a0_7 l0_8 l0_9 l0_10).bind fun t139 => (if t139 = true then (if (l0_4.length : Int) > 1000 then (dioramaref03_CheckTrack.j0 k true a0_0 a0_1 a0_2 a0_3 l0_4 a0_5 a0_6 a0_7 l0_8 l0_9 l0_10) else (if (l0_8.length : Int) > 20 then (dioramaref03_CheckTrack.j0 k true a0_0 a0_1 a0_2 a0_3 l0_4 a0_5 a0_6 a0_7 l0_8 l0_9 l0_10) else (if (l0_9.length : Int) > 8 then (dioramaref03_CheckTrack.j0 k true a0_0 a0_1 a0_2 a0_3 l0_4 a0_5 a0_6 a0_7 l0_8 l0_9 l0_10) else (dioramaref03_CheckTrack.j0 k (decide ((l0_10.length : Int) > 400)) a0_0 a0_1 a0_2 a0_3 l0_4 a0_5 a0_6 a0_7 l0_8 l0_9 l0_10)))) else (some 1))
set_option maxHeartbeats 8000000 in
set_option maxRecDepth 100000 in
theorem dioramaref03_CheckTrack.calls (k : Nat) (a0_0 : Int) (a0_1 : Int) (a0_2 : ByteArray) (a0_3 : Int) (A0_4 : Option Addr) (c0_4 : Nat) (l0_4 : List Int) (a0_5 : ByteArray) (a0_6 : ByteArray) (a0_7 : Int) (A0_8 : Option Addr) (c0_8 : Nat) (l0_8 : List (S86)) (A0_9 : Option Addr) (c0_9 : Nat) (l0_9 : List (S68)) (A0_10 : Option Addr) (c0_10 : Nat) (l0_10 : List (S51)) (r : Int) (w : World) (hr0_4 : Kd.C (Kd.int .u8) w A0_4 l0_4.length l0_4) (hc0_4 : l0_4.length ≤ c0_4) (hr0_8 : Kd.C k86 w A0_8 l0_8.length l0_8) (hc0_8 : l0_8.length ≤ c0_8) (hr0_9 : Kd.C k68 w A0_9 l0_9.length l0_9) (hc0_9 : l0_9.length ≤ c0_9) (hr0_10 : Kd.C k51 w A0_10 l0_10.length l0_10) (hc0_10 : l0_10.length ≤ c0_10) (h : dioramaref03_CheckTrack.f k a0_0 a0_1 a0_2 a0_3 l0_4 a0_5 a0_6 a0_7 l0_8 l0_9 l0_10 = some r) :
  Calls Try.prog 21 #[.agg #[.int .i64 a0_0, .int .i64 a0_1, .string a0_2, .int .i64 a0_3, .slice A0_4 l0_4.length c0_4, .string a0_5, .string a0_6, .int .i64 a0_7, .slice A0_8 l0_8.length c0_8, .slice A0_9 l0_9.length c0_9, .slice A0_10 l0_10.length c0_10]] w fun e w' => e = .returned (.int .i64 r) ∧ Below w.heap.size w w' := by
 have hu40 := Try.underlying40; have hu51 := Try.underlying51; have HR0_4 := Aside0.mk hr0_4; have HC0_4 := Aside0.mk hc0_4; clear hr0_4 hc0_4; have HR0_8 := Aside0.mk hr0_8; have HC0_8 := Aside0.mk hc0_8; clear hr0_8 hc0_8; have HR0_9 := Aside0.mk hr0_9; have HC0_9 := Aside0.mk hc0_9; clear hr0_9 hc0_9; have HR0_10 := Aside0.mk hr0_10; have HC0_10 := Aside0.mk hc0_10; clear hr0_10 hc0_10; have HB := Aside0.mk (Below.refl w.heap.size w); have H : ((dioramaref03_fields.f k a0_0 a0_1 a0_2 a0_3 l0_4 a0_5 a0_6 a0_7 l0_8 l0_9 l0_10).bind fun t139 => (if t139 = true then (if (l0_4.length : Int) > 1000 then (dioramaref03_CheckTrack.j0 k true a0_0 a0_1 a0_2 a0_3 l0_4 a0_5 a0_6 a0_7 l0_8 l0_9 l0_10) else (if (l0_8.length : Int) > 20 then (dioramaref03_CheckTrack.j0 k true a0_0 a0_1 a0_2 a0_3 l0_4 a0_5 a0_6 a0_7 l0_8 l0_9 l0_10) else (if (l0_9.length : Int) > 8 then (dioramaref03_CheckTrack.j0 k true a0_0 a0_1 a0_2 a0_3 l0_4 a0_5 a0_6 a0_7 l0_8 l0_9 l0_10) else (dioramaref03_CheckTrack.j0 k (decide ((l0_10.length : Int) > 400)) a0_0 a0_1 a0_2 a0_3 l0_4 a0_5 a0_6 a0_7 l0_8 l0_9 l0_10)))) else (some 1))) = some r := h
 clear h; obtain ⟨t139, A2, H⟩ := ob H
 by_cases c3 : t139 = true
 ·subst c3; rw [if_pos rfl] at H; have HC4 := Aside0.mk H; clear H
  go_enter Try.func21, Try.ntmps21
  go_upto_region 3 with (first | ((with_reducible refine gate_dst (N := 1) rfl ?_); refine zB 1 40 #[.int .i64 a0_0, .int .i64 a0_1, .string a0_2, .int .i64 a0_3, .slice A0_4 l0_4.length c0_4, .string a0_5, .string a0_6, .int .i64 a0_7, .slice A0_8 l0_8.length c0_8, .slice A0_9 l0_9.length c0_9, .slice A0_10 l0_10.length c0_10] ?_; intro gb138 hg w5 hbox hb; have BK138 := Aside0.mk hbox; have GW138 := gz hg; have GE138 := gz hg; replace HB := bp hb; clear hb hbox hg; have hcz6_0 : w5.cell? ⟨gb138, 0, none⟩ = some (.int .i64 a0_0) := ct BK138 0; have hcz6_1 : w5.cell? ⟨gb138, 1, none⟩ = some (.int .i64 a0_1) := ct BK138 1; have hcz6_2 : w5.cell? ⟨gb138, 2, none⟩ = some (.string a0_2) := ct BK138 2; have hcz6_3 : w5.cell? ⟨gb138, 3, none⟩ = some (.int .i64 a0_3) := ct BK138 3; have hcz6_4 : w5.cell? ⟨gb138, 4, none⟩ = some (.slice A0_4 l0_4.length c0_4) := ct BK138 4; have hcz6_5 : w5.cell? ⟨gb138, 5, none⟩ = some (.string a0_5) := ct BK138 5; have hcz6_6 : w5.cell? ⟨gb138, 6, none⟩ = some (.string a0_6) := ct BK138 6; have hcz6_7 : w5.cell? ⟨gb138, 7, none⟩ = some (.int .i64 a0_7) := ct BK138 7; have hcz6_8 : w5.cell? ⟨gb138, 8, none⟩ = some (.slice A0_8 l0_8.length c0_8) := ct BK138 8; have hcz6_9 : w5.cell? ⟨gb138, 9, none⟩ = some (.slice A0_9 l0_9.length c0_9) := ct BK138 9; have hcz6_10 : w5.cell? ⟨gb138, 10, none⟩ = some (.slice A0_10 l0_10.length c0_10) := ct BK138 10; have hfz6_0 := blk_frozen BK138.out 0; have hfz6_1 := blk_frozen BK138.out 1; have hfz6_2 := blk_frozen BK138.out 2; have hfz6_3 := blk_frozen BK138.out 3; have hfz6_4 := blk_frozen BK138.out 4; have hfz6_5 := blk_frozen BK138.out 5; have hfz6_6 := blk_frozen BK138.out 6; have hfz6_7 := blk_frozen BK138.out 7; have hfz6_8 := blk_frozen BK138.out 8; have hfz6_9 := blk_frozen BK138.out 9; have hfz6_10 := blk_frozen BK138.out 10) | ((with_reducible refine gate_callee (f := 46) rfl ?_); refine zC 7 Try.func46 #[.agg #[.int .i64 a0_0, .int .i64 a0_1, .string a0_2, .int .i64 a0_3, .slice A0_4 l0_4.length c0_4, .string a0_5, .string a0_6, .int .i64 a0_7, .slice A0_8 l0_8.length c0_8, .slice A0_9 l0_9.length c0_9, .slice A0_10 l0_10.length c0_10]] ?_; (with_reducible refine (dioramaref03_fields.calls k a0_0 a0_1 a0_2 a0_3 _ _ l0_4 a0_5 a0_6 a0_7 _ _ l0_8 _ _ l0_9 _ _ l0_10 true _ ?side1 ?side2 ?side3 ?side4 ?side5 ?side6 ?side7 ?side8 A2.out).mono ?_); (case side1 => exact cz HR0_4); (case side2 => exact HC0_4.out); (case side3 => exact cz HR0_8); (case side4 => exact HC0_8.out); (case side5 => exact cz HR0_9); (case side6 => exact HC0_9.out); (case side7 => exact cz HR0_10); (case side8 => exact HC0_10.out); rintro e w7 ⟨rfl, hb⟩; refine ⟨_, rfl, ?_⟩; replace BK138 := kb BK138 hb; replace HB := bp hb; clear hb))
  (try simp only [Act.put, List.setIfInBounds_toArray, List.set_cons_zero, List.set_cons_succ])
  go_cut [30] (fun v30 wc => ∃ (kq : Nat) (x30_3 : Bool), v30 = .bool x30_3 ∧ Aside0 (dioramaref03_CheckTrack.j0 kq x30_3 a0_0 a0_1 a0_2 a0_3 l0_4 a0_5 a0_6 a0_7 l0_8 l0_9 l0_10 = some r) ∧ Aside0 (kq ≤ k) ∧ Aside0 (wc.heap[gb138]? = some (.cells #[.int .i64 a0_0, .int .i64 a0_1, .string a0_2, .int .i64 a0_3, (.slice A0_4 l0_4.length c0_4), .string a0_5, .string a0_6, .int .i64 a0_7, (.slice A0_8 l0_8.length c0_8), (.slice A0_9 l0_9.length c0_9), (.slice A0_10 l0_10.length c0_10)] 40 (0, 0))) ∧ Aside0 (Below w.heap.size w wc))
  case first =>
   have H := HC4.out; clear HC4
   by_cases c8 : (l0_4.length : Int) > 1000
   ·rw [if_pos c8] at H; have c8b0 : decide (1000 < (l0_4.length : Int)) = true := decide_eq_true c8; have c8b1 : decide (1000 < l0_4.length) = true := decide_eq_true (by omega); clear c8
    (first | rw [c8b0] | (simp only [i64_w, i32_w]; rw [c8b0]) | skip)
    have H' := Aside0.mk H; clear H; have hcz9_0 : w7.cell? ⟨gb138, 0, none⟩ = some (.int .i64 a0_0) := ct BK138 0; have hcz9_1 : w7.cell? ⟨gb138, 1, none⟩ = some (.int .i64 a0_1) := ct BK138 1; have hcz9_2 : w7.cell? ⟨gb138, 2, none⟩ = some (.string a0_2) := ct BK138 2; have hcz9_3 : w7.cell? ⟨gb138, 3, none⟩ = some (.int .i64 a0_3) := ct BK138 3; have hcz9_4 : w7.cell? ⟨gb138, 4, none⟩ = some (.slice A0_4 l0_4.length c0_4) := ct BK138 4; have hcz9_5 : w7.cell? ⟨gb138, 5, none⟩ = some (.string a0_5) := ct BK138 5; have hcz9_6 : w7.cell? ⟨gb138, 6, none⟩ = some (.string a0_6) := ct BK138 6; have hcz9_7 : w7.cell? ⟨gb138, 7, none⟩ = some (.int .i64 a0_7) := ct BK138 7; have hcz9_8 : w7.cell? ⟨gb138, 8, none⟩ = some (.slice A0_8 l0_8.length c0_8) := ct BK138 8; have hcz9_9 : w7.cell? ⟨gb138, 9, none⟩ = some (.slice A0_9 l0_9.length c0_9) := ct BK138 9; have hcz9_10 : w7.cell? ⟨gb138, 10, none⟩ = some (.slice A0_10 l0_10.length c0_10) := ct BK138 10; have hfz9_0 := blk_frozen BK138.out 0; have hfz9_1 := blk_frozen BK138.out 1; have hfz9_2 := blk_frozen BK138.out 2; have hfz9_3 := blk_frozen BK138.out 3; have hfz9_4 := blk_frozen BK138.out 4; have hfz9_5 := blk_frozen BK138.out 5; have hfz9_6 := blk_frozen BK138.out 6; have hfz9_7 := blk_frozen BK138.out 7; have hfz9_8 := blk_frozen BK138.out 8; have hfz9_9 := blk_frozen BK138.out 9; have hfz9_10 := blk_frozen BK138.out 10
    go_wp2
    go_meet
    case rel => exact ⟨_, (true), jz, H', ⟨by first | omega | exact Nat.le_refl _⟩, ⟨kz⟩, ⟨bz⟩⟩
   ·rw [if_neg c8] at H; have c8b0 : decide (1000 < (l0_4.length : Int)) = false := decide_eq_false c8; have c8b1 : decide (1000 < l0_4.length) = false := decide_eq_false (by omega); clear c8
    (first | rw [c8b0] | (simp only [i64_w, i32_w]; rw [c8b0]) | skip)
    by_cases c10 : (l0_8.length : Int) > 20
    ·rw [if_pos c10] at H; have c10b0 : decide (20 < (l0_8.length : Int)) = true := decide_eq_true c10; have c10b1 : decide (20 < l0_8.length) = true := decide_eq_true (by omega); clear c10; have H' := Aside0.mk H; clear H; have hcz11_0 : w7.cell? ⟨gb138, 0, none⟩ = some (.int .i64 a0_0) := ct BK138 0; have hcz11_1 : w7.cell? ⟨gb138, 1, none⟩ = some (.int .i64 a0_1) := ct BK138 1; have hcz11_2 : w7.cell? ⟨gb138, 2, none⟩ = some (.string a0_2) := ct BK138 2; have hcz11_3 : w7.cell? ⟨gb138, 3, none⟩ = some (.int .i64 a0_3) := ct BK138 3; have hcz11_4 : w7.cell? ⟨gb138, 4, none⟩ = some (.slice A0_4 l0_4.length c0_4) := ct BK138 4; have hcz11_5 : w7.cell? ⟨gb138, 5, none⟩ = some (.string a0_5) := ct BK138 5; have hcz11_6 : w7.cell? ⟨gb138, 6, none⟩ = some (.string a0_6) := ct BK138 6; have hcz11_7 : w7.cell? ⟨gb138, 7, none⟩ = some (.int .i64 a0_7) := ct BK138 7; have hcz11_8 : w7.cell? ⟨gb138, 8, none⟩ = some (.slice A0_8 l0_8.length c0_8) := ct BK138 8; have hcz11_9 : w7.cell? ⟨gb138, 9, none⟩ = some (.slice A0_9 l0_9.length c0_9) := ct BK138 9; have hcz11_10 : w7.cell? ⟨gb138, 10, none⟩ = some (.slice A0_10 l0_10.length c0_10) := ct BK138 10; have hfz11_0 := blk_frozen BK138.out 0; have hfz11_1 := blk_frozen BK138.out 1; have hfz11_2 := blk_frozen BK138.out 2; have hfz11_3 := blk_frozen BK138.out 3; have hfz11_4 := blk_frozen BK138.out 4; have hfz11_5 := blk_frozen BK138.out 5; have hfz11_6 := blk_frozen BK138.out 6; have hfz11_7 := blk_frozen BK138.out 7; have hfz11_8 := blk_frozen BK138.out 8; have hfz11_9 := blk_frozen BK138.out 9; have hfz11_10 := blk_frozen BK138.out 10
     go_wp2
     go_meet
     case rel => exact ⟨_, (true), jz, H', ⟨by first | omega | exact Nat.le_refl _⟩, ⟨kz⟩, ⟨bz⟩⟩
    ·rw [if_neg c10] at H; have c10b0 : decide (20 < (l0_8.length : Int)) = false := decide_eq_false c10; have c10b1 : decide (20 < l0_8.length) = false := decide_eq_false (by omega); clear c10
     by_cases c12 : (l0_9.length : Int) > 8
     ·rw [if_pos c12] at H; have c12b0 : decide (8 < (l0_9.length : Int)) = true := decide_eq_true c12; have c12b1 : decide (8 < l0_9.length) = true := decide_eq_true (by omega); clear c12; have H' := Aside0.mk H; clear H; have hcz13_0 : w7.cell? ⟨gb138, 0, none⟩ = some (.int .i64 a0_0) := ct BK138 0; have hcz13_1 : w7.cell? ⟨gb138, 1, none⟩ = some (.int .i64 a0_1) := ct BK138 1; have hcz13_2 : w7.cell? ⟨gb138, 2, none⟩ = some (.string a0_2) := ct BK138 2; have hcz13_3 : w7.cell? ⟨gb138, 3, none⟩ = some (.int .i64 a0_3) := ct BK138 3; have hcz13_4 : w7.cell? ⟨gb138, 4, none⟩ = some (.slice A0_4 l0_4.length c0_4) := ct BK138 4; have hcz13_5 : w7.cell? ⟨gb138, 5, none⟩ = some (.string a0_5) := ct BK138 5; have hcz13_6 : w7.cell? ⟨gb138, 6, none⟩ = some (.string a0_6) := ct BK138 6; have hcz13_7 : w7.cell? ⟨gb138, 7, none⟩ = some (.int .i64 a0_7) := ct BK138 7; have hcz13_8 : w7.cell? ⟨gb138, 8, none⟩ = some (.slice A0_8 l0_8.length c0_8) := ct BK138 8; have hcz13_9 : w7.cell? ⟨gb138, 9, none⟩ = some (.slice A0_9 l0_9.length c0_9) := ct BK138 9; have hcz13_10 : w7.cell? ⟨gb138, 10, none⟩ = some (.slice A0_10 l0_10.length c0_10) := ct BK138 10; have hfz13_0 := blk_frozen BK138.out 0; have hfz13_1 := blk_frozen BK138.out 1; have hfz13_2 := blk_frozen BK138.out 2; have hfz13_3 := blk_frozen BK138.out 3; have hfz13_4 := blk_frozen BK138.out 4; have hfz13_5 := blk_frozen BK138.out 5; have hfz13_6 := blk_frozen BK138.out 6; have hfz13_7 := blk_frozen BK138.out 7; have hfz13_8 := blk_frozen BK138.out 8; have hfz13_9 := blk_frozen BK138.out 9; have hfz13_10 := blk_frozen BK138.out 10
      go_wp2
      go_meet
      case rel => exact ⟨_, (true), jz, H', ⟨by first | omega | exact Nat.le_refl _⟩, ⟨kz⟩, ⟨bz⟩⟩
     ·rw [if_neg c12] at H; have c12b0 : decide (8 < (l0_9.length : Int)) = false := decide_eq_false c12; have c12b1 : decide (8 < l0_9.length) = false := decide_eq_false (by omega); clear c12; have H' := Aside0.mk H; clear H; have hcz14_0 : w7.cell? ⟨gb138, 0, none⟩ = some (.int .i64 a0_0) := ct BK138 0; have hcz14_1 : w7.cell? ⟨gb138, 1, none⟩ = some (.int .i64 a0_1) := ct BK138 1; have hcz14_2 : w7.cell? ⟨gb138, 2, none⟩ = some (.string a0_2) := ct BK138 2; have hcz14_3 : w7.cell? ⟨gb138, 3, none⟩ = some (.int .i64 a0_3) := ct BK138 3; have hcz14_4 : w7.cell? ⟨gb138, 4, none⟩ = some (.slice A0_4 l0_4.length c0_4) := ct BK138 4; have hcz14_5 : w7.cell? ⟨gb138, 5, none⟩ = some (.string a0_5) := ct BK138 5; have hcz14_6 : w7.cell? ⟨gb138, 6, none⟩ = some (.string a0_6) := ct BK138 6; have hcz14_7 : w7.cell? ⟨gb138, 7, none⟩ = some (.int .i64 a0_7) := ct BK138 7; have hcz14_8 : w7.cell? ⟨gb138, 8, none⟩ = some (.slice A0_8 l0_8.length c0_8) := ct BK138 8; have hcz14_9 : w7.cell? ⟨gb138, 9, none⟩ = some (.slice A0_9 l0_9.length c0_9) := ct BK138 9; have hcz14_10 : w7.cell? ⟨gb138, 10, none⟩ = some (.slice A0_10 l0_10.length c0_10) := ct BK138 10; have hfz14_0 := blk_frozen BK138.out 0; have hfz14_1 := blk_frozen BK138.out 1; have hfz14_2 := blk_frozen BK138.out 2; have hfz14_3 := blk_frozen BK138.out 3; have hfz14_4 := blk_frozen BK138.out 4; have hfz14_5 := blk_frozen BK138.out 5; have hfz14_6 := blk_frozen BK138.out 6; have hfz14_7 := blk_frozen BK138.out 7; have hfz14_8 := blk_frozen BK138.out 8; have hfz14_9 := blk_frozen BK138.out 9; have hfz14_10 := blk_frozen BK138.out 10
      go_wp2
      go_meet
      case rel => exact ⟨_, (decide ((l0_10.length : Int) > 400)), jz, H', ⟨by first | omega | exact Nat.le_refl _⟩, ⟨kz⟩, ⟨bz⟩⟩
  case rest =>
   clear HC4
   try clear c1
   try clear c2
   try clear p2
   try clear c3
   try clear c4
   try clear c8
   try clear c8b0
   try clear c8b1
   try clear c10
   try clear c10b0
   try clear c10b1
   try clear c12
   try clear c12b0
   try clear c12b1
   try clear hcz11_0
   try clear hcz11_1
   try clear hcz11_10
   try clear hcz11_2
   try clear hcz11_3
   try clear hcz11_4
   try clear hcz11_5
   try clear hcz11_6
   try clear hcz11_7
   try clear hcz11_8
   try clear hcz11_9
   try clear hcz13_0
   try clear hcz13_1
   try clear hcz13_10
   try clear hcz13_2
   try clear hcz13_3
   try clear hcz13_4
   try clear hcz13_5
   try clear hcz13_6
   try clear hcz13_7
   try clear hcz13_8
   try clear hcz13_9
   try clear hcz14_0
   try clear hcz14_1
   try clear hcz14_10
   try clear hcz14_2
   try clear hcz14_3
   try clear hcz14_4
   try clear hcz14_5
   try clear hcz14_6
   try clear hcz14_7
   try clear hcz14_8
   try clear hcz14_9
   try clear hcz6_0
   try clear hcz6_1
   try clear hcz6_10
   try clear hcz6_2
   try clear hcz6_3
   try clear hcz6_4
   try clear hcz6_5
   try clear hcz6_6
   try clear hcz6_7
   try clear hcz6_8
   try clear hcz6_9
   try clear hcz9_0
   try clear hcz9_1
   try clear hcz9_10
   try clear hcz9_2
   try clear hcz9_3
   try clear hcz9_4
   try clear hcz9_5
   try clear hcz9_6
   try clear hcz9_7
   try clear hcz9_8
   try clear hcz9_9
   try clear hfz11_0
   try clear hfz11_1
   try clear hfz11_10
   try clear hfz11_2
   try clear hfz11_3
   try clear hfz11_4
   try clear hfz11_5
   try clear hfz11_6
   try clear hfz11_7
   try clear hfz11_8
   try clear hfz11_9
   try clear hfz13_0
   try clear hfz13_1
   try clear hfz13_10
   try clear hfz13_2
   try clear hfz13_3
   try clear hfz13_4
   try clear hfz13_5
   try clear hfz13_6
   try clear hfz13_7
   try clear hfz13_8
   try clear hfz13_9
   try clear hfz14_0
   try clear hfz14_1
   try clear hfz14_10
   try clear hfz14_2
   try clear hfz14_3
   try clear hfz14_4
   try clear hfz14_5
   try clear hfz14_6
   try clear hfz14_7
   try clear hfz14_8
   try clear hfz14_9
   try clear hfz6_0
   try clear hfz6_1
   try clear hfz6_10
   try clear hfz6_2
   try clear hfz6_3
   try clear hfz6_4
   try clear hfz6_5
   try clear hfz6_6
   try clear hfz6_7
   try clear hfz6_8
   try clear hfz6_9
   try clear hfz9_0
   try clear hfz9_1
   try clear hfz9_10
   try clear hfz9_2
   try clear hfz9_3
   try clear hfz9_4
   try clear hfz9_5
   try clear hfz9_6
   try clear hfz9_7
   try clear hfz9_8
   try clear hfz9_9
   obtain ⟨kq, x30_3, rfl, HA, HJ3, BK138, HB⟩ := hcut
   cases kq with
   | zero => exact absurd HA.out (by simp [dioramaref03_CheckTrack.j0])
   | succ kj3 =>
    have H := HA.out; clear HA; simp only [dioramaref03_CheckTrack.j0] at H
    by_cases c15 : x30_3 = true
    ·subst c15; rw [if_pos rfl] at H; obtain rfl := Option.some.inj H
     go_wp2
     go_ret
     exact ⟨ez, bz⟩
    ·obtain rfl := bf c15; rw [if_neg (show ¬ (false = true) by decide)] at H; obtain ⟨t140, A16, H⟩ := ob H
     by_cases c17 : t140 = true
     ·subst c17; rw [if_pos rfl] at H; have H' := Aside0.mk H; clear H; have hcz18_0 : wc.cell? ⟨gb138, 0, none⟩ = some (.int .i64 a0_0) := ct BK138 0; have hcz18_1 : wc.cell? ⟨gb138, 1, none⟩ = some (.int .i64 a0_1) := ct BK138 1; have hcz18_2 : wc.cell? ⟨gb138, 2, none⟩ = some (.string a0_2) := ct BK138 2; have hcz18_3 : wc.cell? ⟨gb138, 3, none⟩ = some (.int .i64 a0_3) := ct BK138 3; have hcz18_4 : wc.cell? ⟨gb138, 4, none⟩ = some (.slice A0_4 l0_4.length c0_4) := ct BK138 4; have hcz18_5 : wc.cell? ⟨gb138, 5, none⟩ = some (.string a0_5) := ct BK138 5; have hcz18_6 : wc.cell? ⟨gb138, 6, none⟩ = some (.string a0_6) := ct BK138 6; have hcz18_7 : wc.cell? ⟨gb138, 7, none⟩ = some (.int .i64 a0_7) := ct BK138 7; have hcz18_8 : wc.cell? ⟨gb138, 8, none⟩ = some (.slice A0_8 l0_8.length c0_8) := ct BK138 8; have hcz18_9 : wc.cell? ⟨gb138, 9, none⟩ = some (.slice A0_9 l0_9.length c0_9) := ct BK138 9; have hcz18_10 : wc.cell? ⟨gb138, 10, none⟩ = some (.slice A0_10 l0_10.length c0_10) := ct BK138 10; have hfz18_0 := blk_frozen BK138.out 0; have hfz18_1 := blk_frozen BK138.out 1; have hfz18_2 := blk_frozen BK138.out 2; have hfz18_3 := blk_frozen BK138.out 3; have hfz18_4 := blk_frozen BK138.out 4; have hfz18_5 := blk_frozen BK138.out 5; have hfz18_6 := blk_frozen BK138.out 6; have hfz18_7 := blk_frozen BK138.out 7; have hfz18_8 := blk_frozen BK138.out 8; have hfz18_9 := blk_frozen BK138.out 9; have hfz18_10 := blk_frozen BK138.out 10
      go_wp2_with (first | ((with_reducible refine gate_callee (f := 47) rfl ?_); refine zC 33 Try.func47 #[.slice A0_8 l0_8.length c0_8] ?_; (with_reducible refine (dioramaref03_edits.calls kj3 _ _ l0_8 true _ ?side1 ?side2 A16.out).mono ?_); (case side1 => exact cz HR0_8); (case side2 => exact HC0_8.out); rintro e w19 ⟨rfl, hb⟩; refine ⟨_, rfl, ?_⟩; replace BK138 := kb BK138 hb; replace HB := bp hb; clear hb))
      go_loopg [3, 4] kj3 (fun kq v3 v4 w' => ∃ (x3_2 : Int) (x4_2 : Int), v3 = .int .i64 x3_2 ∧ v4 = .int .i64 x4_2 ∧ Aside0 (dioramaref03_CheckTrack.l0 kq x3_2 x4_2 a0_0 a0_1 a0_2 a0_3 l0_4 a0_5 a0_6 a0_7 l0_8 l0_9 l0_10 = some r) ∧ Aside0 (kq ≤ kj3) ∧ Aside0 (w'.heap[gb138]? = some (.cells #[.int .i64 a0_0, .int .i64 a0_1, .string a0_2, .int .i64 a0_3, (.slice A0_4 l0_4.length c0_4), .string a0_5, .string a0_6, .int .i64 a0_7, (.slice A0_8 l0_8.length c0_8), (.slice A0_9 l0_9.length c0_9), (.slice A0_10 l0_10.length c0_10)] 40 (0, 0))) ∧ Aside0 (Below w.heap.size w w'))
      case atStart => exact ⟨(0), (0), jz, jz, H', ⟨Nat.le_refl _⟩, ⟨kz⟩, ⟨bz⟩⟩
      case round =>
       clear H'
       try clear c1
       try clear c2
       try clear p2
       try clear c3
       try clear c4
       try clear c8
       try clear c8b0
       try clear c8b1
       try clear c10
       try clear c10b0
       try clear c10b1
       try clear c12
       try clear c12b0
       try clear c12b1
       try clear c15
       try clear c17
       try clear hcz11_0
       try clear hcz11_1
       try clear hcz11_10
       try clear hcz11_2
       try clear hcz11_3
       try clear hcz11_4
       try clear hcz11_5
       try clear hcz11_6
       try clear hcz11_7
       try clear hcz11_8
       try clear hcz11_9
       try clear hcz13_0
       try clear hcz13_1
       try clear hcz13_10
       try clear hcz13_2
       try clear hcz13_3
       try clear hcz13_4
       try clear hcz13_5
       try clear hcz13_6
       try clear hcz13_7
       try clear hcz13_8
       try clear hcz13_9
       try clear hcz14_0
       try clear hcz14_1
       try clear hcz14_10
       try clear hcz14_2
       try clear hcz14_3
       try clear hcz14_4
       try clear hcz14_5
       try clear hcz14_6
       try clear hcz14_7
       try clear hcz14_8
       try clear hcz14_9
       try clear hcz18_0
       try clear hcz18_1
       try clear hcz18_10
       try clear hcz18_2
       try clear hcz18_3
       try clear hcz18_4
       try clear hcz18_5
       try clear hcz18_6
       try clear hcz18_7
       try clear hcz18_8
       try clear hcz18_9
       try clear hcz6_0
       try clear hcz6_1
       try clear hcz6_10
       try clear hcz6_2
       try clear hcz6_3
       try clear hcz6_4
       try clear hcz6_5
       try clear hcz6_6
       try clear hcz6_7
       try clear hcz6_8
       try clear hcz6_9
       try clear hcz9_0
       try clear hcz9_1
       try clear hcz9_10
       try clear hcz9_2
       try clear hcz9_3
       try clear hcz9_4
       try clear hcz9_5
       try clear hcz9_6
       try clear hcz9_7
       try clear hcz9_8
       try clear hcz9_9
       try clear hfz11_0
       try clear hfz11_1
       try clear hfz11_10
       try clear hfz11_2
       try clear hfz11_3
       try clear hfz11_4
       try clear hfz11_5
       try clear hfz11_6
       try clear hfz11_7
       try clear hfz11_8
       try clear hfz11_9
       try clear hfz13_0
       try clear hfz13_1
       try clear hfz13_10
       try clear hfz13_2
       try clear hfz13_3
       try clear hfz13_4
       try clear hfz13_5
       try clear hfz13_6
       try clear hfz13_7
       try clear hfz13_8
       try clear hfz13_9
       try clear hfz14_0
       try clear hfz14_1
       try clear hfz14_10
       try clear hfz14_2
       try clear hfz14_3
       try clear hfz14_4
       try clear hfz14_5
       try clear hfz14_6
       try clear hfz14_7
       try clear hfz14_8
       try clear hfz14_9
       try clear hfz18_0
       try clear hfz18_1
       try clear hfz18_10
       try clear hfz18_2
       try clear hfz18_3
       try clear hfz18_4
       try clear hfz18_5
       try clear hfz18_6
       try clear hfz18_7
       try clear hfz18_8
       try clear hfz18_9
       try clear hfz6_0
       try clear hfz6_1
       try clear hfz6_10
       try clear hfz6_2
       try clear hfz6_3
       try clear hfz6_4
       try clear hfz6_5
       try clear hfz6_6
       try clear hfz6_7
       try clear hfz6_8
       try clear hfz6_9
       try clear hfz9_0
       try clear hfz9_1
       try clear hfz9_10
       try clear hfz9_2
       try clear hfz9_3
       try clear hfz9_4
       try clear hfz9_5
       try clear hfz9_6
       try clear hfz9_7
       try clear hfz9_8
       try clear hfz9_9
       try clear p2
       obtain ⟨x3_2, x4_2, rfl, rfl, HA, HK2, BK138, HB⟩ := hrel
       cases gk with
       | zero => exact absurd HA.out (by simp [dioramaref03_CheckTrack.l0])
       | succ k2 =>
        have H := HA.out; clear HA; simp only [dioramaref03_CheckTrack.l0] at H
        by_cases c20 : x4_2 < (l0_10.length : Int)
        ·rw [if_pos c20] at H; have c20b0 : decide (x4_2 < (l0_10.length : Int)) = true := decide_eq_true c20; clear c20
         by_cases c21 : 0 ≤ x4_2
         ·rw [if_pos c21] at H; have c21b0 : decide (0 ≤ x4_2) = true := decide_eq_true c21; clear c21; obtain ⟨t142, A22, H⟩ := ob H
          by_cases c23 : t142 = 0
          ·rw [if_pos c23] at H; have c23b0 : (t142 == 0) = true := beq_iff_eq.mpr c23; have c23b1 : (t142 != 0) = false := bne_eq_false_iff_eq.mpr c23; clear c23; have H' := Aside0.mk H; clear H; have hcz24_0 : wr.cell? ⟨gb138, 0, none⟩ = some (.int .i64 a0_0) := ct BK138 0; have hcz24_1 : wr.cell? ⟨gb138, 1, none⟩ = some (.int .i64 a0_1) := ct BK138 1; have hcz24_2 : wr.cell? ⟨gb138, 2, none⟩ = some (.string a0_2) := ct BK138 2; have hcz24_3 : wr.cell? ⟨gb138, 3, none⟩ = some (.int .i64 a0_3) := ct BK138 3; have hcz24_4 : wr.cell? ⟨gb138, 4, none⟩ = some (.slice A0_4 l0_4.length c0_4) := ct BK138 4; have hcz24_5 : wr.cell? ⟨gb138, 5, none⟩ = some (.string a0_5) := ct BK138 5; have hcz24_6 : wr.cell? ⟨gb138, 6, none⟩ = some (.string a0_6) := ct BK138 6; have hcz24_7 : wr.cell? ⟨gb138, 7, none⟩ = some (.int .i64 a0_7) := ct BK138 7; have hcz24_8 : wr.cell? ⟨gb138, 8, none⟩ = some (.slice A0_8 l0_8.length c0_8) := ct BK138 8; have hcz24_9 : wr.cell? ⟨gb138, 9, none⟩ = some (.slice A0_9 l0_9.length c0_9) := ct BK138 9; have hcz24_10 : wr.cell? ⟨gb138, 10, none⟩ = some (.slice A0_10 l0_10.length c0_10) := ct BK138 10; have hfz24_0 := blk_frozen BK138.out 0; have hfz24_1 := blk_frozen BK138.out 1; have hfz24_2 := blk_frozen BK138.out 2; have hfz24_3 := blk_frozen BK138.out 3; have hfz24_4 := blk_frozen BK138.out 4; have hfz24_5 := blk_frozen BK138.out 5; have hfz24_6 := blk_frozen BK138.out 6; have hfz24_7 := blk_frozen BK138.out 7; have hfz24_8 := blk_frozen BK138.out 8; have hfz24_9 := blk_frozen BK138.out 9; have hfz24_10 := blk_frozen BK138.out 10; have p141 : 0 ≤ (x4_2 : Int) := od; have q141 : x4_2 < (l0_10.length : Int) := od; obtain ⟨ad141, A141_4, c141_4, A141_5, c141_5, e141, hx141_0, hx141_1, hx141_2, hx141_3, hx141_4, hx141_5, hl141_4, hi141_4, hl141_5, hi141_5⟩ := at_T51 HR0_10.out x4_2 p141 q141
           cases e141
           replace hx141_0 := cl HB hx141_0; replace hx141_1 := cl HB hx141_1; replace hx141_2 := cl HB hx141_2; replace hx141_3 := cl HB hx141_3; replace hx141_4 := cl HB hx141_4; replace hx141_5 := cl HB hx141_5; have HR141_4 := Aside0.mk hi141_4; have HC141_4 := Aside0.mk hl141_4; clear hi141_4 hl141_4; have HR141_5 := Aside0.mk hi141_5; have HC141_5 := Aside0.mk hl141_5; clear hi141_5 hl141_5; replace p141 := eq_true p141; replace q141 := eq_true q141
           go_wp2_with (first | ((with_reducible refine gate_callee (f := 48) rfl ?_); refine zC 49 Try.func48 #[.agg #[.int .i64 ((rd_T51 l0_10 x4_2).f0), .int .i64 ((rd_T51 l0_10 x4_2).f1), .int .i64 ((rd_T51 l0_10 x4_2).f2), .bool ((rd_T51 l0_10 x4_2).f3), .slice A141_4 ((rd_T51 l0_10 x4_2).f4).length c141_4, .slice A141_5 ((rd_T51 l0_10 x4_2).f5).length c141_5], .int .i64 x4_2, .int .i64 x3_2] ?_; (with_reducible refine (dioramaref03_sample.calls k2 ((rd_T51 l0_10 x4_2).f0) ((rd_T51 l0_10 x4_2).f1) ((rd_T51 l0_10 x4_2).f2) ((rd_T51 l0_10 x4_2).f3) _ _ ((rd_T51 l0_10 x4_2).f4) _ _ ((rd_T51 l0_10 x4_2).f5) x4_2 x3_2 t142 _ ?side1 ?side2 ?side3 ?side4 A22.out).mono ?_); (case side1 => exact cz HR141_4); (case side2 => exact HC141_4.out); (case side3 => exact cz HR141_5); (case side4 => exact HC141_5.out); rintro e w25 ⟨rfl, hb⟩; refine ⟨_, rfl, ?_⟩; replace BK138 := kb BK138 hb; replace HB := bp hb; clear hb; have hcz26_0 : w25.cell? ⟨gb138, 0, none⟩ = some (.int .i64 a0_0) := ct BK138 0; have hcz26_1 : w25.cell? ⟨gb138, 1, none⟩ = some (.int .i64 a0_1) := ct BK138 1; have hcz26_2 : w25.cell? ⟨gb138, 2, none⟩ = some (.string a0_2) := ct BK138 2; have hcz26_3 : w25.cell? ⟨gb138, 3, none⟩ = some (.int .i64 a0_3) := ct BK138 3; have hcz26_4 : w25.cell? ⟨gb138, 4, none⟩ = some (.slice A0_4 l0_4.length c0_4) := ct BK138 4; have hcz26_5 : w25.cell? ⟨gb138, 5, none⟩ = some (.string a0_5) := ct BK138 5; have hcz26_6 : w25.cell? ⟨gb138, 6, none⟩ = some (.string a0_6) := ct BK138 6; have hcz26_7 : w25.cell? ⟨gb138, 7, none⟩ = some (.int .i64 a0_7) := ct BK138 7; have hcz26_8 : w25.cell? ⟨gb138, 8, none⟩ = some (.slice A0_8 l0_8.length c0_8) := ct BK138 8; have hcz26_9 : w25.cell? ⟨gb138, 9, none⟩ = some (.slice A0_9 l0_9.length c0_9) := ct BK138 9; have hcz26_10 : w25.cell? ⟨gb138, 10, none⟩ = some (.slice (some ad141) l0_10.length c0_10) := ct BK138 10; have hfz26_0 := blk_frozen BK138.out 0; have hfz26_1 := blk_frozen BK138.out 1; have hfz26_2 := blk_frozen BK138.out 2; have hfz26_3 := blk_frozen BK138.out 3; have hfz26_4 := blk_frozen BK138.out 4; have hfz26_5 := blk_frozen BK138.out 5; have hfz26_6 := blk_frozen BK138.out 6; have hfz26_7 := blk_frozen BK138.out 7; have hfz26_8 := blk_frozen BK138.out 8; have hfz26_9 := blk_frozen BK138.out 9; have hfz26_10 := blk_frozen BK138.out 10; have p143 : 0 ≤ (x4_2 : Int) := od; have q143 : x4_2 < (l0_10.length : Int) := od; obtain ⟨ad143, A143_4, c143_4, A143_5, c143_5, e143, hx143_0, hx143_1, hx143_2, hx143_3, hx143_4, hx143_5, hl143_4, hi143_4, hl143_5, hi143_5⟩ := at_T51 HR0_10.out x4_2 p143 q143; obtain rfl : ad141 = ad143 := (by injection e143); replace hx143_0 := cl HB hx143_0; replace hx143_1 := cl HB hx143_1; replace hx143_2 := cl HB hx143_2; replace hx143_3 := cl HB hx143_3; replace hx143_4 := cl HB hx143_4; replace hx143_5 := cl HB hx143_5; have HR143_4 := Aside0.mk hi143_4; have HC143_4 := Aside0.mk hl143_4; clear hi143_4 hl143_4; have HR143_5 := Aside0.mk hi143_5; have HC143_5 := Aside0.mk hl143_5; clear hi143_5 hl143_5; replace p143 := eq_true p143; replace q143 := eq_true q143))
           go_roundg k2
           case measure => have := HJ3.out; have := HK2.out; omega
           case rel => exact ⟨((rd_T51 l0_10 x4_2).f0), (wrap64 (x4_2 + 1)), jz, jz, H', ⟨by have := HJ3.out; have := HK2.out; omega⟩, ⟨kz⟩, ⟨bz⟩⟩
          ·rw [if_neg c23] at H; have c23b0 : (t142 == 0) = false := beq_eq_false_iff_ne.mpr c23; have c23b1 : (t142 != 0) = true := bne_iff_ne.mpr c23; obtain rfl := Option.some.inj H; have hcz27_0 : wr.cell? ⟨gb138, 0, none⟩ = some (.int .i64 a0_0) := ct BK138 0; have hcz27_1 : wr.cell? ⟨gb138, 1, none⟩ = some (.int .i64 a0_1) := ct BK138 1; have hcz27_2 : wr.cell? ⟨gb138, 2, none⟩ = some (.string a0_2) := ct BK138 2; have hcz27_3 : wr.cell? ⟨gb138, 3, none⟩ = some (.int .i64 a0_3) := ct BK138 3; have hcz27_4 : wr.cell? ⟨gb138, 4, none⟩ = some (.slice A0_4 l0_4.length c0_4) := ct BK138 4; have hcz27_5 : wr.cell? ⟨gb138, 5, none⟩ = some (.string a0_5) := ct BK138 5; have hcz27_6 : wr.cell? ⟨gb138, 6, none⟩ = some (.string a0_6) := ct BK138 6; have hcz27_7 : wr.cell? ⟨gb138, 7, none⟩ = some (.int .i64 a0_7) := ct BK138 7; have hcz27_8 : wr.cell? ⟨gb138, 8, none⟩ = some (.slice A0_8 l0_8.length c0_8) := ct BK138 8; have hcz27_9 : wr.cell? ⟨gb138, 9, none⟩ = some (.slice A0_9 l0_9.length c0_9) := ct BK138 9; have hcz27_10 : wr.cell? ⟨gb138, 10, none⟩ = some (.slice A0_10 l0_10.length c0_10) := ct BK138 10; have hfz27_0 := blk_frozen BK138.out 0; have hfz27_1 := blk_frozen BK138.out 1; have hfz27_2 := blk_frozen BK138.out 2; have hfz27_3 := blk_frozen BK138.out 3; have hfz27_4 := blk_frozen BK138.out 4; have hfz27_5 := blk_frozen BK138.out 5; have hfz27_6 := blk_frozen BK138.out 6; have hfz27_7 := blk_frozen BK138.out 7; have hfz27_8 := blk_frozen BK138.out 8; have hfz27_9 := blk_frozen BK138.out 9; have hfz27_10 := blk_frozen BK138.out 10; have p141 : 0 ≤ (x4_2 : Int) := od; have q141 : x4_2 < (l0_10.length : Int) := od; obtain ⟨ad141, A141_4, c141_4, A141_5, c141_5, e141, hx141_0, hx141_1, hx141_2, hx141_3, hx141_4, hx141_5, hl141_4, hi141_4, hl141_5, hi141_5⟩ := at_T51 HR0_10.out x4_2 p141 q141
           cases e141
           replace hx141_0 := cl HB hx141_0; replace hx141_1 := cl HB hx141_1; replace hx141_2 := cl HB hx141_2; replace hx141_3 := cl HB hx141_3; replace hx141_4 := cl HB hx141_4; replace hx141_5 := cl HB hx141_5; have HR141_4 := Aside0.mk hi141_4; have HC141_4 := Aside0.mk hl141_4; clear hi141_4 hl141_4; have HR141_5 := Aside0.mk hi141_5; have HC141_5 := Aside0.mk hl141_5; clear hi141_5 hl141_5; replace p141 := eq_true p141; replace q141 := eq_true q141
           go_wp2_with (first | ((with_reducible refine gate_callee (f := 48) rfl ?_); refine zC 49 Try.func48 #[.agg #[.int .i64 ((rd_T51 l0_10 x4_2).f0), .int .i64 ((rd_T51 l0_10 x4_2).f1), .int .i64 ((rd_T51 l0_10 x4_2).f2), .bool ((rd_T51 l0_10 x4_2).f3), .slice A141_4 ((rd_T51 l0_10 x4_2).f4).length c141_4, .slice A141_5 ((rd_T51 l0_10 x4_2).f5).length c141_5], .int .i64 x4_2, .int .i64 x3_2] ?_; (with_reducible refine (dioramaref03_sample.calls k2 ((rd_T51 l0_10 x4_2).f0) ((rd_T51 l0_10 x4_2).f1) ((rd_T51 l0_10 x4_2).f2) ((rd_T51 l0_10 x4_2).f3) _ _ ((rd_T51 l0_10 x4_2).f4) _ _ ((rd_T51 l0_10 x4_2).f5) x4_2 x3_2 t142 _ ?side1 ?side2 ?side3 ?side4 A22.out).mono ?_); (case side1 => exact cz HR141_4); (case side2 => exact HC141_4.out); (case side3 => exact cz HR141_5); (case side4 => exact HC141_5.out); rintro e w28 ⟨rfl, hb⟩; refine ⟨_, rfl, ?_⟩; replace BK138 := kb BK138 hb; replace HB := bp hb; clear hb))
           go_ret
           exact ⟨ez, bz⟩
         ·rw [if_neg c21] at H
          exact absurd H (by simp)
        ·rw [if_neg c20] at H; have c20b0 : decide (x4_2 < (l0_10.length : Int)) = false := decide_eq_false c20; clear c20; obtain rfl := Option.some.inj H; have hcz29_0 : wr.cell? ⟨gb138, 0, none⟩ = some (.int .i64 a0_0) := ct BK138 0; have hcz29_1 : wr.cell? ⟨gb138, 1, none⟩ = some (.int .i64 a0_1) := ct BK138 1; have hcz29_2 : wr.cell? ⟨gb138, 2, none⟩ = some (.string a0_2) := ct BK138 2; have hcz29_3 : wr.cell? ⟨gb138, 3, none⟩ = some (.int .i64 a0_3) := ct BK138 3; have hcz29_4 : wr.cell? ⟨gb138, 4, none⟩ = some (.slice A0_4 l0_4.length c0_4) := ct BK138 4; have hcz29_5 : wr.cell? ⟨gb138, 5, none⟩ = some (.string a0_5) := ct BK138 5; have hcz29_6 : wr.cell? ⟨gb138, 6, none⟩ = some (.string a0_6) := ct BK138 6; have hcz29_7 : wr.cell? ⟨gb138, 7, none⟩ = some (.int .i64 a0_7) := ct BK138 7; have hcz29_8 : wr.cell? ⟨gb138, 8, none⟩ = some (.slice A0_8 l0_8.length c0_8) := ct BK138 8; have hcz29_9 : wr.cell? ⟨gb138, 9, none⟩ = some (.slice A0_9 l0_9.length c0_9) := ct BK138 9; have hcz29_10 : wr.cell? ⟨gb138, 10, none⟩ = some (.slice A0_10 l0_10.length c0_10) := ct BK138 10; have hfz29_0 := blk_frozen BK138.out 0; have hfz29_1 := blk_frozen BK138.out 1; have hfz29_2 := blk_frozen BK138.out 2; have hfz29_3 := blk_frozen BK138.out 3; have hfz29_4 := blk_frozen BK138.out 4; have hfz29_5 := blk_frozen BK138.out 5; have hfz29_6 := blk_frozen BK138.out 6; have hfz29_7 := blk_frozen BK138.out 7; have hfz29_8 := blk_frozen BK138.out 8; have hfz29_9 := blk_frozen BK138.out 9; have hfz29_10 := blk_frozen BK138.out 10
         go_wp2
         go_ret
         exact ⟨ez, bz⟩
     ·obtain rfl := bf c17; rw [if_neg (show ¬ (false = true) by decide)] at H; obtain rfl := Option.some.inj H; have hcz30_0 : wc.cell? ⟨gb138, 0, none⟩ = some (.int .i64 a0_0) := ct BK138 0; have hcz30_1 : wc.cell? ⟨gb138, 1, none⟩ = some (.int .i64 a0_1) := ct BK138 1; have hcz30_2 : wc.cell? ⟨gb138, 2, none⟩ = some (.string a0_2) := ct BK138 2; have hcz30_3 : wc.cell? ⟨gb138, 3, none⟩ = some (.int .i64 a0_3) := ct BK138 3; have hcz30_4 : wc.cell? ⟨gb138, 4, none⟩ = some (.slice A0_4 l0_4.length c0_4) := ct BK138 4; have hcz30_5 : wc.cell? ⟨gb138, 5, none⟩ = some (.string a0_5) := ct BK138 5; have hcz30_6 : wc.cell? ⟨gb138, 6, none⟩ = some (.string a0_6) := ct BK138 6; have hcz30_7 : wc.cell? ⟨gb138, 7, none⟩ = some (.int .i64 a0_7) := ct BK138 7; have hcz30_8 : wc.cell? ⟨gb138, 8, none⟩ = some (.slice A0_8 l0_8.length c0_8) := ct BK138 8; have hcz30_9 : wc.cell? ⟨gb138, 9, none⟩ = some (.slice A0_9 l0_9.length c0_9) := ct BK138 9; have hcz30_10 : wc.cell? ⟨gb138, 10, none⟩ = some (.slice A0_10 l0_10.length c0_10) := ct BK138 10; have hfz30_0 := blk_frozen BK138.out 0; have hfz30_1 := blk_frozen BK138.out 1; have hfz30_2 := blk_frozen BK138.out 2; have hfz30_3 := blk_frozen BK138.out 3; have hfz30_4 := blk_frozen BK138.out 4; have hfz30_5 := blk_frozen BK138.out 5; have hfz30_6 := blk_frozen BK138.out 6; have hfz30_7 := blk_frozen BK138.out 7; have hfz30_8 := blk_frozen BK138.out 8; have hfz30_9 := blk_frozen BK138.out 9; have hfz30_10 := blk_frozen BK138.out 10
      go_wp2_with (first | ((with_reducible refine gate_callee (f := 47) rfl ?_); refine zC 33 Try.func47 #[.slice A0_8 l0_8.length c0_8] ?_; (with_reducible refine (dioramaref03_edits.calls kj3 _ _ l0_8 false _ ?side1 ?side2 A16.out).mono ?_); (case side1 => exact cz HR0_8); (case side2 => exact HC0_8.out); rintro e w31 ⟨rfl, hb⟩; refine ⟨_, rfl, ?_⟩; replace BK138 := kb BK138 hb; replace HB := bp hb; clear hb))
      go_ret
      exact ⟨ez, bz⟩
 ·obtain rfl := bf c3; rw [if_neg (show ¬ (false = true) by decide)] at H; obtain rfl := Option.some.inj H
  go_enter Try.func21, Try.ntmps21
  go_wp2_with (first | ((with_reducible refine gate_dst (N := 1) rfl ?_); refine zB 1 40 #[.int .i64 a0_0, .int .i64 a0_1, .string a0_2, .int .i64 a0_3, .slice A0_4 l0_4.length c0_4, .string a0_5, .string a0_6, .int .i64 a0_7, .slice A0_8 l0_8.length c0_8, .slice A0_9 l0_9.length c0_9, .slice A0_10 l0_10.length c0_10] ?_; intro gb138 hg w32 hbox hb; have BK138 := Aside0.mk hbox; have GW138 := gz hg; have GE138 := gz hg; replace HB := bp hb; clear hb hbox hg; have hcz33_0 : w32.cell? ⟨gb138, 0, none⟩ = some (.int .i64 a0_0) := ct BK138 0; have hcz33_1 : w32.cell? ⟨gb138, 1, none⟩ = some (.int .i64 a0_1) := ct BK138 1; have hcz33_2 : w32.cell? ⟨gb138, 2, none⟩ = some (.string a0_2) := ct BK138 2; have hcz33_3 : w32.cell? ⟨gb138, 3, none⟩ = some (.int .i64 a0_3) := ct BK138 3; have hcz33_4 : w32.cell? ⟨gb138, 4, none⟩ = some (.slice A0_4 l0_4.length c0_4) := ct BK138 4; have hcz33_5 : w32.cell? ⟨gb138, 5, none⟩ = some (.string a0_5) := ct BK138 5; have hcz33_6 : w32.cell? ⟨gb138, 6, none⟩ = some (.string a0_6) := ct BK138 6; have hcz33_7 : w32.cell? ⟨gb138, 7, none⟩ = some (.int .i64 a0_7) := ct BK138 7; have hcz33_8 : w32.cell? ⟨gb138, 8, none⟩ = some (.slice A0_8 l0_8.length c0_8) := ct BK138 8; have hcz33_9 : w32.cell? ⟨gb138, 9, none⟩ = some (.slice A0_9 l0_9.length c0_9) := ct BK138 9; have hcz33_10 : w32.cell? ⟨gb138, 10, none⟩ = some (.slice A0_10 l0_10.length c0_10) := ct BK138 10; have hfz33_0 := blk_frozen BK138.out 0; have hfz33_1 := blk_frozen BK138.out 1; have hfz33_2 := blk_frozen BK138.out 2; have hfz33_3 := blk_frozen BK138.out 3; have hfz33_4 := blk_frozen BK138.out 4; have hfz33_5 := blk_frozen BK138.out 5; have hfz33_6 := blk_frozen BK138.out 6; have hfz33_7 := blk_frozen BK138.out 7; have hfz33_8 := blk_frozen BK138.out 8; have hfz33_9 := blk_frozen BK138.out 9; have hfz33_10 := blk_frozen BK138.out 10) | ((with_reducible refine gate_callee (f := 46) rfl ?_); refine zC 7 Try.func46 #[.agg #[.int .i64 a0_0, .int .i64 a0_1, .string a0_2, .int .i64 a0_3, .slice A0_4 l0_4.length c0_4, .string a0_5, .string a0_6, .int .i64 a0_7, .slice A0_8 l0_8.length c0_8, .slice A0_9 l0_9.length c0_9, .slice A0_10 l0_10.length c0_10]] ?_; (with_reducible refine (dioramaref03_fields.calls k a0_0 a0_1 a0_2 a0_3 _ _ l0_4 a0_5 a0_6 a0_7 _ _ l0_8 _ _ l0_9 _ _ l0_10 false _ ?side1 ?side2 ?side3 ?side4 ?side5 ?side6 ?side7 ?side8 A2.out).mono ?_); (case side1 => exact cz HR0_4); (case side2 => exact HC0_4.out); (case side3 => exact cz HR0_8); (case side4 => exact HC0_8.out); (case side5 => exact cz HR0_9); (case side6 => exact HC0_9.out); (case side7 => exact cz HR0_10); (case side8 => exact HC0_10.out); rintro e w34 ⟨rfl, hb⟩; refine ⟨_, rfl, ?_⟩; replace BK138 := kb BK138 hb; replace HB := bp hb; clear hb))
  go_ret
  exact ⟨ez, bz⟩
def dioramaref00_HasInt.l0 : Nat → List Int → Int → Int → Option (Int)
  | 0, _, _, _ => none
  | k + 1, x0, x1, x5 => if x5 < (x0.length : Int) then (if 0 ≤ x5 then (if (rd x0 x5) = x1 then (some x5) else (dioramaref00_HasInt.l0 k x0 x1 (wrap64 (x5 + 1)))) else (none)) else (some (-1))
def dioramaref00_HasInt.f (k : Nat) (l0 : List Int) (a1 : Int) : Option (Int) := dioramaref00_HasInt.l0 k l0 a1 0
set_option maxHeartbeats 8000000 in
set_option maxRecDepth 100000 in
theorem dioramaref00_HasInt.calls (k : Nat) (A0 : Option Addr) (c0 : Nat) (l0 : List Int) (a1 : Int) (r : Int) (w : World) (hr0 : Kd.C (Kd.int .i64) w A0 l0.length l0) (hc0 : l0.length ≤ c0) (h : dioramaref00_HasInt.f k l0 a1 = some r) :
  Calls Try.prog 22 #[.slice A0 l0.length c0, .int .i64 a1] w fun e w' => e = .returned (.int .i64 r) ∧ Drawn0 w w' := by
 have HR0 := Aside0.mk hr0; have HC0 := Aside0.mk hc0; clear hr0 hc0; have H : (dioramaref00_HasInt.l0 k l0 a1 0) = some r := h; clear h; have H' := Aside0.mk H; clear H
 go_enter Try.func22, Try.ntmps22
 go_wp2
 go_loopg [5] k (fun kq v5 w' => ∃ (x5_1 : Int), v5 = .int .i64 x5_1 ∧ Aside0 (dioramaref00_HasInt.l0 kq l0 a1 x5_1 = some r) ∧ Aside0 (kq ≤ k) ∧ Drawn0 w w')
 case atStart => exact ⟨(0), jz, H', ⟨Nat.le_refl _⟩, by repeat (first | exact Drawn0.refl _ | apply Drawn0.step)⟩
 case round =>
  clear H'
  try clear c2
  try clear p2
  obtain ⟨x5_1, rfl, HA, HK1, ⟨m1, rfl⟩⟩ := hrel
  cases gk with
  | zero => exact absurd HA.out (by simp [dioramaref00_HasInt.l0])
  | succ k1 =>
   have H := HA.out; clear HA; simp only [dioramaref00_HasInt.l0] at H
   by_cases c3 : x5_1 < (l0.length : Int)
   ·rw [if_pos c3] at H; have c3b0 : decide (x5_1 < (l0.length : Int)) = true := decide_eq_true c3; clear c3
    by_cases c4 : 0 ≤ x5_1
    ·rw [if_pos c4] at H; have c4b0 : decide (0 ≤ x5_1) = true := decide_eq_true c4; clear c4
     by_cases c5 : (rd l0 x5_1) = a1
     ·rw [if_pos c5] at H; have c5b0 : ((rd l0 x5_1) == a1) = true := beq_iff_eq.mpr c5; have c5b1 : ((rd l0 x5_1) != a1) = false := bne_eq_false_iff_eq.mpr c5; clear c5; obtain rfl := Option.some.inj H; have p196 : 0 ≤ (x5_1 : Int) := od; have q196 : x5_1 < (l0.length : Int) := od; obtain ⟨ad196, e196, hx196_0⟩ := Kd.at_int HR0.out x5_1 p196 q196
      cases e196
      replace p196 := eq_true p196; replace q196 := eq_true q196
      go_wp2
      go_ret
      exact ⟨by first | rfl | (simp; done) | (simp [*]; done), by repeat (first | exact Drawn0.refl _ | apply Drawn0.step)⟩
     ·rw [if_neg c5] at H; have c5b0 : ((rd l0 x5_1) == a1) = false := beq_eq_false_iff_ne.mpr c5; have c5b1 : ((rd l0 x5_1) != a1) = true := bne_iff_ne.mpr c5; have H' := Aside0.mk H; clear H; have p196 : 0 ≤ (x5_1 : Int) := od; have q196 : x5_1 < (l0.length : Int) := od; obtain ⟨ad196, e196, hx196_0⟩ := Kd.at_int HR0.out x5_1 p196 q196
      cases e196
      replace p196 := eq_true p196; replace q196 := eq_true q196
      go_wp2
      go_roundg k1
      case measure => have := HK1.out; omega
      case rel => exact ⟨(wrap64 (x5_1 + 1)), jz, H', ⟨by have := HK1.out; omega⟩, by repeat (first | exact Drawn0.refl _ | apply Drawn0.step)⟩
    ·rw [if_neg c4] at H
     exact absurd H (by simp)
   ·rw [if_neg c3] at H; have c3b0 : decide (x5_1 < (l0.length : Int)) = false := decide_eq_false c3; clear c3; obtain rfl := Option.some.inj H
    go_wp2
    go_ret
    exact ⟨by first | rfl | (simp; done) | (simp [*]; done), by repeat (first | exact Drawn0.refl _ | apply Drawn0.step)⟩
def model_letters.l0 : Nat → ByteArray → Int → Bool → Int → Int → Option (Bool)
  | 0, _, _, _, _, _ => none
  | k + 1, x0, x1, x2, x11, x12 => if x12 < x11 then (if 0 ≤ x12 then (if x12 < (x0.size : Int) then (if (bt x0 x12) ≥ 97 then (if (bt x0 x12) ≥ 48 then (if ((bt x0 x12) ≤ 122) then (model_letters.l0 k x0 x1 x2 x11 (wrap64 (x12 + 1))) else (if (bt x0 x12) ≤ 57 then (if x2 = true then (model_letters.l0 k x0 x1 x2 x11 (wrap64 (x12 + 1))) else (some false)) else (some false))) else (if ((bt x0 x12) ≤ 122) then (model_letters.l0 k x0 x1 x2 x11 (wrap64 (x12 + 1))) else (some false))) else (if (bt x0 x12) ≥ 48 then (if (bt x0 x12) ≤ 57 then (if x2 = true then (model_letters.l0 k x0 x1 x2 x11 (wrap64 (x12 + 1))) else (some false)) else (some false)) else (some false))) else (none)) else (none)) else (some ((x0.size : Int) == x1))
def model_letters.f (k : Nat) (a0 : ByteArray) (a1 : Int) (a2 : Bool) : Option (Bool) := model_letters.l0 k a0 a1 a2 (a0.size : Int) 0
set_option maxHeartbeats 8000000 in
set_option maxRecDepth 100000 in
theorem model_letters.calls (k : Nat) (a0 : ByteArray) (a1 : Int) (a2 : Bool) (r : Bool) (w : World) (h : model_letters.f k a0 a1 a2 = some r) :
  Calls Try.prog 50 #[.string a0, .int .i64 a1, .bool a2] w fun e w' => e = .returned (.bool r) ∧ Drawn0 w w' := by
 have H : (model_letters.l0 k a0 a1 a2 (a0.size : Int) 0) = some r := h; clear h; have H' := Aside0.mk H; clear H
 go_enter Try.func50, Try.ntmps50
 go_wp2
 go_loopg [12] k (fun kq v12 w' => ∃ (x12_1 : Int), v12 = .int .i64 x12_1 ∧ Aside0 (model_letters.l0 kq a0 a1 a2 (a0.size : Int) x12_1 = some r) ∧ Aside0 (kq ≤ k) ∧ Drawn0 w w')
 case atStart => exact ⟨(0), jz, H', ⟨Nat.le_refl _⟩, by repeat (first | exact Drawn0.refl _ | apply Drawn0.step)⟩
 case round =>
  clear H'
  try clear p2
  obtain ⟨x12_1, rfl, HA, HK1, ⟨m1, rfl⟩⟩ := hrel
  cases gk with
  | zero => exact absurd HA.out (by simp [model_letters.l0])
  | succ k1 =>
   have H := HA.out; clear HA; simp only [model_letters.l0] at H
   by_cases c4 : x12_1 < (a0.size : Int)
   ·rw [if_pos c4] at H; have c4b0 : decide (x12_1 < (a0.size : Int)) = true := decide_eq_true c4; clear c4
    by_cases c5 : 0 ≤ x12_1
    ·rw [if_pos c5] at H; have c5b0 : decide (0 ≤ x12_1) = true := decide_eq_true c5; clear c5
     by_cases c6 : x12_1 < (a0.size : Int)
     ·rw [if_pos c6] at H; have c6b0 : decide (x12_1 < (a0.size : Int)) = true := decide_eq_true c6; clear c6
      by_cases c8 : (bt a0 x12_1) ≥ 97
      ·rw [if_pos c8] at H; have c8b0 : decide (97 ≤ (bt a0 x12_1)) = true := decide_eq_true c8; clear c8
       by_cases c11 : (bt a0 x12_1) ≥ 48
       ·rw [if_pos c11] at H; have c11b0 : decide (48 ≤ (bt a0 x12_1)) = true := decide_eq_true c11; clear c11
        by_cases c13 : ((bt a0 x12_1) ≤ 122)
        ·rw [if_pos c13] at H; have c13b0 : decide ((bt a0 x12_1) ≤ 122) = true := decide_eq_true c13; clear c13; have H' := Aside0.mk H; clear H; have p7 : 0 ≤ (x12_1 : Int) := od; have q7 : x12_1 < (a0.size : Int) := od; have hx7 := bt_at a0 x12_1; replace p7 := eq_true p7; replace q7 := eq_true q7; have p9 : 0 ≤ (x12_1 : Int) := od; have q9 : x12_1 < (a0.size : Int) := od; have hx9 := bt_at a0 x12_1; replace p9 := eq_true p9; replace q9 := eq_true q9; have p10 : 0 ≤ (x12_1 : Int) := od; have q10 : x12_1 < (a0.size : Int) := od; have hx10 := bt_at a0 x12_1; replace p10 := eq_true p10; replace q10 := eq_true q10; have p12 : 0 ≤ (x12_1 : Int) := od; have q12 : x12_1 < (a0.size : Int) := od; have hx12 := bt_at a0 x12_1; replace p12 := eq_true p12; replace q12 := eq_true q12
         go_wp2
         go_roundg k1
         case measure => have := HK1.out; omega
         case rel => exact ⟨(wrap64 (x12_1 + 1)), jz, H', ⟨by have := HK1.out; omega⟩, by repeat (first | exact Drawn0.refl _ | apply Drawn0.step)⟩
        ·rw [if_neg c13] at H; have c13b0 : decide ((bt a0 x12_1) ≤ 122) = false := decide_eq_false c13; clear c13
         by_cases c14 : (bt a0 x12_1) ≤ 57
         ·rw [if_pos c14] at H; have c14b0 : decide ((bt a0 x12_1) ≤ 57) = true := decide_eq_true c14; clear c14
          by_cases c15 : a2 = true
          ·subst c15; rw [if_pos rfl] at H; have H' := Aside0.mk H; clear H; have p7 : 0 ≤ (x12_1 : Int) := od; have q7 : x12_1 < (a0.size : Int) := od; have hx7 := bt_at a0 x12_1; replace p7 := eq_true p7; replace q7 := eq_true q7; have p9 : 0 ≤ (x12_1 : Int) := od; have q9 : x12_1 < (a0.size : Int) := od; have hx9 := bt_at a0 x12_1; replace p9 := eq_true p9; replace q9 := eq_true q9; have p10 : 0 ≤ (x12_1 : Int) := od; have q10 : x12_1 < (a0.size : Int) := od; have hx10 := bt_at a0 x12_1; replace p10 := eq_true p10; replace q10 := eq_true q10; have p12 : 0 ≤ (x12_1 : Int) := od; have q12 : x12_1 < (a0.size : Int) := od; have hx12 := bt_at a0 x12_1; replace p12 := eq_true p12; replace q12 := eq_true q12
           go_wp2
           go_roundg k1
           case measure => have := HK1.out; omega
           case rel => exact ⟨(wrap64 (x12_1 + 1)), jz, H', ⟨by have := HK1.out; omega⟩, by repeat (first | exact Drawn0.refl _ | apply Drawn0.step)⟩
          ·obtain rfl := bf c15; rw [if_neg (show ¬ (false = true) by decide)] at H; obtain rfl := Option.some.inj H; have p7 : 0 ≤ (x12_1 : Int) := od; have q7 : x12_1 < (a0.size : Int) := od; have hx7 := bt_at a0 x12_1; replace p7 := eq_true p7; replace q7 := eq_true q7; have p9 : 0 ≤ (x12_1 : Int) := od; have q9 : x12_1 < (a0.size : Int) := od; have hx9 := bt_at a0 x12_1; replace p9 := eq_true p9; replace q9 := eq_true q9; have p10 : 0 ≤ (x12_1 : Int) := od; have q10 : x12_1 < (a0.size : Int) := od; have hx10 := bt_at a0 x12_1; replace p10 := eq_true p10; replace q10 := eq_true q10; have p12 : 0 ≤ (x12_1 : Int) := od; have q12 : x12_1 < (a0.size : Int) := od; have hx12 := bt_at a0 x12_1; replace p12 := eq_true p12; replace q12 := eq_true q12
           go_wp2
           go_ret
           exact ⟨by first | rfl | (simp; done) | (simp [*]; done), by repeat (first | exact Drawn0.refl _ | apply Drawn0.step)⟩
         ·rw [if_neg c14] at H; have c14b0 : decide ((bt a0 x12_1) ≤ 57) = false := decide_eq_false c14; clear c14; obtain rfl := Option.some.inj H; have p7 : 0 ≤ (x12_1 : Int) := od; have q7 : x12_1 < (a0.size : Int) := od; have hx7 := bt_at a0 x12_1; replace p7 := eq_true p7; replace q7 := eq_true q7; have p9 : 0 ≤ (x12_1 : Int) := od; have q9 : x12_1 < (a0.size : Int) := od; have hx9 := bt_at a0 x12_1; replace p9 := eq_true p9; replace q9 := eq_true q9; have p10 : 0 ≤ (x12_1 : Int) := od; have q10 : x12_1 < (a0.size : Int) := od; have hx10 := bt_at a0 x12_1; replace p10 := eq_true p10; replace q10 := eq_true q10; have p12 : 0 ≤ (x12_1 : Int) := od; have q12 : x12_1 < (a0.size : Int) := od; have hx12 := bt_at a0 x12_1; replace p12 := eq_true p12; replace q12 := eq_true q12
          go_wp2
          go_ret
          exact ⟨by first | rfl | (simp; done) | (simp [*]; done), by repeat (first | exact Drawn0.refl _ | apply Drawn0.step)⟩
       ·rw [if_neg c11] at H; have c11b0 : decide (48 ≤ (bt a0 x12_1)) = false := decide_eq_false c11; clear c11
        by_cases c16 : ((bt a0 x12_1) ≤ 122)
        ·rw [if_pos c16] at H; have c16b0 : decide ((bt a0 x12_1) ≤ 122) = true := decide_eq_true c16; clear c16; have H' := Aside0.mk H; clear H; have p7 : 0 ≤ (x12_1 : Int) := od; have q7 : x12_1 < (a0.size : Int) := od; have hx7 := bt_at a0 x12_1; replace p7 := eq_true p7; replace q7 := eq_true q7; have p9 : 0 ≤ (x12_1 : Int) := od; have q9 : x12_1 < (a0.size : Int) := od; have hx9 := bt_at a0 x12_1; replace p9 := eq_true p9; replace q9 := eq_true q9; have p10 : 0 ≤ (x12_1 : Int) := od; have q10 : x12_1 < (a0.size : Int) := od; have hx10 := bt_at a0 x12_1; replace p10 := eq_true p10; replace q10 := eq_true q10
         go_wp2
         go_roundg k1
         case measure => have := HK1.out; omega
         case rel => exact ⟨(wrap64 (x12_1 + 1)), jz, H', ⟨by have := HK1.out; omega⟩, by repeat (first | exact Drawn0.refl _ | apply Drawn0.step)⟩
        ·rw [if_neg c16] at H; have c16b0 : decide ((bt a0 x12_1) ≤ 122) = false := decide_eq_false c16; clear c16; obtain rfl := Option.some.inj H; have p7 : 0 ≤ (x12_1 : Int) := od; have q7 : x12_1 < (a0.size : Int) := od; have hx7 := bt_at a0 x12_1; replace p7 := eq_true p7; replace q7 := eq_true q7; have p9 : 0 ≤ (x12_1 : Int) := od; have q9 : x12_1 < (a0.size : Int) := od; have hx9 := bt_at a0 x12_1; replace p9 := eq_true p9; replace q9 := eq_true q9; have p10 : 0 ≤ (x12_1 : Int) := od; have q10 : x12_1 < (a0.size : Int) := od; have hx10 := bt_at a0 x12_1; replace p10 := eq_true p10; replace q10 := eq_true q10
         go_wp2
         go_ret
         exact ⟨by first | rfl | (simp; done) | (simp [*]; done), by repeat (first | exact Drawn0.refl _ | apply Drawn0.step)⟩
      ·rw [if_neg c8] at H; have c8b0 : decide (97 ≤ (bt a0 x12_1)) = false := decide_eq_false c8; clear c8
       by_cases c18 : (bt a0 x12_1) ≥ 48
       ·rw [if_pos c18] at H; have c18b0 : decide (48 ≤ (bt a0 x12_1)) = true := decide_eq_true c18; clear c18
        by_cases c20 : (bt a0 x12_1) ≤ 57
        ·rw [if_pos c20] at H; have c20b0 : decide ((bt a0 x12_1) ≤ 57) = true := decide_eq_true c20; clear c20
         by_cases c21 : a2 = true
         ·subst c21; rw [if_pos rfl] at H; have H' := Aside0.mk H; clear H; have p7 : 0 ≤ (x12_1 : Int) := od; have q7 : x12_1 < (a0.size : Int) := od; have hx7 := bt_at a0 x12_1; replace p7 := eq_true p7; replace q7 := eq_true q7; have p17 : 0 ≤ (x12_1 : Int) := od; have q17 : x12_1 < (a0.size : Int) := od; have hx17 := bt_at a0 x12_1; replace p17 := eq_true p17; replace q17 := eq_true q17; have p19 : 0 ≤ (x12_1 : Int) := od; have q19 : x12_1 < (a0.size : Int) := od; have hx19 := bt_at a0 x12_1; replace p19 := eq_true p19; replace q19 := eq_true q19
          go_wp2
          go_roundg k1
          case measure => have := HK1.out; omega
          case rel => exact ⟨(wrap64 (x12_1 + 1)), jz, H', ⟨by have := HK1.out; omega⟩, by repeat (first | exact Drawn0.refl _ | apply Drawn0.step)⟩
         ·obtain rfl := bf c21; rw [if_neg (show ¬ (false = true) by decide)] at H; obtain rfl := Option.some.inj H; have p7 : 0 ≤ (x12_1 : Int) := od; have q7 : x12_1 < (a0.size : Int) := od; have hx7 := bt_at a0 x12_1; replace p7 := eq_true p7; replace q7 := eq_true q7; have p17 : 0 ≤ (x12_1 : Int) := od; have q17 : x12_1 < (a0.size : Int) := od; have hx17 := bt_at a0 x12_1; replace p17 := eq_true p17; replace q17 := eq_true q17; have p19 : 0 ≤ (x12_1 : Int) := od; have q19 : x12_1 < (a0.size : Int) := od; have hx19 := bt_at a0 x12_1; replace p19 := eq_true p19; replace q19 := eq_true q19
          go_wp2
          go_ret
          exact ⟨by first | rfl | (simp; done) | (simp [*]; done), by repeat (first | exact Drawn0.refl _ | apply Drawn0.step)⟩
        ·rw [if_neg c20] at H; have c20b0 : decide ((bt a0 x12_1) ≤ 57) = false := decide_eq_false c20; clear c20; obtain rfl := Option.some.inj H; have p7 : 0 ≤ (x12_1 : Int) := od; have q7 : x12_1 < (a0.size : Int) := od; have hx7 := bt_at a0 x12_1; replace p7 := eq_true p7; replace q7 := eq_true q7; have p17 : 0 ≤ (x12_1 : Int) := od; have q17 : x12_1 < (a0.size : Int) := od; have hx17 := bt_at a0 x12_1; replace p17 := eq_true p17; replace q17 := eq_true q17; have p19 : 0 ≤ (x12_1 : Int) := od; have q19 : x12_1 < (a0.size : Int) := od; have hx19 := bt_at a0 x12_1; replace p19 := eq_true p19; replace q19 := eq_true q19
         go_wp2
         go_ret
         exact ⟨by first | rfl | (simp; done) | (simp [*]; done), by repeat (first | exact Drawn0.refl _ | apply Drawn0.step)⟩
       ·rw [if_neg c18] at H; have c18b0 : decide (48 ≤ (bt a0 x12_1)) = false := decide_eq_false c18; clear c18; obtain rfl := Option.some.inj H; have p7 : 0 ≤ (x12_1 : Int) := od; have q7 : x12_1 < (a0.size : Int) := od; have hx7 := bt_at a0 x12_1; replace p7 := eq_true p7; replace q7 := eq_true q7; have p17 : 0 ≤ (x12_1 : Int) := od; have q17 : x12_1 < (a0.size : Int) := od; have hx17 := bt_at a0 x12_1; replace p17 := eq_true p17; replace q17 := eq_true q17
        go_wp2
        go_ret
        exact ⟨by first | rfl | (simp; done) | (simp [*]; done), by repeat (first | exact Drawn0.refl _ | apply Drawn0.step)⟩
     ·rw [if_neg c6] at H
      exact absurd H (by simp)
    ·rw [if_neg c5] at H
     exact absurd H (by simp)
   ·rw [if_neg c4] at H; have c4b0 : decide (x12_1 < (a0.size : Int)) = false := decide_eq_false c4; clear c4; obtain rfl := Option.some.inj H
    go_wp2
    go_ret
    exact ⟨by first | rfl | (simp; done) | (simp [*]; done), by repeat (first | exact Drawn0.refl _ | apply Drawn0.step)⟩
def model_letters.Pure : Prop := ∀ (a0 : ByteArray) (a1 : Int) (a2 : Bool), a0.size ≤ 140737488351232 → (Lit.int .i64 a1).wf = true → ∃ k, model_letters.f k a0 a1 a2 = some true
theorem model_letters.walk (P : model_letters.Pure) (a0 : ByteArray) (a1 : Int) (a2 : Bool) (w : World) (w0 : a0.size ≤ 140737488351232) (w1 : (Lit.int .i64 a1).wf = true) :
  Calls Try.prog 50 #[.string a0, .int .i64 a1, .bool a2] w fun e w' => e = .returned (.bool true) ∧ Below w.heap.size w w' := by
 obtain ⟨k, h⟩ := P a0 a1 a2 w0 w1; refine (model_letters.calls k a0 a1 a2 true w h).mono ?_; rintro e w' ⟨rfl, hd⟩
 exact ⟨rfl, hd.below⟩
def model_isName.l0 : Nat → ByteArray → Int → Int → Option (Bool)
  | 0, _, _, _ => none
  | k + 1, x0, x8, x9 => if x9 < x8 then (if 0 ≤ x9 then (if x9 < (x0.size : Int) then (if (bt x0 x9) < 32 then (some false) else (if (bt x0 x9) > 126 then (some false) else (model_isName.l0 k x0 x8 (wrap64 (x9 + 1))))) else (none)) else (none)) else (some true)
def model_isName.f (k : Nat) (a0 : ByteArray) : Option (Bool) := if (a0.size : Int) > 40 then (some false) else (model_isName.l0 k a0 (a0.size : Int) 0)
set_option maxHeartbeats 8000000 in
set_option maxRecDepth 100000 in
theorem model_isName.calls (k : Nat) (a0 : ByteArray) (r : Bool) (w : World) (h : model_isName.f k a0 = some r) :
  Calls Try.prog 31 #[.string a0] w fun e w' => e = .returned (.bool r) ∧ Drawn0 w w' := by
 have H : (if (a0.size : Int) > 40 then (some false) else (model_isName.l0 k a0 (a0.size : Int) 0)) = some r := h; clear h
 by_cases c2 : (a0.size : Int) > 40
 ·rw [if_pos c2] at H; have c2b0 : decide (40 < (a0.size : Int)) = true := decide_eq_true c2; have c2b1 : decide (40 < a0.size) = true := decide_eq_true (by omega); clear c2; obtain rfl := Option.some.inj H
  go_enter Try.func31, Try.ntmps31
  go_wp2
  go_ret
  exact ⟨by first | rfl | (simp; done) | (simp [*]; done), by repeat (first | exact Drawn0.refl _ | apply Drawn0.step)⟩
 ·rw [if_neg c2] at H; have c2b0 : decide (40 < (a0.size : Int)) = false := decide_eq_false c2; have c2b1 : decide (40 < a0.size) = false := decide_eq_false (by omega); clear c2; have H' := Aside0.mk H; clear H
  go_enter Try.func31, Try.ntmps31
  go_wp2
  go_loopg [9] k (fun kq v9 w' => ∃ (x9_1 : Int), v9 = .int .i64 x9_1 ∧ Aside0 (model_isName.l0 kq a0 (a0.size : Int) x9_1 = some r) ∧ Aside0 (kq ≤ k) ∧ Drawn0 w w')
  case atStart => exact ⟨(0), jz, H', ⟨Nat.le_refl _⟩, by repeat (first | exact Drawn0.refl _ | apply Drawn0.step)⟩
  case round =>
   clear H'
   try clear c2
   try clear c2b0
   try clear c2b1
   try clear p2
   obtain ⟨x9_1, rfl, HA, HK1, ⟨m1, rfl⟩⟩ := hrel
   cases gk with
   | zero => exact absurd HA.out (by simp [model_isName.l0])
   | succ k1 =>
    have H := HA.out; clear HA; simp only [model_isName.l0] at H
    by_cases c3 : x9_1 < (a0.size : Int)
    ·rw [if_pos c3] at H; have c3b0 : decide (x9_1 < (a0.size : Int)) = true := decide_eq_true c3; clear c3
     by_cases c4 : 0 ≤ x9_1
     ·rw [if_pos c4] at H; have c4b0 : decide (0 ≤ x9_1) = true := decide_eq_true c4; clear c4
      by_cases c5 : x9_1 < (a0.size : Int)
      ·rw [if_pos c5] at H; have c5b0 : decide (x9_1 < (a0.size : Int)) = true := decide_eq_true c5; clear c5
       by_cases c7 : (bt a0 x9_1) < 32
       ·rw [if_pos c7] at H; have c7b0 : decide ((bt a0 x9_1) < 32) = true := decide_eq_true c7; clear c7; obtain rfl := Option.some.inj H; have p6 : 0 ≤ (x9_1 : Int) := od; have q6 : x9_1 < (a0.size : Int) := od; have hx6 := bt_at a0 x9_1; replace p6 := eq_true p6; replace q6 := eq_true q6
        go_wp2
        go_ret
        exact ⟨by first | rfl | (simp; done) | (simp [*]; done), by repeat (first | exact Drawn0.refl _ | apply Drawn0.step)⟩
       ·rw [if_neg c7] at H; have c7b0 : decide ((bt a0 x9_1) < 32) = false := decide_eq_false c7; clear c7
        by_cases c9 : (bt a0 x9_1) > 126
        ·rw [if_pos c9] at H; have c9b0 : decide (126 < (bt a0 x9_1)) = true := decide_eq_true c9; clear c9; obtain rfl := Option.some.inj H; have p6 : 0 ≤ (x9_1 : Int) := od; have q6 : x9_1 < (a0.size : Int) := od; have hx6 := bt_at a0 x9_1; replace p6 := eq_true p6; replace q6 := eq_true q6; have p8 : 0 ≤ (x9_1 : Int) := od; have q8 : x9_1 < (a0.size : Int) := od; have hx8 := bt_at a0 x9_1; replace p8 := eq_true p8; replace q8 := eq_true q8
         go_wp2
         go_ret
         exact ⟨by first | rfl | (simp; done) | (simp [*]; done), by repeat (first | exact Drawn0.refl _ | apply Drawn0.step)⟩
        ·rw [if_neg c9] at H; have c9b0 : decide (126 < (bt a0 x9_1)) = false := decide_eq_false c9; clear c9; have H' := Aside0.mk H; clear H; have p6 : 0 ≤ (x9_1 : Int) := od; have q6 : x9_1 < (a0.size : Int) := od; have hx6 := bt_at a0 x9_1; replace p6 := eq_true p6; replace q6 := eq_true q6; have p8 : 0 ≤ (x9_1 : Int) := od; have q8 : x9_1 < (a0.size : Int) := od; have hx8 := bt_at a0 x9_1; replace p8 := eq_true p8; replace q8 := eq_true q8
         go_wp2
         go_roundg k1
         case measure => have := HK1.out; omega
         case rel => exact ⟨(wrap64 (x9_1 + 1)), jz, H', ⟨by have := HK1.out; omega⟩, by repeat (first | exact Drawn0.refl _ | apply Drawn0.step)⟩
      ·rw [if_neg c5] at H
       exact absurd H (by simp)
     ·rw [if_neg c4] at H
      exact absurd H (by simp)
    ·rw [if_neg c3] at H; have c3b0 : decide (x9_1 < (a0.size : Int)) = false := decide_eq_false c3; clear c3; obtain rfl := Option.some.inj H
     go_wp2
     go_ret
     exact ⟨by first | rfl | (simp; done) | (simp [*]; done), by repeat (first | exact Drawn0.refl _ | apply Drawn0.step)⟩
def model_isName.Pure : Prop := ∀ (a0 : ByteArray), a0.size ≤ 140737488351232 → ∃ k, model_isName.f k a0 = some true
theorem model_isName.walk (P : model_isName.Pure) (a0 : ByteArray) (w : World) (w0 : a0.size ≤ 140737488351232) :
  Calls Try.prog 31 #[.string a0] w fun e w' => e = .returned (.bool true) ∧ Below w.heap.size w w' := by
 obtain ⟨k, h⟩ := P a0 w0; refine (model_isName.calls k a0 true w h).mono ?_; rintro e w' ⟨rfl, hd⟩
 exact ⟨rfl, hd.below⟩
def model_within.f (a0 : Int) (a1 : Int) (a2 : Int) : Option (Bool) := if a0 ≥ a1 then (some (decide (a0 ≤ a2))) else (some false)
set_option maxHeartbeats 8000000 in
set_option maxRecDepth 100000 in
theorem model_within.calls (a0 : Int) (a1 : Int) (a2 : Int) (r : Bool) (w : World) (h : model_within.f a0 a1 a2 = some r) :
  Calls Try.prog 30 #[.int .i64 a0, .int .i64 a1, .int .i64 a2] w fun e w' => e = .returned (.bool r) ∧ Drawn0 w w' := by
 have H : (if a0 ≥ a1 then (some (decide (a0 ≤ a2))) else (some false)) = some r := h; clear h
 by_cases c4 : a0 ≥ a1
 ·rw [if_pos c4] at H; have c4b0 : decide (a1 ≤ a0) = true := decide_eq_true c4; clear c4; obtain rfl := Option.some.inj H
  go_enter Try.func30, Try.ntmps30
  go_wp2
  go_ret
  exact ⟨by first | rfl | (simp; done) | (simp [*]; done), by repeat (first | exact Drawn0.refl _ | apply Drawn0.step)⟩
 ·rw [if_neg c4] at H; have c4b0 : decide (a1 ≤ a0) = false := decide_eq_false c4; clear c4; obtain rfl := Option.some.inj H
  go_enter Try.func30, Try.ntmps30
  go_wp2
  go_ret
  exact ⟨by first | rfl | (simp; done) | (simp [*]; done), by repeat (first | exact Drawn0.refl _ | apply Drawn0.step)⟩
def model_tick.f (a0 : Int) : Option (Bool) := (model_within.f a0 (-1099511627776) 1099511627776).bind fun t219 => (some t219)
set_option maxHeartbeats 8000000 in
set_option maxRecDepth 100000 in
theorem model_tick.calls (a0 : Int) (r : Bool) (w : World) (h : model_tick.f a0 = some r) :
  Calls Try.prog 65 #[.int .i64 a0] w fun e w' => e = .returned (.bool r) ∧ Drawn0 w w' := by
 have H : ((model_within.f a0 (-1099511627776) 1099511627776).bind fun t219 => (some t219)) = some r := h
 clear h; obtain ⟨t219, A2, H⟩ := ob H; obtain rfl := Option.some.inj H
 go_enter Try.func65, Try.ntmps65
 go_wp2_with (first | ((with_reducible refine gate_callee (f := 30) rfl ?_); refine zC 4 Try.func30 #[.int .i64 a0, .int .i64 (-1099511627776), .int .i64 1099511627776] ?_; (with_reducible refine (model_within.calls a0 (-1099511627776) 1099511627776 t219 _ A2.out).mono ?_); rintro e w' ⟨rfl, ⟨nd, rfl⟩⟩; refine ⟨_, rfl, ?_⟩))
 go_ret
 exact ⟨by first | rfl | (simp; done) | (simp [*]; done), by repeat (first | exact Drawn0.refl _ | apply Drawn0.step)⟩
def model_tick.Pure : Prop := ∀ (a0 : Int), (Lit.int .i64 a0).wf = true → model_tick.f a0 = some true
theorem model_tick.walk (P : model_tick.Pure) (a0 : Int) (w : World) (w0 : (Lit.int .i64 a0).wf = true) :
  Calls Try.prog 65 #[.int .i64 a0] w fun e w' => e = .returned (.bool true) ∧ Below w.heap.size w w' := by
 have h := P a0 w0; refine (model_tick.calls a0 true w h).mono ?_; rintro e w' ⟨rfl, hd⟩
 exact ⟨rfl, hd.below⟩
end Go.Proofs.Ytknklchmpohjfaa.E

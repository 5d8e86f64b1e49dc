/-
  Printed walks.
-/
import Derived.Test.YtknklchmpohjfaaQRModelNeedsa
namespace Go.Proofs.Ytknklchmpohjfaa.E
open Go.Proofs.Ytknklchmpohjfaa.Z Go.RowKit Go.Proofs.YtknklchmpohjfaaW.PrintWords Go.Proofs.YtknklchmpohjfaaW.PrintLast Go.Proofs.YtknklchmpohjfaaW.PrintMore
attribute [local go_sem] max2_int min2_int max_two min_two max_three min_three max_four min_four
set_option linter.unusedVariables false
set_option linter.unusedSimpArgs false
mutual
def dioramaref03_edits.l0 : Nat → List (S86) → Int → Int → Option (Bool)
  | 0, _, _, _ => none
  | k + 1, x0, x3, x4 => if x4 < (x0.length : Int) then (if 0 ≤ x4 then ((dioramaref03_in.f ((rd_T86 x0 x4).f0) 1 1099511627776).bind fun t126 => (if t126 = true then ((dioramaref03_in.f ((rd_T86 x0 x4).f1) (-1) 1099511627776).bind fun t127 => (if t127 = true then ((dioramaref03_in.f ((rd_T86 x0 x4).f2) 0 1000).bind fun t128 => (if t128 = true then ((dioramaref03_in.f ((rd_T86 x0 x4).f3) 1 1000).bind fun t129 => (dioramaref03_edits.j1 k x0 x3 x4 (!t129) ((rd_T86 x0 x4).f0) ((rd_T86 x0 x4).f1) ((rd_T86 x0 x4).f2) ((rd_T86 x0 x4).f3))) else (dioramaref03_edits.j1 k x0 x3 x4 true ((rd_T86 x0 x4).f0) ((rd_T86 x0 x4).f1) ((rd_T86 x0 x4).f2) ((rd_T86 x0 x4).f3)))) else (dioramaref03_edits.j1 k x0 x3 x4 true ((rd_T86 x0 x4).f0) ((rd_T86 x0 x4).f1) ((rd_T86 x0 x4).f2) ((rd_T86 x0 x4).f3)))) else (dioramaref03_edits.j1 k x0 x3 x4 true ((rd_T86 x0 x4).f0) ((rd_T86 x0 x4).f1) ((rd_T86 x0 x4).f2) ((rd_T86 x0 x4).f3)))) else (none)) else (some (decide (x3 ≤ 1099511627776)))
def dioramaref03_edits.j1 : Nat → List (S86) → Int → Int → Bool → Int → Int → Int → Int → Option (Bool)
  | 0, _, _, _, _, _, _, _, _ => none
  | k + 1, x0, x3, x4, x37, x126000, x126001, x126002, x126003 => if x37 = true then (some false) else (if x126001 = (-1) then (if x126002 = 1 then (if x126003 = 1 then (dioramaref03_edits.l0 k x0 (wrap64 (x3 + x126000)) (wrap64 (x4 + 1))) else (some false)) else (some false)) else (dioramaref03_edits.l0 k x0 (wrap64 (x3 + x126000)) (wrap64 (x4 + 1))))
end
def dioramaref03_edits.f (k : Nat) (l0 : List (S86)) : Option (Bool) := dioramaref03_edits.l0 k l0 0 0
set_option maxHeartbeats 8000000 in
set_option maxRecDepth 100000 in
theorem dioramaref03_edits.calls (k : Nat) (A0 : Option Addr) (c0 : Nat) (l0 : List (S86)) (r : Bool) (w : World) (hr0 : Kd.C k86 w A0 l0.length l0) (hc0 : l0.length ≤ c0) (h : dioramaref03_edits.f k l0 = some r) :
  Calls Try.prog 47 #[.slice A0 l0.length c0] w fun e w' => e = .returned (.bool r) ∧ Below w.heap.size w w' := by
 have hu86 := Try.underlying86; have HR0 := Aside0.mk hr0; have HC0 := Aside0.mk hc0; clear hr0 hc0; have HB := Aside0.mk (Below.refl w.heap.size w); have H : (dioramaref03_edits.l0 k l0 0 0) = some r := h; clear h; have H' := Aside0.mk H; clear H
 go_enter Try.func47, Try.ntmps47
 go_wp2
 go_loopg [3, 4] k (fun kq v3 v4 w' => ∃ (x3_1 : Int) (x4_1 : Int), v3 = .int .i64 x3_1 ∧ v4 = .int .i64 x4_1 ∧ Aside0 (dioramaref03_edits.l0 kq l0 x3_1 x4_1 = some r) ∧ Aside0 (kq ≤ k) ∧ Aside0 (Below w.heap.size w w'))
 case atStart => exact ⟨(0), (0), jz, jz, H', ⟨Nat.le_refl _⟩, ⟨bz⟩⟩
 case round =>
  clear H'; obtain ⟨x3_1, x4_1, rfl, rfl, HA, HK1, HB⟩ := hrel
  cases gk with
  | zero => exact absurd HA.out (by simp [dioramaref03_edits.l0])
  | succ k1 =>
   have H := HA.out; clear HA; simp only [dioramaref03_edits.l0] at H
   by_cases c2 : x4_1 < (l0.length : Int)
   ·rw [if_pos c2] at H; have c2b0 : decide (x4_1 < (l0.length : Int)) = true := decide_eq_true c2; clear c2
    by_cases c3 : 0 ≤ x4_1
    ·rw [if_pos c3] at H; have c3b0 : decide (0 ≤ x4_1) = true := decide_eq_true c3; clear c3; have HC4 := Aside0.mk H; clear H; have p124 : 0 ≤ (x4_1 : Int) := od; have q124 : x4_1 < (l0.length : Int) := od; obtain ⟨ad124, e124, hx124_0, hx124_1, hx124_2, hx124_3⟩ := at_T86 HR0.out x4_1 p124 q124
     cases e124
     replace hx124_0 := cl HB hx124_0; replace hx124_1 := cl HB hx124_1; replace hx124_2 := cl HB hx124_2; replace hx124_3 := cl HB hx124_3; replace p124 := eq_true p124; replace q124 := eq_true q124
     go_upto_region 6 with (first | ((with_reducible refine gate_dst (N := 5) rfl ?_); refine zB 5 86 #[.int .i64 0, .int .i64 0, .int .i64 0, .int .i64 0] ?_; intro gb125 hg w5 hbox hb; have BK125 := Aside0.mk hbox; have GW125 := gz hg; have GE125 := gz hg; replace HB := bp hb; clear hb hbox hg; obtain ⟨hcz6_0, hcz6_1, hcz6_2, hcz6_3, hfz6_0, hfz6_1, hfz6_2, hfz6_3⟩ := xc4 BK125))
     (try simp only [Act.put, List.setIfInBounds_toArray, List.set_cons_zero, List.set_cons_succ])
     go_cut [37] (fun v37 wc => ∃ (kq : Nat) (x37_3 : Bool), v37 = .bool x37_3 ∧ Aside0 (dioramaref03_edits.j1 kq l0 x3_1 x4_1 x37_3 ((rd_T86 l0 x4_1).f0) ((rd_T86 l0 x4_1).f1) ((rd_T86 l0 x4_1).f2) ((rd_T86 l0 x4_1).f3) = some r) ∧ Aside0 (kq ≤ k1) ∧ Aside0 (wc.heap[gb125]? = some (.cells #[.int .i64 ((rd_T86 l0 x4_1).f0), .int .i64 ((rd_T86 l0 x4_1).f1), .int .i64 ((rd_T86 l0 x4_1).f2), .int .i64 ((rd_T86 l0 x4_1).f3)] 86 (0, 0))) ∧ Aside0 (Below w.heap.size w wc))
     case first =>
      have H := HC4.out; clear HC4; obtain ⟨t126, A7, H⟩ := ob H
      by_cases c8 : t126 = true
      ·subst c8; rw [if_pos rfl] at H; obtain ⟨t127, A9, H⟩ := ob H
       by_cases c10 : t127 = true
       ·subst c10; rw [if_pos rfl] at H; obtain ⟨t128, A11, H⟩ := ob H
        by_cases c12 : t128 = true
        ·subst c12; rw [if_pos rfl] at H; obtain ⟨t129, A13, H⟩ := ob H; have H' := Aside0.mk H; clear H; obtain ⟨hcz14_0, hcz14_1, hcz14_2, hcz14_3, hfz14_0, hfz14_1, hfz14_2, hfz14_3⟩ := xc4 BK125
         go_wp2_with (first | ((with_reducible refine gate_callee (f := 34) rfl ?_); refine zC 18 Try.func34 #[.int .i64 ((rd_T86 l0 x4_1).f0), .int .i64 1, .int .i64 1099511627776] ?_; (with_reducible refine (dioramaref03_in.calls ((rd_T86 l0 x4_1).f0) 1 1099511627776 true _ A7.out).mono ?_); rintro e w' ⟨rfl, ⟨nd, rfl⟩⟩; refine ⟨_, rfl, ?_⟩) | (go_at_call 34; (with_reducible refine (dioramaref03_in.calls ((rd_T86 l0 x4_1).f1) (-1) 1099511627776 true _ A9.out).mono ?_); rintro e w' ⟨rfl, ⟨nd, rfl⟩⟩) | (go_at_call 34; (with_reducible refine (dioramaref03_in.calls ((rd_T86 l0 x4_1).f2) 0 1000 true _ A11.out).mono ?_); rintro e w' ⟨rfl, ⟨nd, rfl⟩⟩) | (go_at_call 34; (with_reducible refine (dioramaref03_in.calls ((rd_T86 l0 x4_1).f3) 1 1000 t129 _ A13.out).mono ?_); rintro e w' ⟨rfl, ⟨nd, rfl⟩⟩))
         go_meet
         case rel => exact ⟨_, (!t129), jz, H', ⟨by have := HK1.out; first | omega | exact Nat.le_refl _⟩, ⟨by (with_reducible repeat (first | refine blk_drewN ?_ _ | refine blk_drew ?_ | refine blk_alloc ?_ _)); refine blk_put (cs := #[.int .i64 ((rd_T86 l0 x4_1).f0), .int .i64 ((rd_T86 l0 x4_1).f1), .int .i64 ((rd_T86 l0 x4_1).f2), .int .i64 0]) ?_ 3 _ rfl; (with_reducible repeat (first | refine blk_drewN ?_ _ | refine blk_drew ?_ | refine blk_alloc ?_ _)); refine blk_put (cs := #[.int .i64 ((rd_T86 l0 x4_1).f0), .int .i64 ((rd_T86 l0 x4_1).f1), .int .i64 0, .int .i64 0]) ?_ 2 _ rfl; (with_reducible repeat (first | refine blk_drewN ?_ _ | refine blk_drew ?_ | refine blk_alloc ?_ _)); refine blk_put (cs := #[.int .i64 ((rd_T86 l0 x4_1).f0), .int .i64 0, .int .i64 0, .int .i64 0]) ?_ 1 _ rfl; (with_reducible repeat (first | refine blk_drewN ?_ _ | refine blk_drew ?_ | refine blk_alloc ?_ _)); refine blk_put (cs := #[.int .i64 0, .int .i64 0, .int .i64 0, .int .i64 0]) ?_ 0 _ rfl; (with_reducible repeat (first | refine blk_drewN ?_ _ | refine blk_drew ?_ | refine blk_alloc ?_ _)); exact BK125.out⟩, ⟨bz⟩⟩
        ·obtain rfl := bf c12; rw [if_neg (show ¬ (false = true) by decide)] at H; have H' := Aside0.mk H; clear H; obtain ⟨hcz15_0, hcz15_1, hcz15_2, hcz15_3, hfz15_0, hfz15_1, hfz15_2, hfz15_3⟩ := xc4 BK125
         go_wp2_with (first | ((with_reducible refine gate_callee (f := 34) rfl ?_); refine zC 18 Try.func34 #[.int .i64 ((rd_T86 l0 x4_1).f0), .int .i64 1, .int .i64 1099511627776] ?_; (with_reducible refine (dioramaref03_in.calls ((rd_T86 l0 x4_1).f0) 1 1099511627776 true _ A7.out).mono ?_); rintro e w' ⟨rfl, ⟨nd, rfl⟩⟩; refine ⟨_, rfl, ?_⟩) | (go_at_call 34; (with_reducible refine (dioramaref03_in.calls ((rd_T86 l0 x4_1).f1) (-1) 1099511627776 true _ A9.out).mono ?_); rintro e w' ⟨rfl, ⟨nd, rfl⟩⟩) | (go_at_call 34; (with_reducible refine (dioramaref03_in.calls ((rd_T86 l0 x4_1).f2) 0 1000 false _ A11.out).mono ?_); rintro e w' ⟨rfl, ⟨nd, rfl⟩⟩))
         go_meet
         case rel => exact ⟨_, (true), jz, H', ⟨by have := HK1.out; first | omega | exact Nat.le_refl _⟩, ⟨by (with_reducible repeat (first | refine blk_drewN ?_ _ | refine blk_drew ?_ | refine blk_alloc ?_ _)); refine blk_put (cs := #[.int .i64 ((rd_T86 l0 x4_1).f0), .int .i64 ((rd_T86 l0 x4_1).f1), .int .i64 ((rd_T86 l0 x4_1).f2), .int .i64 0]) ?_ 3 _ rfl; (with_reducible repeat (first | refine blk_drewN ?_ _ | refine blk_drew ?_ | refine blk_alloc ?_ _)); refine blk_put (cs := #[.int .i64 ((rd_T86 l0 x4_1).f0), .int .i64 ((rd_T86 l0 x4_1).f1), .int .i64 0, .int .i64 0]) ?_ 2 _ rfl; (with_reducible repeat (first | refine blk_drewN ?_ _ | refine blk_drew ?_ | refine blk_alloc ?_ _)); refine blk_put (cs := #[.int .i64 ((rd_T86 l0 x4_1).f0), .int .i64 0, .int .i64 0, .int .i64 0]) ?_ 1 _ rfl; (with_reducible repeat (first | refine blk_drewN ?_ _ | refine blk_drew ?_ | refine blk_alloc ?_ _)); refine blk_put (cs := #[.int .i64 0, .int .i64 0, .int .i64 0, .int .i64 0]) ?_ 0 _ rfl; (with_reducible repeat (first | refine blk_drewN ?_ _ | refine blk_drew ?_ | refine blk_alloc ?_ _)); exact BK125.out⟩, ⟨bz⟩⟩
       ·obtain rfl := bf c10; rw [if_neg (show ¬ (false = true) by decide)] at H; have H' := Aside0.mk H; clear H; obtain ⟨hcz16_0, hcz16_1, hcz16_2, hcz16_3, hfz16_0, hfz16_1, hfz16_2, hfz16_3⟩ := xc4 BK125
        go_wp2_with (first | ((with_reducible refine gate_callee (f := 34) rfl ?_); refine zC 18 Try.func34 #[.int .i64 ((rd_T86 l0 x4_1).f0), .int .i64 1, .int .i64 1099511627776] ?_; (with_reducible refine (dioramaref03_in.calls ((rd_T86 l0 x4_1).f0) 1 1099511627776 true _ A7.out).mono ?_); rintro e w' ⟨rfl, ⟨nd, rfl⟩⟩; refine ⟨_, rfl, ?_⟩) | (go_at_call 34; (with_reducible refine (dioramaref03_in.calls ((rd_T86 l0 x4_1).f1) (-1) 1099511627776 false _ A9.out).mono ?_); rintro e w' ⟨rfl, ⟨nd, rfl⟩⟩))
        go_meet
        case rel => exact ⟨_, (true), jz, H', ⟨by have := HK1.out; first | omega | exact Nat.le_refl _⟩, ⟨by (with_reducible repeat (first | refine blk_drewN ?_ _ | refine blk_drew ?_ | refine blk_alloc ?_ _)); refine blk_put (cs := #[.int .i64 ((rd_T86 l0 x4_1).f0), .int .i64 ((rd_T86 l0 x4_1).f1), .int .i64 ((rd_T86 l0 x4_1).f2), .int .i64 0]) ?_ 3 _ rfl; (with_reducible repeat (first | refine blk_drewN ?_ _ | refine blk_drew ?_ | refine blk_alloc ?_ _)); refine blk_put (cs := #[.int .i64 ((rd_T86 l0 x4_1).f0), .int .i64 ((rd_T86 l0 x4_1).f1), .int .i64 0, .int .i64 0]) ?_ 2 _ rfl; (with_reducible repeat (first | refine blk_drewN ?_ _ | refine blk_drew ?_ | refine blk_alloc ?_ _)); refine blk_put (cs := #[.int .i64 ((rd_T86 l0 x4_1).f0), .int .i64 0, .int .i64 0, .int .i64 0]) ?_ 1 _ rfl; (with_reducible repeat (first | refine blk_drewN ?_ _ | refine blk_drew ?_ | refine blk_alloc ?_ _)); refine blk_put (cs := #[.int .i64 0, .int .i64 0, .int .i64 0, .int .i64 0]) ?_ 0 _ rfl; (with_reducible repeat (first | refine blk_drewN ?_ _ | refine blk_drew ?_ | refine blk_alloc ?_ _)); exact BK125.out⟩, ⟨bz⟩⟩
      ·obtain rfl := bf c8; rw [if_neg (show ¬ (false = true) by decide)] at H; have H' := Aside0.mk H; clear H; obtain ⟨hcz17_0, hcz17_1, hcz17_2, hcz17_3, hfz17_0, hfz17_1, hfz17_2, hfz17_3⟩ := xc4 BK125
       go_wp2_with (first | ((with_reducible refine gate_callee (f := 34) rfl ?_); refine zC 18 Try.func34 #[.int .i64 ((rd_T86 l0 x4_1).f0), .int .i64 1, .int .i64 1099511627776] ?_; (with_reducible refine (dioramaref03_in.calls ((rd_T86 l0 x4_1).f0) 1 1099511627776 false _ A7.out).mono ?_); rintro e w' ⟨rfl, ⟨nd, rfl⟩⟩; refine ⟨_, rfl, ?_⟩))
       go_meet
       case rel => exact ⟨_, (true), jz, H', ⟨by have := HK1.out; first | omega | exact Nat.le_refl _⟩, ⟨by (with_reducible repeat (first | refine blk_drewN ?_ _ | refine blk_drew ?_ | refine blk_alloc ?_ _)); refine blk_put (cs := #[.int .i64 ((rd_T86 l0 x4_1).f0), .int .i64 ((rd_T86 l0 x4_1).f1), .int .i64 ((rd_T86 l0 x4_1).f2), .int .i64 0]) ?_ 3 _ rfl; (with_reducible repeat (first | refine blk_drewN ?_ _ | refine blk_drew ?_ | refine blk_alloc ?_ _)); refine blk_put (cs := #[.int .i64 ((rd_T86 l0 x4_1).f0), .int .i64 ((rd_T86 l0 x4_1).f1), .int .i64 0, .int .i64 0]) ?_ 2 _ rfl; (with_reducible repeat (first | refine blk_drewN ?_ _ | refine blk_drew ?_ | refine blk_alloc ?_ _)); refine blk_put (cs := #[.int .i64 ((rd_T86 l0 x4_1).f0), .int .i64 0, .int .i64 0, .int .i64 0]) ?_ 1 _ rfl; (with_reducible repeat (first | refine blk_drewN ?_ _ | refine blk_drew ?_ | refine blk_alloc ?_ _)); refine blk_put (cs := #[.int .i64 0, .int .i64 0, .int .i64 0, .int .i64 0]) ?_ 0 _ rfl; (with_reducible repeat (first | refine blk_drewN ?_ _ | refine blk_drew ?_ | refine blk_alloc ?_ _)); exact BK125.out⟩, ⟨bz⟩⟩
     case rest =>
      clear HC4
      try clear c1
      try clear p1
      try clear q1
      try clear hx1
      try clear c2
      try clear c2b0
      try clear p2
      try clear c3
      try clear c3b0
      try clear c4
      try clear c8
      try clear c10
      try clear c12
      try clear p12
      try clear q12
      try clear hx12
      try clear hcz14_0
      try clear hcz14_1
      try clear hcz14_2
      try clear hcz14_3
      try clear hcz15_0
      try clear hcz15_1
      try clear hcz15_2
      try clear hcz15_3
      try clear hcz16_0
      try clear hcz16_1
      try clear hcz16_2
      try clear hcz16_3
      try clear hcz17_0
      try clear hcz17_1
      try clear hcz17_2
      try clear hcz17_3
      try clear hcz6_0
      try clear hcz6_1
      try clear hcz6_2
      try clear hcz6_3
      try clear hfz14_0
      try clear hfz14_1
      try clear hfz14_2
      try clear hfz14_3
      try clear hfz15_0
      try clear hfz15_1
      try clear hfz15_2
      try clear hfz15_3
      try clear hfz16_0
      try clear hfz16_1
      try clear hfz16_2
      try clear hfz16_3
      try clear hfz17_0
      try clear hfz17_1
      try clear hfz17_2
      try clear hfz17_3
      try clear hfz6_0
      try clear hfz6_1
      try clear hfz6_2
      try clear hfz6_3
      try clear hx124_0
      try clear hx124_1
      try clear hx124_2
      try clear hx124_3
      try clear p124
      try clear q124
      obtain ⟨kq, x37_3, rfl, HA, HJ3, BK125, HB⟩ := hcut
      cases kq with
      | zero => exact absurd HA.out (by simp [dioramaref03_edits.j1])
      | succ kj3 =>
       have H := HA.out; clear HA; simp only [dioramaref03_edits.j1] at H
       by_cases c18 : x37_3 = true
       ·subst c18; rw [if_pos rfl] at H; obtain rfl := Option.some.inj H
        go_wp2
        go_ret
        exact ⟨ez, bz⟩
       ·obtain rfl := bf c18; rw [if_neg (show ¬ (false = true) by decide)] at H
        by_cases c19 : ((rd_T86 l0 x4_1).f1) = (-1)
        ·rw [if_pos c19] at H; have c19b0 : (((rd_T86 l0 x4_1).f1) == (-1)) = true := beq_iff_eq.mpr c19; have c19b1 : (((rd_T86 l0 x4_1).f1) != (-1)) = false := bne_eq_false_iff_eq.mpr c19; clear c19
         by_cases c20 : ((rd_T86 l0 x4_1).f2) = 1
         ·rw [if_pos c20] at H; have c20b0 : (((rd_T86 l0 x4_1).f2) == 1) = true := beq_iff_eq.mpr c20; have c20b1 : (((rd_T86 l0 x4_1).f2) != 1) = false := bne_eq_false_iff_eq.mpr c20; clear c20
          by_cases c21 : ((rd_T86 l0 x4_1).f3) = 1
          ·rw [if_pos c21] at H; have c21b0 : (((rd_T86 l0 x4_1).f3) == 1) = true := beq_iff_eq.mpr c21; have c21b1 : (((rd_T86 l0 x4_1).f3) != 1) = false := bne_eq_false_iff_eq.mpr c21; clear c21; have H' := Aside0.mk H; clear H; obtain ⟨hcz22_0, hcz22_1, hcz22_2, hcz22_3, hfz22_0, hfz22_1, hfz22_2, hfz22_3⟩ := xc4 BK125
           go_wp2
           go_roundg kj3
           case measure => have := HK1.out; have := HJ3.out; omega
           case rel => exact ⟨(wrap64 (x3_1 + ((rd_T86 l0 x4_1).f0))), (wrap64 (x4_1 + 1)), jz, jz, H', ⟨by have := HK1.out; have := HJ3.out; omega⟩, ⟨bz⟩⟩
          ·rw [if_neg c21] at H; have c21b0 : (((rd_T86 l0 x4_1).f3) == 1) = false := beq_eq_false_iff_ne.mpr c21; have c21b1 : (((rd_T86 l0 x4_1).f3) != 1) = true := bne_iff_ne.mpr c21; obtain rfl := Option.some.inj H; obtain ⟨hcz23_0, hcz23_1, hcz23_2, hcz23_3, hfz23_0, hfz23_1, hfz23_2, hfz23_3⟩ := xc4 BK125
           go_wp2
           go_ret
           exact ⟨ez, bz⟩
         ·rw [if_neg c20] at H; have c20b0 : (((rd_T86 l0 x4_1).f2) == 1) = false := beq_eq_false_iff_ne.mpr c20; have c20b1 : (((rd_T86 l0 x4_1).f2) != 1) = true := bne_iff_ne.mpr c20; obtain rfl := Option.some.inj H; obtain ⟨hcz24_0, hcz24_1, hcz24_2, hcz24_3, hfz24_0, hfz24_1, hfz24_2, hfz24_3⟩ := xc4 BK125
          go_wp2
          go_ret
          exact ⟨ez, bz⟩
        ·rw [if_neg c19] at H; have c19b0 : (((rd_T86 l0 x4_1).f1) == (-1)) = false := beq_eq_false_iff_ne.mpr c19; have c19b1 : (((rd_T86 l0 x4_1).f1) != (-1)) = true := bne_iff_ne.mpr c19; have H' := Aside0.mk H; clear H; obtain ⟨hcz25_0, hcz25_1, hcz25_2, hcz25_3, hfz25_0, hfz25_1, hfz25_2, hfz25_3⟩ := xc4 BK125
         go_wp2
         go_roundg kj3
         case measure => have := HK1.out; have := HJ3.out; omega
         case rel => exact ⟨(wrap64 (x3_1 + ((rd_T86 l0 x4_1).f0))), (wrap64 (x4_1 + 1)), jz, jz, H', ⟨by have := HK1.out; have := HJ3.out; omega⟩, ⟨bz⟩⟩
    ·rw [if_neg c3] at H
     exact absurd H (by simp)
   ·rw [if_neg c2] at H; have c2b0 : decide (x4_1 < (l0.length : Int)) = false := decide_eq_false c2; clear c2; obtain rfl := Option.some.inj H
    go_wp2
    go_ret
    exact ⟨ez, bz⟩
mutual
def dioramaref03_sample.j0 : Nat → Int → Int → Bool → Int → Int → Int → Bool → List Int → List Int → Option (Int)
  | 0, _, _, _, _, _, _, _, _, _ => none
  | k + 1, x1, x2, x23, x131000, x131001, x131002, x131003, x131004, x131005 => if x23 = true then (some 1) else (if (x131005.length : Int) > 65536 then (dioramaref03_sample.j1 k x1 x2 true x131000 x131001 x131002 x131003 x131004 x131005) else (dioramaref03_sample.j1 k x1 x2 (decide ((x131004.length : Int) > 4)) x131000 x131001 x131002 x131003 x131004 x131005))
def dioramaref03_sample.j1 : Nat → Int → Int → Bool → Int → Int → Int → Bool → List Int → List Int → Option (Int)
  | 0, _, _, _, _, _, _, _, _, _ => none
  | k + 1, x1, x2, x33, x131000, x131001, x131002, x131003, x131004, x131005 => if x33 = true then (some 2) else (if x1 > 0 then (dioramaref03_sample.j2 k x1 (decide (x131000 ≤ x2)) x131000 x131001 x131002 x131003 x131004 x131005) else (dioramaref03_sample.j2 k x1 false x131000 x131001 x131002 x131003 x131004 x131005))
def dioramaref03_sample.j2 : Nat → Int → Bool → Int → Int → Int → Bool → List Int → List Int → Option (Int)
  | 0, _, _, _, _, _, _, _, _ => none
  | k + 1, x1, x41, x131000, x131001, x131002, x131003, x131004, x131005 => if x41 = true then (some 31) else (dioramaref03_sample.l0 k x1 0 x131000 x131001 x131002 x131003 x131004 x131005)
def dioramaref03_sample.l0 : Nat → Int → Int → Int → Int → Int → Bool → List Int → List Int → Option (Int)
  | 0, _, _, _, _, _, _, _, _ => none
  | k + 1, x1, x7, x131000, x131001, x131002, x131003, x131004, x131005 => if x7 < (x131004.length : Int) then (if 0 ≤ x7 then (if (rd x131004 x7) < 0 then (some 32) else (if (rd x131004 x7) ≥ x1 then (some 32) else (if x7 > 0 then (if 0 ≤ (wrap64 (x7 - 1)) then (if (wrap64 (x7 - 1)) < (x131004.length : Int) then (if (rd x131004 x7) ≤ (rd x131004 (wrap64 (x7 - 1))) then (some 32) else (dioramaref03_sample.l0 k x1 (wrap64 (x7 + 1)) x131000 x131001 x131002 x131003 x131004 x131005)) else (none)) else (none)) else (dioramaref03_sample.l0 k x1 (wrap64 (x7 + 1)) x131000 x131001 x131002 x131003 x131004 x131005)))) else (none)) else (if x131003 = true then (if (x131004.length : Int) > 0 then (some 32) else (some 0)) else (some 0))
end
def dioramaref03_sample.f (k : Nat) (a0_0 : Int) (a0_1 : Int) (a0_2 : Int) (a0_3 : Bool) (l0_4 : List Int) (l0_5 : List Int) (a1 : Int) (a2 : Int) : Option (Int) := (dioramaref03_in.f a0_0 (-1099511627776) 1099511627776).bind fun t131 => (if t131 = true then ((dioramaref03_in.f a0_1 (-1099511627776) 1099511627776).bind fun t132 => (if t132 = true then ((dioramaref03_in.f a0_2 0 1099511627776).bind fun t133 => (dioramaref03_sample.j0 k a1 a2 (!t133) a0_0 a0_1 a0_2 a0_3 l0_4 l0_5)) else (dioramaref03_sample.j0 k a1 a2 true a0_0 a0_1 a0_2 a0_3 l0_4 l0_5))) else (dioramaref03_sample.j0 k a1 a2 true a0_0 a0_1 a0_2 a0_3 l0_4 l0_5))
set_option maxHeartbeats 8000000 in
set_option maxRecDepth 100000 in
theorem dioramaref03_sample.calls (k : Nat) (a0_0 : Int) (a0_1 : Int) (a0_2 : Int) (a0_3 : Bool) (A0_4 : Option Addr) (c0_4 : Nat) (l0_4 : List Int) (A0_5 : Option Addr) (c0_5 : Nat) (l0_5 : List Int) (a1 : Int) (a2 : Int) (r : Int) (w : World) (hr0_4 : Kd.C (Kd.int .i64) w A0_4 l0_4.length l0_4) (hc0_4 : l0_4.length ≤ c0_4) (hr0_5 : Kd.C (Kd.int .u8) w A0_5 l0_5.length l0_5) (hc0_5 : l0_5.length ≤ c0_5) (h : dioramaref03_sample.f k a0_0 a0_1 a0_2 a0_3 l0_4 l0_5 a1 a2 = some r) :
  Calls Try.prog 48 #[.agg #[.int .i64 a0_0, .int .i64 a0_1, .int .i64 a0_2, .bool a0_3, .slice A0_4 l0_4.length c0_4, .slice A0_5 l0_5.length c0_5], .int .i64 a1, .int .i64 a2] w fun e w' => e = .returned (.int .i64 r) ∧ Below w.heap.size w w' := by
 have hu51 := Try.underlying51; have HR0_4 := Aside0.mk hr0_4; have HC0_4 := Aside0.mk hc0_4; clear hr0_4 hc0_4; have HR0_5 := Aside0.mk hr0_5; have HC0_5 := Aside0.mk hc0_5; clear hr0_5 hc0_5; have HB := Aside0.mk (Below.refl w.heap.size w); have H : ((dioramaref03_in.f a0_0 (-1099511627776) 1099511627776).bind fun t131 => (if t131 = true then ((dioramaref03_in.f a0_1 (-1099511627776) 1099511627776).bind fun t132 => (if t132 = true then ((dioramaref03_in.f a0_2 0 1099511627776).bind fun t133 => (dioramaref03_sample.j0 k a1 a2 (!t133) a0_0 a0_1 a0_2 a0_3 l0_4 l0_5)) else (dioramaref03_sample.j0 k a1 a2 true a0_0 a0_1 a0_2 a0_3 l0_4 l0_5))) else (dioramaref03_sample.j0 k a1 a2 true a0_0 a0_1 a0_2 a0_3 l0_4 l0_5))) = some r := h
 clear h; have HC4 := Aside0.mk H; clear H
 go_enter Try.func48, Try.ntmps48
 go_upto_region 1 with (first | ((with_reducible refine gate_dst (N := 3) rfl ?_); refine zB 3 51 #[.int .i64 a0_0, .int .i64 a0_1, .int .i64 a0_2, .bool a0_3, .slice A0_4 l0_4.length c0_4, .slice A0_5 l0_5.length c0_5] ?_; intro gb130 hg w5 hbox hb; have BK130 := Aside0.mk hbox; have GW130 := gz hg; have GE130 := gz hg; replace HB := bp hb; clear hb hbox hg))
 repeat (go_quiet (first | ((with_reducible refine gate_dst (N := 3) rfl ?_); refine zB 3 51 #[.int .i64 a0_0, .int .i64 a0_1, .int .i64 a0_2, .bool a0_3, .slice A0_4 l0_4.length c0_4, .slice A0_5 l0_5.length c0_5] ?_; intro gb130 hg w5 hbox hb; have n0_ := bp hb; have n1_ := Aside0.mk hbox; have n2_ := gz hg; have n3_ := gz hg; clear HB; have HB := n0_; have BK130 := n1_; have GW130 := n2_; have GE130 := n3_; clear n0_ n1_ n2_ n3_; clear hb hbox hg)); go_upto_region 1 with (first | ((with_reducible refine gate_dst (N := 3) rfl ?_); refine zB 3 51 #[.int .i64 a0_0, .int .i64 a0_1, .int .i64 a0_2, .bool a0_3, .slice A0_4 l0_4.length c0_4, .slice A0_5 l0_5.length c0_5] ?_; intro gb130 hg w5 hbox hb; have BK130 := Aside0.mk hbox; have GW130 := gz hg; have GE130 := gz hg; replace HB := bp hb; clear hb hbox hg)))
 (try simp only [Act.put, List.setIfInBounds_toArray, List.set_cons_zero, List.set_cons_succ])
 go_cut [23] (fun v23 wc => ∃ (kq : Nat) (x23_3 : Bool), v23 = .bool x23_3 ∧ Aside0 (dioramaref03_sample.j0 kq a1 a2 x23_3 a0_0 a0_1 a0_2 a0_3 l0_4 l0_5 = some r) ∧ Aside0 (kq ≤ k) ∧ Aside0 (wc.heap[gb130]? = some (.cells #[.int .i64 a0_0, .int .i64 a0_1, .int .i64 a0_2, .bool a0_3, (.slice A0_4 l0_4.length c0_4), (.slice A0_5 l0_5.length c0_5)] 51 (0, 0))) ∧ Aside0 (Below w.heap.size w wc))
 case first =>
  have H := HC4.out; clear HC4; obtain ⟨t131, A6, H⟩ := ob H
  by_cases c7 : t131 = true
  ·subst c7; rw [if_pos rfl] at H; obtain ⟨t132, A8, H⟩ := ob H
   by_cases c9 : t132 = true
   ·subst c9; rw [if_pos rfl] at H; obtain ⟨t133, A10, H⟩ := ob H; have H' := Aside0.mk H; clear H; have hcz11_0 : w5.cell? ⟨gb130, 0, none⟩ = some (.int .i64 a0_0) := ct BK130 0; have hcz11_1 : w5.cell? ⟨gb130, 1, none⟩ = some (.int .i64 a0_1) := ct BK130 1; have hcz11_2 : w5.cell? ⟨gb130, 2, none⟩ = some (.int .i64 a0_2) := ct BK130 2; have hcz11_3 : w5.cell? ⟨gb130, 3, none⟩ = some (.bool a0_3) := ct BK130 3; have hcz11_4 : w5.cell? ⟨gb130, 4, none⟩ = some (.slice A0_4 l0_4.length c0_4) := ct BK130 4; have hcz11_5 : w5.cell? ⟨gb130, 5, none⟩ = some (.slice A0_5 l0_5.length c0_5) := ct BK130 5; have hfz11_0 := blk_frozen BK130.out 0; have hfz11_1 := blk_frozen BK130.out 1; have hfz11_2 := blk_frozen BK130.out 2; have hfz11_3 := blk_frozen BK130.out 3; have hfz11_4 := blk_frozen BK130.out 4; have hfz11_5 := blk_frozen BK130.out 5
    go_wp2_with (first | (go_at_call 34; (with_reducible refine (dioramaref03_in.calls a0_0 (-1099511627776) 1099511627776 true _ A6.out).mono ?_); rintro e w' ⟨rfl, ⟨nd, rfl⟩⟩; (try first | exact ⟨rfl, _, World.drewN_drewN _ _ _⟩ | exact ⟨rfl, _, Eq.trans (World.drewN_drewN _ _ _) (congrArg (World.drewN _) (Nat.add_assoc _ _ _))⟩)) | (go_at_call 34; (with_reducible refine (dioramaref03_in.calls a0_1 (-1099511627776) 1099511627776 true _ A8.out).mono ?_); rintro e w' ⟨rfl, ⟨nd, rfl⟩⟩; (try first | exact ⟨rfl, _, World.drewN_drewN _ _ _⟩ | exact ⟨rfl, _, Eq.trans (World.drewN_drewN _ _ _) (congrArg (World.drewN _) (Nat.add_assoc _ _ _))⟩)) | (go_at_call 34; (with_reducible refine (dioramaref03_in.calls a0_2 0 1099511627776 t133 _ A10.out).mono ?_); rintro e w' ⟨rfl, ⟨nd, rfl⟩⟩; (try first | exact ⟨rfl, _, World.drewN_drewN _ _ _⟩ | exact ⟨rfl, _, Eq.trans (World.drewN_drewN _ _ _) (congrArg (World.drewN _) (Nat.add_assoc _ _ _))⟩)))
    repeat (go_quiet (first | (go_at_call 34; (with_reducible refine (dioramaref03_in.calls a0_0 (-1099511627776) 1099511627776 true _ A6.out).mono ?_); rintro e w' ⟨rfl, ⟨nd, rfl⟩⟩; (try first | exact ⟨rfl, _, World.drewN_drewN _ _ _⟩ | exact ⟨rfl, _, Eq.trans (World.drewN_drewN _ _ _) (congrArg (World.drewN _) (Nat.add_assoc _ _ _))⟩)) | (go_at_call 34; (with_reducible refine (dioramaref03_in.calls a0_1 (-1099511627776) 1099511627776 true _ A8.out).mono ?_); rintro e w' ⟨rfl, ⟨nd, rfl⟩⟩; (try first | exact ⟨rfl, _, World.drewN_drewN _ _ _⟩ | exact ⟨rfl, _, Eq.trans (World.drewN_drewN _ _ _) (congrArg (World.drewN _) (Nat.add_assoc _ _ _))⟩)) | (go_at_call 34; (with_reducible refine (dioramaref03_in.calls a0_2 0 1099511627776 t133 _ A10.out).mono ?_); rintro e w' ⟨rfl, ⟨nd, rfl⟩⟩; (try first | exact ⟨rfl, _, World.drewN_drewN _ _ _⟩ | exact ⟨rfl, _, Eq.trans (World.drewN_drewN _ _ _) (congrArg (World.drewN _) (Nat.add_assoc _ _ _))⟩))); try go_wp2_with (first | (go_at_call 34; (with_reducible refine (dioramaref03_in.calls a0_0 (-1099511627776) 1099511627776 true _ A6.out).mono ?_); rintro e w' ⟨rfl, ⟨nd, rfl⟩⟩; (try first | exact ⟨rfl, _, World.drewN_drewN _ _ _⟩ | exact ⟨rfl, _, Eq.trans (World.drewN_drewN _ _ _) (congrArg (World.drewN _) (Nat.add_assoc _ _ _))⟩)) | (go_at_call 34; (with_reducible refine (dioramaref03_in.calls a0_1 (-1099511627776) 1099511627776 true _ A8.out).mono ?_); rintro e w' ⟨rfl, ⟨nd, rfl⟩⟩; (try first | exact ⟨rfl, _, World.drewN_drewN _ _ _⟩ | exact ⟨rfl, _, Eq.trans (World.drewN_drewN _ _ _) (congrArg (World.drewN _) (Nat.add_assoc _ _ _))⟩)) | (go_at_call 34; (with_reducible refine (dioramaref03_in.calls a0_2 0 1099511627776 t133 _ A10.out).mono ?_); rintro e w' ⟨rfl, ⟨nd, rfl⟩⟩; (try first | exact ⟨rfl, _, World.drewN_drewN _ _ _⟩ | exact ⟨rfl, _, Eq.trans (World.drewN_drewN _ _ _) (congrArg (World.drewN _) (Nat.add_assoc _ _ _))⟩))))
    go_meet
    case rel => exact ⟨_, (!t133), jz, H', ⟨by first | omega | exact Nat.le_refl _⟩, ⟨kz⟩, ⟨bz⟩⟩
   ·obtain rfl := bf c9; rw [if_neg (show ¬ (false = true) by decide)] at H; have H' := Aside0.mk H; clear H; have hcz12_0 : w5.cell? ⟨gb130, 0, none⟩ = some (.int .i64 a0_0) := ct BK130 0; have hcz12_1 : w5.cell? ⟨gb130, 1, none⟩ = some (.int .i64 a0_1) := ct BK130 1; have hcz12_2 : w5.cell? ⟨gb130, 2, none⟩ = some (.int .i64 a0_2) := ct BK130 2; have hcz12_3 : w5.cell? ⟨gb130, 3, none⟩ = some (.bool a0_3) := ct BK130 3; have hcz12_4 : w5.cell? ⟨gb130, 4, none⟩ = some (.slice A0_4 l0_4.length c0_4) := ct BK130 4; have hcz12_5 : w5.cell? ⟨gb130, 5, none⟩ = some (.slice A0_5 l0_5.length c0_5) := ct BK130 5; have hfz12_0 := blk_frozen BK130.out 0; have hfz12_1 := blk_frozen BK130.out 1; have hfz12_2 := blk_frozen BK130.out 2; have hfz12_3 := blk_frozen BK130.out 3; have hfz12_4 := blk_frozen BK130.out 4; have hfz12_5 := blk_frozen BK130.out 5
    go_wp2_with (first | (go_at_call 34; (with_reducible refine (dioramaref03_in.calls a0_0 (-1099511627776) 1099511627776 true _ A6.out).mono ?_); rintro e w' ⟨rfl, ⟨nd, rfl⟩⟩; (try first | exact ⟨rfl, _, World.drewN_drewN _ _ _⟩ | exact ⟨rfl, _, Eq.trans (World.drewN_drewN _ _ _) (congrArg (World.drewN _) (Nat.add_assoc _ _ _))⟩)) | (go_at_call 34; (with_reducible refine (dioramaref03_in.calls a0_1 (-1099511627776) 1099511627776 false _ A8.out).mono ?_); rintro e w' ⟨rfl, ⟨nd, rfl⟩⟩; (try first | exact ⟨rfl, _, World.drewN_drewN _ _ _⟩ | exact ⟨rfl, _, Eq.trans (World.drewN_drewN _ _ _) (congrArg (World.drewN _) (Nat.add_assoc _ _ _))⟩)))
    repeat (go_quiet (first | (go_at_call 34; (with_reducible refine (dioramaref03_in.calls a0_0 (-1099511627776) 1099511627776 true _ A6.out).mono ?_); rintro e w' ⟨rfl, ⟨nd, rfl⟩⟩; (try first | exact ⟨rfl, _, World.drewN_drewN _ _ _⟩ | exact ⟨rfl, _, Eq.trans (World.drewN_drewN _ _ _) (congrArg (World.drewN _) (Nat.add_assoc _ _ _))⟩)) | (go_at_call 34; (with_reducible refine (dioramaref03_in.calls a0_1 (-1099511627776) 1099511627776 false _ A8.out).mono ?_); rintro e w' ⟨rfl, ⟨nd, rfl⟩⟩; (try first | exact ⟨rfl, _, World.drewN_drewN _ _ _⟩ | exact ⟨rfl, _, Eq.trans (World.drewN_drewN _ _ _) (congrArg (World.drewN _) (Nat.add_assoc _ _ _))⟩))); try go_wp2_with (first | (go_at_call 34; (with_reducible refine (dioramaref03_in.calls a0_0 (-1099511627776) 1099511627776 true _ A6.out).mono ?_); rintro e w' ⟨rfl, ⟨nd, rfl⟩⟩; (try first | exact ⟨rfl, _, World.drewN_drewN _ _ _⟩ | exact ⟨rfl, _, Eq.trans (World.drewN_drewN _ _ _) (congrArg (World.drewN _) (Nat.add_assoc _ _ _))⟩)) | (go_at_call 34; (with_reducible refine (dioramaref03_in.calls a0_1 (-1099511627776) 1099511627776 false _ A8.out).mono ?_); rintro e w' ⟨rfl, ⟨nd, rfl⟩⟩; (try first | exact ⟨rfl, _, World.drewN_drewN _ _ _⟩ | exact ⟨rfl, _, Eq.trans (World.drewN_drewN _ _ _) (congrArg (World.drewN _) (Nat.add_assoc _ _ _))⟩))))
    go_meet
    case rel => exact ⟨_, (true), jz, H', ⟨by first | omega | exact Nat.le_refl _⟩, ⟨kz⟩, ⟨bz⟩⟩
  ·obtain rfl := bf c7; rw [if_neg (show ¬ (false = true) by decide)] at H; have H' := Aside0.mk H; clear H; have hcz13_0 : w5.cell? ⟨gb130, 0, none⟩ = some (.int .i64 a0_0) := ct BK130 0; have hcz13_1 : w5.cell? ⟨gb130, 1, none⟩ = some (.int .i64 a0_1) := ct BK130 1; have hcz13_2 : w5.cell? ⟨gb130, 2, none⟩ = some (.int .i64 a0_2) := ct BK130 2; have hcz13_3 : w5.cell? ⟨gb130, 3, none⟩ = some (.bool a0_3) := ct BK130 3; have hcz13_4 : w5.cell? ⟨gb130, 4, none⟩ = some (.slice A0_4 l0_4.length c0_4) := ct BK130 4; have hcz13_5 : w5.cell? ⟨gb130, 5, none⟩ = some (.slice A0_5 l0_5.length c0_5) := ct BK130 5; have hfz13_0 := blk_frozen BK130.out 0; have hfz13_1 := blk_frozen BK130.out 1; have hfz13_2 := blk_frozen BK130.out 2; have hfz13_3 := blk_frozen BK130.out 3; have hfz13_4 := blk_frozen BK130.out 4; have hfz13_5 := blk_frozen BK130.out 5
   go_wp2_with (first | (go_at_call 34; (with_reducible refine (dioramaref03_in.calls a0_0 (-1099511627776) 1099511627776 false _ A6.out).mono ?_); rintro e w' ⟨rfl, ⟨nd, rfl⟩⟩; (try first | exact ⟨rfl, _, World.drewN_drewN _ _ _⟩ | exact ⟨rfl, _, Eq.trans (World.drewN_drewN _ _ _) (congrArg (World.drewN _) (Nat.add_assoc _ _ _))⟩)))
   repeat (go_quiet (first | (go_at_call 34; (with_reducible refine (dioramaref03_in.calls a0_0 (-1099511627776) 1099511627776 false _ A6.out).mono ?_); rintro e w' ⟨rfl, ⟨nd, rfl⟩⟩; (try first | exact ⟨rfl, _, World.drewN_drewN _ _ _⟩ | exact ⟨rfl, _, Eq.trans (World.drewN_drewN _ _ _) (congrArg (World.drewN _) (Nat.add_assoc _ _ _))⟩))); try go_wp2_with (first | (go_at_call 34; (with_reducible refine (dioramaref03_in.calls a0_0 (-1099511627776) 1099511627776 false _ A6.out).mono ?_); rintro e w' ⟨rfl, ⟨nd, rfl⟩⟩; (try first | exact ⟨rfl, _, World.drewN_drewN _ _ _⟩ | exact ⟨rfl, _, Eq.trans (World.drewN_drewN _ _ _) (congrArg (World.drewN _) (Nat.add_assoc _ _ _))⟩))))
   go_meet
   case rel => exact ⟨_, (true), jz, H', ⟨by first | omega | exact Nat.le_refl _⟩, ⟨kz⟩, ⟨bz⟩⟩
 case rest =>
  clear HC4
  try clear p2
  try clear c4
  try clear c7
  try clear c9
  try clear hcz11_0
  try clear hcz11_1
  try clear hcz11_2
  try clear hcz11_3
  try clear hcz11_4
  try clear hcz11_5
  try clear hcz12_0
  try clear hcz12_1
  try clear hcz12_2
  try clear hcz12_3
  try clear hcz12_4
  try clear hcz12_5
  try clear hcz13_0
  try clear hcz13_1
  try clear hcz13_2
  try clear hcz13_3
  try clear hcz13_4
  try clear hcz13_5
  try clear hfz11_0
  try clear hfz11_1
  try clear hfz11_2
  try clear hfz11_3
  try clear hfz11_4
  try clear hfz11_5
  try clear hfz12_0
  try clear hfz12_1
  try clear hfz12_2
  try clear hfz12_3
  try clear hfz12_4
  try clear hfz12_5
  try clear hfz13_0
  try clear hfz13_1
  try clear hfz13_2
  try clear hfz13_3
  try clear hfz13_4
  try clear hfz13_5
  obtain ⟨kq, x23_3, rfl, HA, HJ3, BK130, HB⟩ := hcut
  cases kq with
  | zero => exact absurd HA.out (by simp [dioramaref03_sample.j0])
  | succ kj3 =>
   have H := HA.out; clear HA; simp only [dioramaref03_sample.j0] at H
   by_cases c14 : x23_3 = true
   ·subst c14; rw [if_pos rfl] at H; obtain rfl := Option.some.inj H
    go_wp2
    repeat (go_quiet (fail); try go_wp2)
    go_ret
    exact ⟨ez, bz⟩
   ·obtain rfl := bf c14; rw [if_neg (show ¬ (false = true) by decide)] at H; have HC15 := Aside0.mk H; clear H
    go_upto_region 3 with (fail)
    repeat (go_quiet (fail); go_upto_region 3 with (fail))
    go_cut [33] (fun v33 wc => ∃ (kq : Nat) (x33_14 : Bool), v33 = .bool x33_14 ∧ Aside0 (dioramaref03_sample.j1 kq a1 a2 x33_14 a0_0 a0_1 a0_2 a0_3 l0_4 l0_5 = some r) ∧ Aside0 (kq ≤ kj3) ∧ Aside0 (wc.heap[gb130]? = some (.cells #[.int .i64 a0_0, .int .i64 a0_1, .int .i64 a0_2, .bool a0_3, (.slice A0_4 l0_4.length c0_4), (.slice A0_5 l0_5.length c0_5)] 51 (0, 0))) ∧ Aside0 (Below w.heap.size w wc))
    case first =>
     have H := HC15.out; clear HC15
     by_cases c16 : (l0_5.length : Int) > 65536
     ·rw [if_pos c16] at H; have c16b0 : decide (65536 < (l0_5.length : Int)) = true := decide_eq_true c16; have c16b1 : decide (65536 < l0_5.length) = true := decide_eq_true (by omega); clear c16
      (first | rw [c16b0] | (simp only [i64_w, i32_w]; rw [c16b0]) | skip)
      have H' := Aside0.mk H; clear H; have hcz17_0 : wc.cell? ⟨gb130, 0, none⟩ = some (.int .i64 a0_0) := ct BK130 0; have hcz17_1 : wc.cell? ⟨gb130, 1, none⟩ = some (.int .i64 a0_1) := ct BK130 1; have hcz17_2 : wc.cell? ⟨gb130, 2, none⟩ = some (.int .i64 a0_2) := ct BK130 2; have hcz17_3 : wc.cell? ⟨gb130, 3, none⟩ = some (.bool a0_3) := ct BK130 3; have hcz17_4 : wc.cell? ⟨gb130, 4, none⟩ = some (.slice A0_4 l0_4.length c0_4) := ct BK130 4; have hcz17_5 : wc.cell? ⟨gb130, 5, none⟩ = some (.slice A0_5 l0_5.length c0_5) := ct BK130 5; have hfz17_0 := blk_frozen BK130.out 0; have hfz17_1 := blk_frozen BK130.out 1; have hfz17_2 := blk_frozen BK130.out 2; have hfz17_3 := blk_frozen BK130.out 3; have hfz17_4 := blk_frozen BK130.out 4; have hfz17_5 := blk_frozen BK130.out 5
      go_wp2
      repeat (go_quiet (fail); try go_wp2)
      go_meet
      case rel => exact ⟨_, (true), jz, H', ⟨by have := HJ3.out; first | omega | exact Nat.le_refl _⟩, ⟨kz⟩, ⟨bz⟩⟩
     ·rw [if_neg c16] at H; have c16b0 : decide (65536 < (l0_5.length : Int)) = false := decide_eq_false c16; have c16b1 : decide (65536 < l0_5.length) = false := decide_eq_false (by omega); clear c16
      (first | rw [c16b0] | (simp only [i64_w, i32_w]; rw [c16b0]) | skip)
      have H' := Aside0.mk H; clear H; have hcz18_0 : wc.cell? ⟨gb130, 0, none⟩ = some (.int .i64 a0_0) := ct BK130 0; have hcz18_1 : wc.cell? ⟨gb130, 1, none⟩ = some (.int .i64 a0_1) := ct BK130 1; have hcz18_2 : wc.cell? ⟨gb130, 2, none⟩ = some (.int .i64 a0_2) := ct BK130 2; have hcz18_3 : wc.cell? ⟨gb130, 3, none⟩ = some (.bool a0_3) := ct BK130 3; have hcz18_4 : wc.cell? ⟨gb130, 4, none⟩ = some (.slice A0_4 l0_4.length c0_4) := ct BK130 4; have hcz18_5 : wc.cell? ⟨gb130, 5, none⟩ = some (.slice A0_5 l0_5.length c0_5) := ct BK130 5; have hfz18_0 := blk_frozen BK130.out 0; have hfz18_1 := blk_frozen BK130.out 1; have hfz18_2 := blk_frozen BK130.out 2; have hfz18_3 := blk_frozen BK130.out 3; have hfz18_4 := blk_frozen BK130.out 4; have hfz18_5 := blk_frozen BK130.out 5
      go_wp2
      repeat (go_quiet (fail); try go_wp2)
      go_meet
      case rel => exact ⟨_, (decide ((l0_4.length : Int) > 4)), jz, H', ⟨by have := HJ3.out; first | omega | exact Nat.le_refl _⟩, ⟨kz⟩, ⟨bz⟩⟩
    case rest =>
     clear HC15
     try clear c1
     try clear p2
     try clear c4
     try clear c7
     try clear c9
     try clear c14
     try clear c16
     try clear c16b0
     try clear c16b1
     try clear hcz11_0
     try clear hcz11_1
     try clear hcz11_2
     try clear hcz11_3
     try clear hcz11_4
     try clear hcz11_5
     try clear hcz12_0
     try clear hcz12_1
     try clear hcz12_2
     try clear hcz12_3
     try clear hcz12_4
     try clear hcz12_5
     try clear hcz13_0
     try clear hcz13_1
     try clear hcz13_2
     try clear hcz13_3
     try clear hcz13_4
     try clear hcz13_5
     try clear hcz17_0
     try clear hcz17_1
     try clear hcz17_2
     try clear hcz17_3
     try clear hcz17_4
     try clear hcz17_5
     try clear hcz18_0
     try clear hcz18_1
     try clear hcz18_2
     try clear hcz18_3
     try clear hcz18_4
     try clear hcz18_5
     try clear hfz11_0
     try clear hfz11_1
     try clear hfz11_2
     try clear hfz11_3
     try clear hfz11_4
     try clear hfz11_5
     try clear hfz12_0
     try clear hfz12_1
     try clear hfz12_2
     try clear hfz12_3
     try clear hfz12_4
     try clear hfz12_5
     try clear hfz13_0
     try clear hfz13_1
     try clear hfz13_2
     try clear hfz13_3
     try clear hfz13_4
     try clear hfz13_5
     try clear hfz17_0
     try clear hfz17_1
     try clear hfz17_2
     try clear hfz17_3
     try clear hfz17_4
     try clear hfz17_5
     try clear hfz18_0
     try clear hfz18_1
     try clear hfz18_2
     try clear hfz18_3
     try clear hfz18_4
     try clear hfz18_5
     try clear p2
     obtain ⟨kq, x33_14, rfl, HA, HJ14, BK130, HB⟩ := hcut
     cases kq with
     | zero => exact absurd HA.out (by simp [dioramaref03_sample.j1])
     | succ kj14 =>
      have H := HA.out; clear HA; simp only [dioramaref03_sample.j1] at H
      by_cases c19 : x33_14 = true
      ·subst c19; rw [if_pos rfl] at H; obtain rfl := Option.some.inj H
       go_wp2
       repeat (go_quiet (fail); try go_wp2)
       go_ret
       exact ⟨ez, bz⟩
      ·obtain rfl := bf c19; rw [if_neg (show ¬ (false = true) by decide)] at H; have HC20 := Aside0.mk H; clear H
       go_upto_region 5 with (fail)
       repeat (go_quiet (fail); go_upto_region 5 with (fail))
       go_cut [41] (fun v41 wc => ∃ (kq : Nat) (x41_19 : Bool), v41 = .bool x41_19 ∧ Aside0 (dioramaref03_sample.j2 kq a1 x41_19 a0_0 a0_1 a0_2 a0_3 l0_4 l0_5 = some r) ∧ Aside0 (kq ≤ kj14) ∧ Aside0 (wc.heap[gb130]? = some (.cells #[.int .i64 a0_0, .int .i64 a0_1, .int .i64 a0_2, .bool a0_3, (.slice A0_4 l0_4.length c0_4), (.slice A0_5 l0_5.length c0_5)] 51 (0, 0))) ∧ Aside0 (Below w.heap.size w wc))
       case first =>
        have H := HC20.out; clear HC20
        by_cases c21 : a1 > 0
        ·rw [if_pos c21] at H; have c21b0 : decide (0 < a1) = true := decide_eq_true c21; clear c21
         (first | rw [c21b0] | (simp only [i64_w, i32_w]; rw [c21b0]) | skip)
         have H' := Aside0.mk H; clear H; have hcz22_0 : wc.cell? ⟨gb130, 0, none⟩ = some (.int .i64 a0_0) := ct BK130 0; have hcz22_1 : wc.cell? ⟨gb130, 1, none⟩ = some (.int .i64 a0_1) := ct BK130 1; have hcz22_2 : wc.cell? ⟨gb130, 2, none⟩ = some (.int .i64 a0_2) := ct BK130 2; have hcz22_3 : wc.cell? ⟨gb130, 3, none⟩ = some (.bool a0_3) := ct BK130 3; have hcz22_4 : wc.cell? ⟨gb130, 4, none⟩ = some (.slice A0_4 l0_4.length c0_4) := ct BK130 4; have hcz22_5 : wc.cell? ⟨gb130, 5, none⟩ = some (.slice A0_5 l0_5.length c0_5) := ct BK130 5; have hfz22_0 := blk_frozen BK130.out 0; have hfz22_1 := blk_frozen BK130.out 1; have hfz22_2 := blk_frozen BK130.out 2; have hfz22_3 := blk_frozen BK130.out 3; have hfz22_4 := blk_frozen BK130.out 4; have hfz22_5 := blk_frozen BK130.out 5
         go_wp2
         repeat (go_quiet (fail); try go_wp2)
         go_meet
         case rel => exact ⟨_, (decide (a0_0 ≤ a2)), jz, H', ⟨by have := HJ3.out; have := HJ14.out; first | omega | exact Nat.le_refl _⟩, ⟨kz⟩, ⟨bz⟩⟩
        ·rw [if_neg c21] at H; have c21b0 : decide (0 < a1) = false := decide_eq_false c21; clear c21
         (first | rw [c21b0] | (simp only [i64_w, i32_w]; rw [c21b0]) | skip)
         have H' := Aside0.mk H; clear H
         go_wp2
         repeat (go_quiet (fail); try go_wp2)
         go_meet
         case rel => exact ⟨_, (false), jz, H', ⟨by have := HJ3.out; have := HJ14.out; first | omega | exact Nat.le_refl _⟩, ⟨kz⟩, ⟨bz⟩⟩
       case rest =>
        clear HC20
        try clear c1
        try clear c2
        try clear p2
        try clear c4
        try clear c7
        try clear c9
        try clear c14
        try clear c16
        try clear c16b0
        try clear c16b1
        try clear c19
        try clear c21
        try clear c21b0
        try clear hcz11_0
        try clear hcz11_1
        try clear hcz11_2
        try clear hcz11_3
        try clear hcz11_4
        try clear hcz11_5
        try clear hcz12_0
        try clear hcz12_1
        try clear hcz12_2
        try clear hcz12_3
        try clear hcz12_4
        try clear hcz12_5
        try clear hcz13_0
        try clear hcz13_1
        try clear hcz13_2
        try clear hcz13_3
        try clear hcz13_4
        try clear hcz13_5
        try clear hcz17_0
        try clear hcz17_1
        try clear hcz17_2
        try clear hcz17_3
        try clear hcz17_4
        try clear hcz17_5
        try clear hcz18_0
        try clear hcz18_1
        try clear hcz18_2
        try clear hcz18_3
        try clear hcz18_4
        try clear hcz18_5
        try clear hcz22_0
        try clear hcz22_1
        try clear hcz22_2
        try clear hcz22_3
        try clear hcz22_4
        try clear hcz22_5
        try clear hfz11_0
        try clear hfz11_1
        try clear hfz11_2
        try clear hfz11_3
        try clear hfz11_4
        try clear hfz11_5
        try clear hfz12_0
        try clear hfz12_1
        try clear hfz12_2
        try clear hfz12_3
        try clear hfz12_4
        try clear hfz12_5
        try clear hfz13_0
        try clear hfz13_1
        try clear hfz13_2
        try clear hfz13_3
        try clear hfz13_4
        try clear hfz13_5
        try clear hfz17_0
        try clear hfz17_1
        try clear hfz17_2
        try clear hfz17_3
        try clear hfz17_4
        try clear hfz17_5
        try clear hfz18_0
        try clear hfz18_1
        try clear hfz18_2
        try clear hfz18_3
        try clear hfz18_4
        try clear hfz18_5
        try clear hfz22_0
        try clear hfz22_1
        try clear hfz22_2
        try clear hfz22_3
        try clear hfz22_4
        try clear hfz22_5
        try clear p2
        obtain ⟨kq, x41_19, rfl, HA, HJ19, BK130, HB⟩ := hcut
        cases kq with
        | zero => exact absurd HA.out (by simp [dioramaref03_sample.j2])
        | succ kj19 =>
         have H := HA.out; clear HA; simp only [dioramaref03_sample.j2] at H
         by_cases c23 : x41_19 = true
         ·subst c23; rw [if_pos rfl] at H; obtain rfl := Option.some.inj H
          go_wp2
          repeat (go_quiet (fail); try go_wp2)
          go_ret
          exact ⟨ez, bz⟩
         ·obtain rfl := bf c23; rw [if_neg (show ¬ (false = true) by decide)] at H; have H' := Aside0.mk H; clear H
          go_wp2
          repeat (go_quiet (fail); try go_wp2)
          go_loopg [7] kj19 (fun kq v7 w' => ∃ (x7_4 : Int), v7 = .int .i64 x7_4 ∧ Aside0 (dioramaref03_sample.l0 kq a1 x7_4 a0_0 a0_1 a0_2 a0_3 l0_4 l0_5 = some r) ∧ Aside0 (kq ≤ kj19) ∧ Aside0 (w'.heap[gb130]? = some (.cells #[.int .i64 a0_0, .int .i64 a0_1, .int .i64 a0_2, .bool a0_3, (.slice A0_4 l0_4.length c0_4), (.slice A0_5 l0_5.length c0_5)] 51 (0, 0))) ∧ Aside0 (Below w.heap.size w w'))
          case atStart => exact ⟨(0), jz, H', ⟨Nat.le_refl _⟩, ⟨kz⟩, ⟨bz⟩⟩
          case round =>
           clear H'
           try clear c1
           try clear c2
           try clear p2
           try clear c4
           try clear c7
           try clear c9
           try clear c14
           try clear c16
           try clear c16b0
           try clear c16b1
           try clear c19
           try clear c21
           try clear c21b0
           try clear c23
           try clear hcz11_0
           try clear hcz11_1
           try clear hcz11_2
           try clear hcz11_3
           try clear hcz11_4
           try clear hcz11_5
           try clear hcz12_0
           try clear hcz12_1
           try clear hcz12_2
           try clear hcz12_3
           try clear hcz12_4
           try clear hcz12_5
           try clear hcz13_0
           try clear hcz13_1
           try clear hcz13_2
           try clear hcz13_3
           try clear hcz13_4
           try clear hcz13_5
           try clear hcz17_0
           try clear hcz17_1
           try clear hcz17_2
           try clear hcz17_3
           try clear hcz17_4
           try clear hcz17_5
           try clear hcz18_0
           try clear hcz18_1
           try clear hcz18_2
           try clear hcz18_3
           try clear hcz18_4
           try clear hcz18_5
           try clear hcz22_0
           try clear hcz22_1
           try clear hcz22_2
           try clear hcz22_3
           try clear hcz22_4
           try clear hcz22_5
           try clear hfz11_0
           try clear hfz11_1
           try clear hfz11_2
           try clear hfz11_3
           try clear hfz11_4
           try clear hfz11_5
           try clear hfz12_0
           try clear hfz12_1
           try clear hfz12_2
           try clear hfz12_3
           try clear hfz12_4
           try clear hfz12_5
           try clear hfz13_0
           try clear hfz13_1
           try clear hfz13_2
           try clear hfz13_3
           try clear hfz13_4
           try clear hfz13_5
           try clear hfz17_0
           try clear hfz17_1
           try clear hfz17_2
           try clear hfz17_3
           try clear hfz17_4
           try clear hfz17_5
           try clear hfz18_0
           try clear hfz18_1
           try clear hfz18_2
           try clear hfz18_3
           try clear hfz18_4
           try clear hfz18_5
           try clear hfz22_0
           try clear hfz22_1
           try clear hfz22_2
           try clear hfz22_3
           try clear hfz22_4
           try clear hfz22_5
           try clear p2
           obtain ⟨x7_4, rfl, HA, HK4, BK130, HB⟩ := hrel
           cases gk with
           | zero => exact absurd HA.out (by simp [dioramaref03_sample.l0])
           | succ k4 =>
            have H := HA.out; clear HA; simp only [dioramaref03_sample.l0] at H
            by_cases c24 : x7_4 < (l0_4.length : Int)
            ·rw [if_pos c24] at H; have c24b0 : decide (x7_4 < (l0_4.length : Int)) = true := decide_eq_true c24; clear c24
             by_cases c25 : 0 ≤ x7_4
             ·rw [if_pos c25] at H; have c25b0 : decide (0 ≤ x7_4) = true := decide_eq_true c25; clear c25
              by_cases c26 : (rd l0_4 x7_4) < 0
              ·rw [if_pos c26] at H; have c26b0 : decide ((rd l0_4 x7_4) < 0) = true := decide_eq_true c26; clear c26; obtain rfl := Option.some.inj H; have hcz27_0 : wr.cell? ⟨gb130, 0, none⟩ = some (.int .i64 a0_0) := ct BK130 0; have hcz27_1 : wr.cell? ⟨gb130, 1, none⟩ = some (.int .i64 a0_1) := ct BK130 1; have hcz27_2 : wr.cell? ⟨gb130, 2, none⟩ = some (.int .i64 a0_2) := ct BK130 2; have hcz27_3 : wr.cell? ⟨gb130, 3, none⟩ = some (.bool a0_3) := ct BK130 3; have hcz27_4 : wr.cell? ⟨gb130, 4, none⟩ = some (.slice A0_4 l0_4.length c0_4) := ct BK130 4; have hcz27_5 : wr.cell? ⟨gb130, 5, none⟩ = some (.slice A0_5 l0_5.length c0_5) := ct BK130 5; have hfz27_0 := blk_frozen BK130.out 0; have hfz27_1 := blk_frozen BK130.out 1; have hfz27_2 := blk_frozen BK130.out 2; have hfz27_3 := blk_frozen BK130.out 3; have hfz27_4 := blk_frozen BK130.out 4; have hfz27_5 := blk_frozen BK130.out 5; have p134 : 0 ≤ (x7_4 : Int) := od; have q134 : x7_4 < (l0_4.length : Int) := od; obtain ⟨ad134, e134, hx134_0⟩ := Kd.at_int HR0_4.out x7_4 p134 q134
               cases e134
               replace hx134_0 := cl HB hx134_0; replace p134 := eq_true p134; replace q134 := eq_true q134
               go_wp2
               repeat (go_quiet (fail); try go_wp2)
               go_ret
               exact ⟨ez, bz⟩
              ·rw [if_neg c26] at H; have c26b0 : decide ((rd l0_4 x7_4) < 0) = false := decide_eq_false c26; clear c26
               by_cases c28 : (rd l0_4 x7_4) ≥ a1
               ·rw [if_pos c28] at H; have c28b0 : decide (a1 ≤ (rd l0_4 x7_4)) = true := decide_eq_true c28; clear c28; obtain rfl := Option.some.inj H; have hcz29_0 : wr.cell? ⟨gb130, 0, none⟩ = some (.int .i64 a0_0) := ct BK130 0; have hcz29_1 : wr.cell? ⟨gb130, 1, none⟩ = some (.int .i64 a0_1) := ct BK130 1; have hcz29_2 : wr.cell? ⟨gb130, 2, none⟩ = some (.int .i64 a0_2) := ct BK130 2; have hcz29_3 : wr.cell? ⟨gb130, 3, none⟩ = some (.bool a0_3) := ct BK130 3; have hcz29_4 : wr.cell? ⟨gb130, 4, none⟩ = some (.slice A0_4 l0_4.length c0_4) := ct BK130 4; have hcz29_5 : wr.cell? ⟨gb130, 5, none⟩ = some (.slice A0_5 l0_5.length c0_5) := ct BK130 5; have hfz29_0 := blk_frozen BK130.out 0; have hfz29_1 := blk_frozen BK130.out 1; have hfz29_2 := blk_frozen BK130.out 2; have hfz29_3 := blk_frozen BK130.out 3; have hfz29_4 := blk_frozen BK130.out 4; have hfz29_5 := blk_frozen BK130.out 5; have p134 : 0 ≤ (x7_4 : Int) := od; have q134 : x7_4 < (l0_4.length : Int) := od; obtain ⟨ad134, e134, hx134_0⟩ := Kd.at_int HR0_4.out x7_4 p134 q134
                cases e134
                replace hx134_0 := cl HB hx134_0; replace p134 := eq_true p134; replace q134 := eq_true q134; have p135 : 0 ≤ (x7_4 : Int) := od; have q135 : x7_4 < (l0_4.length : Int) := od; obtain ⟨ad135, e135, hx135_0⟩ := Kd.at_int HR0_4.out x7_4 p135 q135; obtain rfl : ad134 = ad135 := (by injection e135); replace hx135_0 := cl HB hx135_0; replace p135 := eq_true p135; replace q135 := eq_true q135
                go_wp2
                repeat (go_quiet (fail); try go_wp2)
                go_ret
                exact ⟨ez, bz⟩
               ·rw [if_neg c28] at H; have c28b0 : decide (a1 ≤ (rd l0_4 x7_4)) = false := decide_eq_false c28; clear c28
                by_cases c30 : x7_4 > 0
                ·rw [if_pos c30] at H; have c30b0 : decide (0 < x7_4) = true := decide_eq_true c30; clear c30; obtain ⟨ji31, hji31⟩ : ∃ j_ : Int, (wrap64 (x7_4 - 1)) = j_ := ⟨_, rfl⟩; replace H : (if 0 ≤ (ji31) then (if (ji31) < (l0_4.length : Int) then (if (rd l0_4 x7_4) ≤ (rd l0_4 (ji31)) then (some 32) else (dioramaref03_sample.l0 k4 a1 (wrap64 (x7_4 + 1)) a0_0 a0_1 a0_2 a0_3 l0_4 l0_5)) else (none)) else (none)) = some r := by first | (rw [hji31] at H; exact H) | (simp only [hji31] at H ⊢; exact H)
                 have hji31w : (IntKind.i64.wrap (x7_4 - 1)) = ji31 := (i64_w _).trans hji31
                 by_cases c32 : 0 ≤ (ji31)
                 ·rw [if_pos c32] at H; have c32b0 : decide (0 ≤ (ji31)) = true := decide_eq_true c32; clear c32
                  by_cases c33 : (ji31) < (l0_4.length : Int)
                  ·rw [if_pos c33] at H; have c33b0 : decide ((ji31) < (l0_4.length : Int)) = true := decide_eq_true c33; clear c33
                   by_cases c34 : (rd l0_4 x7_4) ≤ (rd l0_4 (ji31))
                   ·rw [if_pos c34] at H; have c34b0 : decide ((rd l0_4 x7_4) ≤ (rd l0_4 (ji31))) = true := decide_eq_true c34; clear c34; obtain rfl := Option.some.inj H; have hcz35_0 : wr.cell? ⟨gb130, 0, none⟩ = some (.int .i64 a0_0) := ct BK130 0; have hcz35_1 : wr.cell? ⟨gb130, 1, none⟩ = some (.int .i64 a0_1) := ct BK130 1; have hcz35_2 : wr.cell? ⟨gb130, 2, none⟩ = some (.int .i64 a0_2) := ct BK130 2; have hcz35_3 : wr.cell? ⟨gb130, 3, none⟩ = some (.bool a0_3) := ct BK130 3; have hcz35_4 : wr.cell? ⟨gb130, 4, none⟩ = some (.slice A0_4 l0_4.length c0_4) := ct BK130 4; have hcz35_5 : wr.cell? ⟨gb130, 5, none⟩ = some (.slice A0_5 l0_5.length c0_5) := ct BK130 5; have hfz35_0 := blk_frozen BK130.out 0; have hfz35_1 := blk_frozen BK130.out 1; have hfz35_2 := blk_frozen BK130.out 2; have hfz35_3 := blk_frozen BK130.out 3; have hfz35_4 := blk_frozen BK130.out 4; have hfz35_5 := blk_frozen BK130.out 5; have p134 : 0 ≤ (x7_4 : Int) := od; have q134 : x7_4 < (l0_4.length : Int) := od; obtain ⟨ad134, e134, hx134_0⟩ := Kd.at_int HR0_4.out x7_4 p134 q134
                    cases e134
                    replace hx134_0 := cl HB hx134_0; replace p134 := eq_true p134; replace q134 := eq_true q134; have p135 : 0 ≤ (x7_4 : Int) := od; have q135 : x7_4 < (l0_4.length : Int) := od; obtain ⟨ad135, e135, hx135_0⟩ := Kd.at_int HR0_4.out x7_4 p135 q135; obtain rfl : ad134 = ad135 := (by injection e135); replace hx135_0 := cl HB hx135_0; replace p135 := eq_true p135; replace q135 := eq_true q135; have p136 : 0 ≤ (x7_4 : Int) := od; have q136 : x7_4 < (l0_4.length : Int) := od; obtain ⟨ad136, e136, hx136_0⟩ := Kd.at_int HR0_4.out x7_4 p136 q136; obtain rfl : ad134 = ad136 := (by injection e136); replace hx136_0 := cl HB hx136_0; replace p136 := eq_true p136; replace q136 := eq_true q136; have p137 : 0 ≤ ((ji31) : Int) := od; have q137 : (ji31) < (l0_4.length : Int) := od; obtain ⟨ad137, e137, hx137_0⟩ := Kd.at_int HR0_4.out (ji31) p137 q137; obtain rfl : ad134 = ad137 := (by injection e137); replace hx137_0 := cl HB hx137_0; replace p137 := eq_true p137; replace q137 := eq_true q137
                    go_wp2
                    repeat (go_quiet (fail); try go_wp2)
                    go_ret
                    exact ⟨by first | rfl | (simp [errW_none, errW_some] <;> rfl) | (simp only [← hji31]; first | rfl | (simp [errW_none, errW_some] <;> rfl)) | (simp [*, errW_none, errW_some] <;> rfl), bz⟩
                   ·rw [if_neg c34] at H; have c34b0 : decide ((rd l0_4 x7_4) ≤ (rd l0_4 (ji31))) = false := decide_eq_false c34; clear c34; have H' := Aside0.mk H; clear H; have hcz36_0 : wr.cell? ⟨gb130, 0, none⟩ = some (.int .i64 a0_0) := ct BK130 0; have hcz36_1 : wr.cell? ⟨gb130, 1, none⟩ = some (.int .i64 a0_1) := ct BK130 1; have hcz36_2 : wr.cell? ⟨gb130, 2, none⟩ = some (.int .i64 a0_2) := ct BK130 2; have hcz36_3 : wr.cell? ⟨gb130, 3, none⟩ = some (.bool a0_3) := ct BK130 3; have hcz36_4 : wr.cell? ⟨gb130, 4, none⟩ = some (.slice A0_4 l0_4.length c0_4) := ct BK130 4; have hcz36_5 : wr.cell? ⟨gb130, 5, none⟩ = some (.slice A0_5 l0_5.length c0_5) := ct BK130 5; have hfz36_0 := blk_frozen BK130.out 0; have hfz36_1 := blk_frozen BK130.out 1; have hfz36_2 := blk_frozen BK130.out 2; have hfz36_3 := blk_frozen BK130.out 3; have hfz36_4 := blk_frozen BK130.out 4; have hfz36_5 := blk_frozen BK130.out 5; have p134 : 0 ≤ (x7_4 : Int) := od; have q134 : x7_4 < (l0_4.length : Int) := od; obtain ⟨ad134, e134, hx134_0⟩ := Kd.at_int HR0_4.out x7_4 p134 q134
                    cases e134
                    replace hx134_0 := cl HB hx134_0; replace p134 := eq_true p134; replace q134 := eq_true q134; have p135 : 0 ≤ (x7_4 : Int) := od; have q135 : x7_4 < (l0_4.length : Int) := od; obtain ⟨ad135, e135, hx135_0⟩ := Kd.at_int HR0_4.out x7_4 p135 q135; obtain rfl : ad134 = ad135 := (by injection e135); replace hx135_0 := cl HB hx135_0; replace p135 := eq_true p135; replace q135 := eq_true q135; have p136 : 0 ≤ (x7_4 : Int) := od; have q136 : x7_4 < (l0_4.length : Int) := od; obtain ⟨ad136, e136, hx136_0⟩ := Kd.at_int HR0_4.out x7_4 p136 q136; obtain rfl : ad134 = ad136 := (by injection e136); replace hx136_0 := cl HB hx136_0; replace p136 := eq_true p136; replace q136 := eq_true q136; have p137 : 0 ≤ ((ji31) : Int) := od; have q137 : (ji31) < (l0_4.length : Int) := od; obtain ⟨ad137, e137, hx137_0⟩ := Kd.at_int HR0_4.out (ji31) p137 q137; obtain rfl : ad134 = ad137 := (by injection e137); replace hx137_0 := cl HB hx137_0; replace p137 := eq_true p137; replace q137 := eq_true q137
                    go_wp2
                    repeat (go_quiet (fail); try go_wp2)
                    go_roundg k4
                    case measure => have := HJ3.out; have := HJ14.out; have := HJ19.out; have := HK4.out; omega
                    case rel => exact ⟨(wrap64 (x7_4 + 1)), jz, H', ⟨by have := HJ3.out; have := HJ14.out; have := HJ19.out; have := HK4.out; omega⟩, ⟨kz⟩, ⟨bz⟩⟩
                  ·rw [if_neg c33] at H
                   exact absurd H (by simp)
                 ·rw [if_neg c32] at H
                  exact absurd H (by simp)
                ·rw [if_neg c30] at H; have c30b0 : decide (0 < x7_4) = false := decide_eq_false c30; clear c30; have H' := Aside0.mk H; clear H; have hcz37_0 : wr.cell? ⟨gb130, 0, none⟩ = some (.int .i64 a0_0) := ct BK130 0; have hcz37_1 : wr.cell? ⟨gb130, 1, none⟩ = some (.int .i64 a0_1) := ct BK130 1; have hcz37_2 : wr.cell? ⟨gb130, 2, none⟩ = some (.int .i64 a0_2) := ct BK130 2; have hcz37_3 : wr.cell? ⟨gb130, 3, none⟩ = some (.bool a0_3) := ct BK130 3; have hcz37_4 : wr.cell? ⟨gb130, 4, none⟩ = some (.slice A0_4 l0_4.length c0_4) := ct BK130 4; have hcz37_5 : wr.cell? ⟨gb130, 5, none⟩ = some (.slice A0_5 l0_5.length c0_5) := ct BK130 5; have hfz37_0 := blk_frozen BK130.out 0; have hfz37_1 := blk_frozen BK130.out 1; have hfz37_2 := blk_frozen BK130.out 2; have hfz37_3 := blk_frozen BK130.out 3; have hfz37_4 := blk_frozen BK130.out 4; have hfz37_5 := blk_frozen BK130.out 5; have p134 : 0 ≤ (x7_4 : Int) := od; have q134 : x7_4 < (l0_4.length : Int) := od; obtain ⟨ad134, e134, hx134_0⟩ := Kd.at_int HR0_4.out x7_4 p134 q134
                 cases e134
                 replace hx134_0 := cl HB hx134_0; replace p134 := eq_true p134; replace q134 := eq_true q134; have p135 : 0 ≤ (x7_4 : Int) := od; have q135 : x7_4 < (l0_4.length : Int) := od; obtain ⟨ad135, e135, hx135_0⟩ := Kd.at_int HR0_4.out x7_4 p135 q135; obtain rfl : ad134 = ad135 := (by injection e135); replace hx135_0 := cl HB hx135_0; replace p135 := eq_true p135; replace q135 := eq_true q135
                 go_wp2
                 repeat (go_quiet (fail); try go_wp2)
                 go_roundg k4
                 case measure => have := HJ3.out; have := HJ14.out; have := HJ19.out; have := HK4.out; omega
                 case rel => exact ⟨(wrap64 (x7_4 + 1)), jz, H', ⟨by have := HJ3.out; have := HJ14.out; have := HJ19.out; have := HK4.out; omega⟩, ⟨kz⟩, ⟨bz⟩⟩
             ·rw [if_neg c25] at H
              exact absurd H (by simp)
            ·rw [if_neg c24] at H; have c24b0 : decide (x7_4 < (l0_4.length : Int)) = false := decide_eq_false c24; clear c24
             by_cases c38 : a0_3 = true
             ·subst c38; rw [if_pos rfl] at H
              by_cases c39 : (l0_4.length : Int) > 0
              ·rw [if_pos c39] at H; have c39b0 : decide (0 < (l0_4.length : Int)) = true := decide_eq_true c39; have c39b1 : decide (0 < l0_4.length) = true := decide_eq_true (by omega); clear c39; obtain rfl := Option.some.inj H; have hcz40_0 : wr.cell? ⟨gb130, 0, none⟩ = some (.int .i64 a0_0) := ct BK130 0; have hcz40_1 : wr.cell? ⟨gb130, 1, none⟩ = some (.int .i64 a0_1) := ct BK130 1; have hcz40_2 : wr.cell? ⟨gb130, 2, none⟩ = some (.int .i64 a0_2) := ct BK130 2; have hcz40_3 : wr.cell? ⟨gb130, 3, none⟩ = some (.bool true) := ct BK130 3; have hcz40_4 : wr.cell? ⟨gb130, 4, none⟩ = some (.slice A0_4 l0_4.length c0_4) := ct BK130 4; have hcz40_5 : wr.cell? ⟨gb130, 5, none⟩ = some (.slice A0_5 l0_5.length c0_5) := ct BK130 5; have hfz40_0 := blk_frozen BK130.out 0; have hfz40_1 := blk_frozen BK130.out 1; have hfz40_2 := blk_frozen BK130.out 2; have hfz40_3 := blk_frozen BK130.out 3; have hfz40_4 := blk_frozen BK130.out 4; have hfz40_5 := blk_frozen BK130.out 5
               go_wp2
               repeat (go_quiet (fail); try go_wp2)
               go_ret
               exact ⟨ez, bz⟩
              ·rw [if_neg c39] at H; have c39b0 : decide (0 < (l0_4.length : Int)) = false := decide_eq_false c39; have c39b1 : decide (0 < l0_4.length) = false := decide_eq_false (by omega); clear c39; obtain rfl := Option.some.inj H; have hcz41_0 : wr.cell? ⟨gb130, 0, none⟩ = some (.int .i64 a0_0) := ct BK130 0; have hcz41_1 : wr.cell? ⟨gb130, 1, none⟩ = some (.int .i64 a0_1) := ct BK130 1; have hcz41_2 : wr.cell? ⟨gb130, 2, none⟩ = some (.int .i64 a0_2) := ct BK130 2; have hcz41_3 : wr.cell? ⟨gb130, 3, none⟩ = some (.bool true) := ct BK130 3; have hcz41_4 : wr.cell? ⟨gb130, 4, none⟩ = some (.slice A0_4 l0_4.length c0_4) := ct BK130 4; have hcz41_5 : wr.cell? ⟨gb130, 5, none⟩ = some (.slice A0_5 l0_5.length c0_5) := ct BK130 5; have hfz41_0 := blk_frozen BK130.out 0; have hfz41_1 := blk_frozen BK130.out 1; have hfz41_2 := blk_frozen BK130.out 2; have hfz41_3 := blk_frozen BK130.out 3; have hfz41_4 := blk_frozen BK130.out 4; have hfz41_5 := blk_frozen BK130.out 5
               go_wp2
               repeat (go_quiet (fail); try go_wp2)
               go_ret
               exact ⟨ez, bz⟩
             ·obtain rfl := bf c38; rw [if_neg (show ¬ (false = true) by decide)] at H; obtain rfl := Option.some.inj H; have hcz42_0 : wr.cell? ⟨gb130, 0, none⟩ = some (.int .i64 a0_0) := ct BK130 0; have hcz42_1 : wr.cell? ⟨gb130, 1, none⟩ = some (.int .i64 a0_1) := ct BK130 1; have hcz42_2 : wr.cell? ⟨gb130, 2, none⟩ = some (.int .i64 a0_2) := ct BK130 2; have hcz42_3 : wr.cell? ⟨gb130, 3, none⟩ = some (.bool false) := ct BK130 3; have hcz42_4 : wr.cell? ⟨gb130, 4, none⟩ = some (.slice A0_4 l0_4.length c0_4) := ct BK130 4; have hcz42_5 : wr.cell? ⟨gb130, 5, none⟩ = some (.slice A0_5 l0_5.length c0_5) := ct BK130 5; have hfz42_0 := blk_frozen BK130.out 0; have hfz42_1 := blk_frozen BK130.out 1; have hfz42_2 := blk_frozen BK130.out 2; have hfz42_3 := blk_frozen BK130.out 3; have hfz42_4 := blk_frozen BK130.out 4; have hfz42_5 := blk_frozen BK130.out 5
              go_wp2
              repeat (go_quiet (fail); try go_wp2)
              go_ret
              exact ⟨ez, bz⟩
mutual
def dioramaref03_CheckTrack.j0 : Nat → Bool → Int → Int → ByteArray → Int → List Int → ByteArray → ByteArray → Int → List (S86) → List (S68) → List (S51) → Option (Int)
  | 0, _, _, _, _, _, _, _, _, _, _, _, _ => none
  | k + 1, x30, x139000, x139001, x139002, x139003, x139004, x139005, x139006, x139007, x139008, x139009, x139010 => if x30 = true then (some 2) else ((dioramaref03_edits.f k x139008).bind fun t140 => (if t140 = true then (dioramaref03_CheckTrack.l0 k 0 0 x139000 x139001 x139002 x139003 x139004 x139005 x139006 x139007 x139008 x139009 x139010) else (some 33)))
def dioramaref03_CheckTrack.l0 : Nat → Int → Int → Int → Int → ByteArray → Int → List Int → ByteArray → ByteArray → Int → List (S86) → List (S68) → List (S51) → Option (Int)
  | 0, _, _, _, _, _, _, _, _, _, _, _, _, _ => none
  | k + 1, x3, x4, x139000, x139001, x139002, x139003, x139004, x139005, x139006, x139007, x139008, x139009, x139010 => if x4 < (x139010.length : Int) then (if 0 ≤ x4 then ((dioramaref03_sample.f k ((rd_T51 x139010 x4).f0) ((rd_T51 x139010 x4).f1) ((rd_T51 x139010 x4).f2) ((rd_T51 x139010 x4).f3) ((rd_T51 x139010 x4).f4) ((rd_T51 x139010 x4).f5) x4 x3).bind fun t142 => (if t142 = 0 then (dioramaref03_CheckTrack.l0 k ((rd_T51 x139010 x4).f0) (wrap64 (x4 + 1)) x139000 x139001 x139002 x139003 x139004 x139005 x139006 x139007 x139008 x139009 x139010) else (some t142))) else (none)) else (some 0)
end
def dioramaref03_CheckTrack.f (k : Nat) (a0_0 : Int) (a0_1 : Int) (a0_2 : ByteArray) (a0_3 : Int) (l0_4 : List Int) (a0_5 : ByteArray) (a0_6 : ByteArray) (a0_7 : Int) (l0_8 : List (S86)) (l0_9 : List (S68)) (l0_10 : List (S51)) : Option (Int) := (dioramaref03_fields.f k a0_0 a0_1 a0_2 a0_3 l0_4 a0_5 a0_6 a0_7 l0_8 l0_9 l0_10).bind fun t139 => (if t139 = true then (if (l0_4.length : Int) > 1000 then (dioramaref03_CheckTrack.j0 k true a0_0 a0_1 a0_2 a0_3 l0_4 a0_5 a0_6 a0_7 l0_8 l0_9 l0_10) else (if (l0_8.length : Int) > 20 then (dioramaref03_CheckTrack.j0 k true a0_0 a0_1 a0_2 a0_3 l0_4 a0_5 a0_6 a0_7 l0_8 l0_9 l0_10) else (if (l0_9.length : Int) > 8 then (dioramaref03_CheckTrack.j0 k true a0_0 a0_1 a0_2 a0_3 l0_4 a0_5 a0_6 a0_7 l0_8 l0_9 l0_10) else (dioramaref03_CheckTrack.j0 k (decide ((l0_10.length : Int) > 400)) a0_0 a0_1 a0_2 a0_3 l0_4 a0_5 a0_6 a0_7 l0_8 l0_9 l0_10)))) else (some 1))
set_option maxHeartbeats 8000000 in
set_option maxRecDepth 100000 in
theorem dioramaref03_CheckTrack.calls (k : Nat) (a0_0 : Int) (a0_1 : Int) (a0_2 : ByteArray) (a0_3 : Int) (A0_4 : Option Addr) (c0_4 : Nat) (l0_4 : List Int) (a0_5 : ByteArray) (a0_6 : ByteArray) (a0_7 : Int) (A0_8 : Option Addr) (c0_8 : Nat) (l0_8 : List (S86)) (A0_9 : Option Addr) (c0_9 : Nat) (l0_9 : List (S68)) (A0_10 : Option Addr) (c0_10 : Nat) (l0_10 : List (S51)) (r : Int) (w : World) (hr0_4 : Kd.C (Kd.int .u8) w A0_4 l0_4.length l0_4) (hc0_4 : l0_4.length ≤ c0_4) (hr0_8 : Kd.C k86 w A0_8 l0_8.length l0_8) (hc0_8 : l0_8.length ≤ c0_8) (hr0_9 : Kd.C k68 w A0_9 l0_9.length l0_9) (hc0_9 : l0_9.length ≤ c0_9) (hr0_10 : Kd.C k51 w A0_10 l0_10.length l0_10) (hc0_10 : l0_10.length ≤ c0_10) (h : dioramaref03_CheckTrack.f k a0_0 a0_1 a0_2 a0_3 l0_4 a0_5 a0_6 a0_7 l0_8 l0_9 l0_10 = some r) :
  Calls Try.prog 21 #[.agg #[.int .i64 a0_0, .int .i64 a0_1, .string a0_2, .int .i64 a0_3, .slice A0_4 l0_4.length c0_4, .string a0_5, .string a0_6, .int .i64 a0_7, .slice A0_8 l0_8.length c0_8, .slice A0_9 l0_9.length c0_9, .slice A0_10 l0_10.length c0_10]] w fun e w' => e = .returned (.int .i64 r) ∧ Below w.heap.size w w' := by
 have hu40 := Try.underlying40; have hu51 := Try.underlying51; have HR0_4 := Aside0.mk hr0_4; have HC0_4 := Aside0.mk hc0_4; clear hr0_4 hc0_4; have HR0_8 := Aside0.mk hr0_8; have HC0_8 := Aside0.mk hc0_8; clear hr0_8 hc0_8; have HR0_9 := Aside0.mk hr0_9; have HC0_9 := Aside0.mk hc0_9; clear hr0_9 hc0_9; have HR0_10 := Aside0.mk hr0_10; have HC0_10 := Aside0.mk hc0_10; clear hr0_10 hc0_10; have HB := Aside0.mk (Below.refl w.heap.size w); have H : ((dioramaref03_fields.f k a0_0 a0_1 a0_2 a0_3 l0_4 a0_5 a0_6 a0_7 l0_8 l0_9 l0_10).bind fun t139 => (if t139 = true then (if (l0_4.length : Int) > 1000 then (dioramaref03_CheckTrack.j0 k true a0_0 a0_1 a0_2 a0_3 l0_4 a0_5 a0_6 a0_7 l0_8 l0_9 l0_10) else (if (l0_8.length : Int) > 20 then (dioramaref03_CheckTrack.j0 k true a0_0 a0_1 a0_2 a0_3 l0_4 a0_5 a0_6 a0_7 l0_8 l0_9 l0_10) else (if (l0_9.length : Int) > 8 then (dioramaref03_CheckTrack.j0 k true a0_0 a0_1 a0_2 a0_3 l0_4 a0_5 a0_6 a0_7 l0_8 l0_9 l0_10) else (dioramaref03_CheckTrack.j0 k (decide ((l0_10.length : Int) > 400)) a0_0 a0_1 a0_2 a0_3 l0_4 a0_5 a0_6 a0_7 l0_8 l0_9 l0_10)))) else (some 1))) = some r := h
 clear h; obtain ⟨t139, A2, H⟩ := ob H
 by_cases c3 : t139 = true
 ·subst c3; rw [if_pos rfl] at H; have HC4 := Aside0.mk H; clear H
  go_enter Try.func21, Try.ntmps21
  go_upto_region 3 with (first | ((with_reducible refine gate_dst (N := 1) rfl ?_); refine zB 1 40 #[.int .i64 a0_0, .int .i64 a0_1, .string a0_2, .int .i64 a0_3, .slice A0_4 l0_4.length c0_4, .string a0_5, .string a0_6, .int .i64 a0_7, .slice A0_8 l0_8.length c0_8, .slice A0_9 l0_9.length c0_9, .slice A0_10 l0_10.length c0_10] ?_; intro gb138 hg w5 hbox hb; have BK138 := Aside0.mk hbox; have GW138 := gz hg; have GE138 := gz hg; replace HB := bp hb; clear hb hbox hg; have hcz6_0 : w5.cell? ⟨gb138, 0, none⟩ = some (.int .i64 a0_0) := ct BK138 0; have hcz6_1 : w5.cell? ⟨gb138, 1, none⟩ = some (.int .i64 a0_1) := ct BK138 1; have hcz6_2 : w5.cell? ⟨gb138, 2, none⟩ = some (.string a0_2) := ct BK138 2; have hcz6_3 : w5.cell? ⟨gb138, 3, none⟩ = some (.int .i64 a0_3) := ct BK138 3; have hcz6_4 : w5.cell? ⟨gb138, 4, none⟩ = some (.slice A0_4 l0_4.length c0_4) := ct BK138 4; have hcz6_5 : w5.cell? ⟨gb138, 5, none⟩ = some (.string a0_5) := ct BK138 5; have hcz6_6 : w5.cell? ⟨gb138, 6, none⟩ = some (.string a0_6) := ct BK138 6; have hcz6_7 : w5.cell? ⟨gb138, 7, none⟩ = some (.int .i64 a0_7) := ct BK138 7; have hcz6_8 : w5.cell? ⟨gb138, 8, none⟩ = some (.slice A0_8 l0_8.length c0_8) := ct BK138 8; have hcz6_9 : w5.cell? ⟨gb138, 9, none⟩ = some (.slice A0_9 l0_9.length c0_9) := ct BK138 9; have hcz6_10 : w5.cell? ⟨gb138, 10, none⟩ = some (.slice A0_10 l0_10.length c0_10) := ct BK138 10; have hfz6_0 := blk_frozen BK138.out 0; have hfz6_1 := blk_frozen BK138.out 1; have hfz6_2 := blk_frozen BK138.out 2; have hfz6_3 := blk_frozen BK138.out 3; have hfz6_4 := blk_frozen BK138.out 4; have hfz6_5 := blk_frozen BK138.out 5; have hfz6_6 := blk_frozen BK138.out 6; have hfz6_7 := blk_frozen BK138.out 7; have hfz6_8 := blk_frozen BK138.out 8; have hfz6_9 := blk_frozen BK138.out 9; have hfz6_10 := blk_frozen BK138.out 10) | ((with_reducible refine gate_callee (f := 46) rfl ?_); refine zC 7 Try.func46 #[.agg #[.int .i64 a0_0, .int .i64 a0_1, .string a0_2, .int .i64 a0_3, .slice A0_4 l0_4.length c0_4, .string a0_5, .string a0_6, .int .i64 a0_7, .slice A0_8 l0_8.length c0_8, .slice A0_9 l0_9.length c0_9, .slice A0_10 l0_10.length c0_10]] ?_; (with_reducible refine (dioramaref03_fields.calls k a0_0 a0_1 a0_2 a0_3 _ _ l0_4 a0_5 a0_6 a0_7 _ _ l0_8 _ _ l0_9 _ _ l0_10 true _ ?side1 ?side2 ?side3 ?side4 ?side5 ?side6 ?side7 ?side8 A2.out).mono ?_); (case side1 => exact cz HR0_4); (case side2 => exact HC0_4.out); (case side3 => exact cz HR0_8); (case side4 => exact HC0_8.out); (case side5 => exact cz HR0_9); (case side6 => exact HC0_9.out); (case side7 => exact cz HR0_10); (case side8 => exact HC0_10.out); rintro e w7 ⟨rfl, hb⟩; refine ⟨_, rfl, ?_⟩; replace BK138 := kb BK138 hb; replace HB := bp hb; clear hb))
  (try simp only [Act.put, List.setIfInBounds_toArray, List.set_cons_zero, List.set_cons_succ])
  go_cut [30] (fun v30 wc => ∃ (kq : Nat) (x30_3 : Bool), v30 = .bool x30_3 ∧ Aside0 (dioramaref03_CheckTrack.j0 kq x30_3 a0_0 a0_1 a0_2 a0_3 l0_4 a0_5 a0_6 a0_7 l0_8 l0_9 l0_10 = some r) ∧ Aside0 (kq ≤ k) ∧ Aside0 (wc.heap[gb138]? = some (.cells #[.int .i64 a0_0, .int .i64 a0_1, .string a0_2, .int .i64 a0_3, (.slice A0_4 l0_4.length c0_4), .string a0_5, .string a0_6, .int .i64 a0_7, (.slice A0_8 l0_8.length c0_8), (.slice A0_9 l0_9.length c0_9), (.slice A0_10 l0_10.length c0_10)] 40 (0, 0))) ∧ Aside0 (Below w.heap.size w wc))
  case first =>
   have H := HC4.out; clear HC4
   by_cases c8 : (l0_4.length : Int) > 1000
   ·rw [if_pos c8] at H; have c8b0 : decide (1000 < (l0_4.length : Int)) = true := decide_eq_true c8; have c8b1 : decide (1000 < l0_4.length) = true := decide_eq_true (by omega); clear c8
    (first | rw [c8b0] | (simp only [i64_w, i32_w]; rw [c8b0]) | skip)
    have H' := Aside0.mk H; clear H; have hcz9_0 : w7.cell? ⟨gb138, 0, none⟩ = some (.int .i64 a0_0) := ct BK138 0; have hcz9_1 : w7.cell? ⟨gb138, 1, none⟩ = some (.int .i64 a0_1) := ct BK138 1; have hcz9_2 : w7.cell? ⟨gb138, 2, none⟩ = some (.string a0_2) := ct BK138 2; have hcz9_3 : w7.cell? ⟨gb138, 3, none⟩ = some (.int .i64 a0_3) := ct BK138 3; have hcz9_4 : w7.cell? ⟨gb138, 4, none⟩ = some (.slice A0_4 l0_4.length c0_4) := ct BK138 4; have hcz9_5 : w7.cell? ⟨gb138, 5, none⟩ = some (.string a0_5) := ct BK138 5; have hcz9_6 : w7.cell? ⟨gb138, 6, none⟩ = some (.string a0_6) := ct BK138 6; have hcz9_7 : w7.cell? ⟨gb138, 7, none⟩ = some (.int .i64 a0_7) := ct BK138 7; have hcz9_8 : w7.cell? ⟨gb138, 8, none⟩ = some (.slice A0_8 l0_8.length c0_8) := ct BK138 8; have hcz9_9 : w7.cell? ⟨gb138, 9, none⟩ = some (.slice A0_9 l0_9.length c0_9) := ct BK138 9; have hcz9_10 : w7.cell? ⟨gb138, 10, none⟩ = some (.slice A0_10 l0_10.length c0_10) := ct BK138 10; have hfz9_0 := blk_frozen BK138.out 0; have hfz9_1 := blk_frozen BK138.out 1; have hfz9_2 := blk_frozen BK138.out 2; have hfz9_3 := blk_frozen BK138.out 3; have hfz9_4 := blk_frozen BK138.out 4; have hfz9_5 := blk_frozen BK138.out 5; have hfz9_6 := blk_frozen BK138.out 6; have hfz9_7 := blk_frozen BK138.out 7; have hfz9_8 := blk_frozen BK138.out 8; have hfz9_9 := blk_frozen BK138.out 9; have hfz9_10 := blk_frozen BK138.out 10
    go_wp2
    go_meet
    case rel => exact ⟨_, (true), jz, H', ⟨by first | omega | exact Nat.le_refl _⟩, ⟨kz⟩, ⟨bz⟩⟩
   ·rw [if_neg c8] at H; have c8b0 : decide (1000 < (l0_4.length : Int)) = false := decide_eq_false c8; have c8b1 : decide (1000 < l0_4.length) = false := decide_eq_false (by omega); clear c8
    (first | rw [c8b0] | (simp only [i64_w, i32_w]; rw [c8b0]) | skip)
    by_cases c10 : (l0_8.length : Int) > 20
    ·rw [if_pos c10] at H; have c10b0 : decide (20 < (l0_8.length : Int)) = true := decide_eq_true c10; have c10b1 : decide (20 < l0_8.length) = true := decide_eq_true (by omega); clear c10; have H' := Aside0.mk H; clear H; have hcz11_0 : w7.cell? ⟨gb138, 0, none⟩ = some (.int .i64 a0_0) := ct BK138 0; have hcz11_1 : w7.cell? ⟨gb138, 1, none⟩ = some (.int .i64 a0_1) := ct BK138 1; have hcz11_2 : w7.cell? ⟨gb138, 2, none⟩ = some (.string a0_2) := ct BK138 2; have hcz11_3 : w7.cell? ⟨gb138, 3, none⟩ = some (.int .i64 a0_3) := ct BK138 3; have hcz11_4 : w7.cell? ⟨gb138, 4, none⟩ = some (.slice A0_4 l0_4.length c0_4) := ct BK138 4; have hcz11_5 : w7.cell? ⟨gb138, 5, none⟩ = some (.string a0_5) := ct BK138 5; have hcz11_6 : w7.cell? ⟨gb138, 6, none⟩ = some (.string a0_6) := ct BK138 6; have hcz11_7 : w7.cell? ⟨gb138, 7, none⟩ = some (.int .i64 a0_7) := ct BK138 7; have hcz11_8 : w7.cell? ⟨gb138, 8, none⟩ = some (.slice A0_8 l0_8.length c0_8) := ct BK138 8; have hcz11_9 : w7.cell? ⟨gb138, 9, none⟩ = some (.slice A0_9 l0_9.length c0_9) := ct BK138 9; have hcz11_10 : w7.cell? ⟨gb138, 10, none⟩ = some (.slice A0_10 l0_10.length c0_10) := ct BK138 10; have hfz11_0 := blk_frozen BK138.out 0; have hfz11_1 := blk_frozen BK138.out 1; have hfz11_2 := blk_frozen BK138.out 2; have hfz11_3 := blk_frozen BK138.out 3; have hfz11_4 := blk_frozen BK138.out 4; have hfz11_5 := blk_frozen BK138.out 5; have hfz11_6 := blk_frozen BK138.out 6; have hfz11_7 := blk_frozen BK138.out 7; have hfz11_8 := blk_frozen BK138.out 8; have hfz11_9 := blk_frozen BK138.out 9; have hfz11_10 := blk_frozen BK138.out 10
     go_wp2
     go_meet
     case rel => exact ⟨_, (true), jz, H', ⟨by first | omega | exact Nat.le_refl _⟩, ⟨kz⟩, ⟨bz⟩⟩
    ·rw [if_neg c10] at H; have c10b0 : decide (20 < (l0_8.length : Int)) = false := decide_eq_false c10; have c10b1 : decide (20 < l0_8.length) = false := decide_eq_false (by omega); clear c10
     by_cases c12 : (l0_9.length : Int) > 8
     ·rw [if_pos c12] at H; have c12b0 : decide (8 < (l0_9.length : Int)) = true := decide_eq_true c12; have c12b1 : decide (8 < l0_9.length) = true := decide_eq_true (by omega); clear c12; have H' := Aside0.mk H; clear H; have hcz13_0 : w7.cell? ⟨gb138, 0, none⟩ = some (.int .i64 a0_0) := ct BK138 0; have hcz13_1 : w7.cell? ⟨gb138, 1, none⟩ = some (.int .i64 a0_1) := ct BK138 1; have hcz13_2 : w7.cell? ⟨gb138, 2, none⟩ = some (.string a0_2) := ct BK138 2; have hcz13_3 : w7.cell? ⟨gb138, 3, none⟩ = some (.int .i64 a0_3) := ct BK138 3; have hcz13_4 : w7.cell? ⟨gb138, 4, none⟩ = some (.slice A0_4 l0_4.length c0_4) := ct BK138 4; have hcz13_5 : w7.cell? ⟨gb138, 5, none⟩ = some (.string a0_5) := ct BK138 5; have hcz13_6 : w7.cell? ⟨gb138, 6, none⟩ = some (.string a0_6) := ct BK138 6; have hcz13_7 : w7.cell? ⟨gb138, 7, none⟩ = some (.int .i64 a0_7) := ct BK138 7; have hcz13_8 : w7.cell? ⟨gb138, 8, none⟩ = some (.slice A0_8 l0_8.length c0_8) := ct BK138 8; have hcz13_9 : w7.cell? ⟨gb138, 9, none⟩ = some (.slice A0_9 l0_9.length c0_9) := ct BK138 9; have hcz13_10 : w7.cell? ⟨gb138, 10, none⟩ = some (.slice A0_10 l0_10.length c0_10) := ct BK138 10; have hfz13_0 := blk_frozen BK138.out 0; have hfz13_1 := blk_frozen BK138.out 1; have hfz13_2 := blk_frozen BK138.out 2; have hfz13_3 := blk_frozen BK138.out 3; have hfz13_4 := blk_frozen BK138.out 4; have hfz13_5 := blk_frozen BK138.out 5; have hfz13_6 := blk_frozen BK138.out 6; have hfz13_7 := blk_frozen BK138.out 7; have hfz13_8 := blk_frozen BK138.out 8; have hfz13_9 := blk_frozen BK138.out 9; have hfz13_10 := blk_frozen BK138.out 10
      go_wp2
      go_meet
      case rel => exact ⟨_, (true), jz, H', ⟨by first | omega | exact Nat.le_refl _⟩, ⟨kz⟩, ⟨bz⟩⟩
     ·rw [if_neg c12] at H; have c12b0 : decide (8 < (l0_9.length : Int)) = false := decide_eq_false c12; have c12b1 : decide (8 < l0_9.length) = false := decide_eq_false (by omega); clear c12; have H' := Aside0.mk H; clear H; have hcz14_0 : w7.cell? ⟨gb138, 0, none⟩ = some (.int .i64 a0_0) := ct BK138 0; have hcz14_1 : w7.cell? ⟨gb138, 1, none⟩ = some (.int .i64 a0_1) := ct BK138 1; have hcz14_2 : w7.cell? ⟨gb138, 2, none⟩ = some (.string a0_2) := ct BK138 2; have hcz14_3 : w7.cell? ⟨gb138, 3, none⟩ = some (.int .i64 a0_3) := ct BK138 3; have hcz14_4 : w7.cell? ⟨gb138, 4, none⟩ = some (.slice A0_4 l0_4.length c0_4) := ct BK138 4; have hcz14_5 : w7.cell? ⟨gb138, 5, none⟩ = some (.string a0_5) := ct BK138 5; have hcz14_6 : w7.cell? ⟨gb138, 6, none⟩ = some (.string a0_6) := ct BK138 6; have hcz14_7 : w7.cell? ⟨gb138, 7, none⟩ = some (.int .i64 a0_7) := ct BK138 7; have hcz14_8 : w7.cell? ⟨gb138, 8, none⟩ = some (.slice A0_8 l0_8.length c0_8) := ct BK138 8; have hcz14_9 : w7.cell? ⟨gb138, 9, none⟩ = some (.slice A0_9 l0_9.length c0_9) := ct BK138 9; have hcz14_10 : w7.cell? ⟨gb138, 10, none⟩ = some (.slice A0_10 l0_10.length c0_10) := ct BK138 10; have hfz14_0 := blk_frozen BK138.out 0; have hfz14_1 := blk_frozen BK138.out 1; have hfz14_2 := blk_frozen BK138.out 2; have hfz14_3 := blk_frozen BK138.out 3; have hfz14_4 := blk_frozen BK138.out 4; have hfz14_5 := blk_frozen BK138.out 5; have hfz14_6 := blk_frozen BK138.out 6; have hfz14_7 := blk_frozen BK138.out 7; have hfz14_8 := blk_frozen BK138.out 8; have hfz14_9 := blk_frozen BK138.out 9; have hfz14_10 := blk_frozen BK138.out 10
      go_wp2
      go_meet
      case rel => exact ⟨_, (decide ((l0_10.length : Int) > 400)), jz, H', ⟨by first | omega | exact Nat.le_refl _⟩, ⟨kz⟩, ⟨bz⟩⟩
  case rest =>
   clear HC4
   try clear c1
   try clear c2
   try clear p2
   try clear c3
   try clear c4
   try clear c8
   try clear c8b0
   try clear c8b1
   try clear c10
   try clear c10b0
   try clear c10b1
   try clear c12
   try clear c12b0
   try clear c12b1
   try clear hcz11_0
   try clear hcz11_1
   try clear hcz11_10
   try clear hcz11_2
   try clear hcz11_3
   try clear hcz11_4
   try clear hcz11_5
   try clear hcz11_6
   try clear hcz11_7
   try clear hcz11_8
   try clear hcz11_9
   try clear hcz13_0
   try clear hcz13_1
   try clear hcz13_10
   try clear hcz13_2
   try clear hcz13_3
   try clear hcz13_4
   try clear hcz13_5
   try clear hcz13_6
   try clear hcz13_7
   try clear hcz13_8
   try clear hcz13_9
   try clear hcz14_0
   try clear hcz14_1
   try clear hcz14_10
   try clear hcz14_2
   try clear hcz14_3
   try clear hcz14_4
   try clear hcz14_5
   try clear hcz14_6
   try clear hcz14_7
   try clear hcz14_8
   try clear hcz14_9
   try clear hcz6_0
   try clear hcz6_1
   try clear hcz6_10
   try clear hcz6_2
   try clear hcz6_3
   try clear hcz6_4
   try clear hcz6_5
   try clear hcz6_6
   try clear hcz6_7
   try clear hcz6_8
   try clear hcz6_9
   try clear hcz9_0
   try clear hcz9_1
   try clear hcz9_10
   try clear hcz9_2
   try clear hcz9_3
   try clear hcz9_4
   try clear hcz9_5
   try clear hcz9_6
   try clear hcz9_7
   try clear hcz9_8
   try clear hcz9_9
   try clear hfz11_0
   try clear hfz11_1
   try clear hfz11_10
   try clear hfz11_2
   try clear hfz11_3
   try clear hfz11_4
   try clear hfz11_5
   try clear hfz11_6
   try clear hfz11_7
   try clear hfz11_8
   try clear hfz11_9
   try clear hfz13_0
   try clear hfz13_1
   try clear hfz13_10
   try clear hfz13_2
   try clear hfz13_3
   try clear hfz13_4
   try clear hfz13_5
   try clear hfz13_6
   try clear hfz13_7
   try clear hfz13_8
   try clear hfz13_9
   try clear hfz14_0
   try clear hfz14_1
   try clear hfz14_10
   try clear hfz14_2
   try clear hfz14_3
   try clear hfz14_4
   try clear hfz14_5
   try clear hfz14_6
   try clear hfz14_7
   try clear hfz14_8
   try clear hfz14_9
   try clear hfz6_0
   try clear hfz6_1
   try clear hfz6_10
   try clear hfz6_2
   try clear hfz6_3
   try clear hfz6_4
   try clear hfz6_5
   try clear hfz6_6
   try clear hfz6_7
   try clear hfz6_8
   try clear hfz6_9
   try clear hfz9_0
   try clear hfz9_1
   try clear hfz9_10
   try clear hfz9_2
   try clear hfz9_3
   try clear hfz9_4
   try clear hfz9_5
   try clear hfz9_6
   try clear hfz9_7
   try clear hfz9_8
   try clear hfz9_9
   obtain ⟨kq, x30_3, rfl, HA, HJ3, BK138, HB⟩ := hcut
   cases kq with
   | zero => exact absurd HA.out (by simp [dioramaref03_CheckTrack.j0])
   | succ kj3 =>
    have H := HA.out; clear HA; simp only [dioramaref03_CheckTrack.j0] at H
    by_cases c15 : x30_3 = true
    ·subst c15; rw [if_pos rfl] at H; obtain rfl := Option.some.inj H
     go_wp2
     go_ret
     exact ⟨ez, bz⟩
    ·obtain rfl := bf c15; rw [if_neg (show ¬ (false = true) by decide)] at H; obtain ⟨t140, A16, H⟩ := ob H
     by_cases c17 : t140 = true
     ·subst c17; rw [if_pos rfl] at H; have H' := Aside0.mk H; clear H; have hcz18_0 : wc.cell? ⟨gb138, 0, none⟩ = some (.int .i64 a0_0) := ct BK138 0; have hcz18_1 : wc.cell? ⟨gb138, 1, none⟩ = some (.int .i64 a0_1) := ct BK138 1; have hcz18_2 : wc.cell? ⟨gb138, 2, none⟩ = some (.string a0_2) := ct BK138 2; have hcz18_3 : wc.cell? ⟨gb138, 3, none⟩ = some (.int .i64 a0_3) := ct BK138 3; have hcz18_4 : wc.cell? ⟨gb138, 4, none⟩ = some (.slice A0_4 l0_4.length c0_4) := ct BK138 4; have hcz18_5 : wc.cell? ⟨gb138, 5, none⟩ = some (.string a0_5) := ct BK138 5; have hcz18_6 : wc.cell? ⟨gb138, 6, none⟩ = some (.string a0_6) := ct BK138 6; have hcz18_7 : wc.cell? ⟨gb138, 7, none⟩ = some (.int .i64 a0_7) := ct BK138 7; have hcz18_8 : wc.cell? ⟨gb138, 8, none⟩ = some (.slice A0_8 l0_8.length c0_8) := ct BK138 8; have hcz18_9 : wc.cell? ⟨gb138, 9, none⟩ = some (.slice A0_9 l0_9.length c0_9) := ct BK138 9; have hcz18_10 : wc.cell? ⟨gb138, 10, none⟩ = some (.slice A0_10 l0_10.length c0_10) := ct BK138 10; have hfz18_0 := blk_frozen BK138.out 0; have hfz18_1 := blk_frozen BK138.out 1; have hfz18_2 := blk_frozen BK138.out 2; have hfz18_3 := blk_frozen BK138.out 3; have hfz18_4 := blk_frozen BK138.out 4; have hfz18_5 := blk_frozen BK138.out 5; have hfz18_6 := blk_frozen BK138.out 6; have hfz18_7 := blk_frozen BK138.out 7; have hfz18_8 := blk_frozen BK138.out 8; have hfz18_9 := blk_frozen BK138.out 9; have hfz18_10 := blk_frozen BK138.out 10
      go_wp2_with (first | ((with_reducible refine gate_callee (f := 47) rfl ?_); refine zC 33 Try.func47 #[.slice A0_8 l0_8.length c0_8] ?_; (with_reducible refine (dioramaref03_edits.calls kj3 _ _ l0_8 true _ ?side1 ?side2 A16.out).mono ?_); (case side1 => exact cz HR0_8); (case side2 => exact HC0_8.out); rintro e w19 ⟨rfl, hb⟩; refine ⟨_, rfl, ?_⟩; replace BK138 := kb BK138 hb; replace HB := bp hb; clear hb))
      go_loopg [3, 4] kj3 (fun kq v3 v4 w' => ∃ (x3_2 : Int) (x4_2 : Int), v3 = .int .i64 x3_2 ∧ v4 = .int .i64 x4_2 ∧ Aside0 (dioramaref03_CheckTrack.l0 kq x3_2 x4_2 a0_0 a0_1 a0_2 a0_3 l0_4 a0_5 a0_6 a0_7 l0_8 l0_9 l0_10 = some r) ∧ Aside0 (kq ≤ kj3) ∧ Aside0 (w'.heap[gb138]? = some (.cells #[.int .i64 a0_0, .int .i64 a0_1, .string a0_2, .int .i64 a0_3, (.slice A0_4 l0_4.length c0_4), .string a0_5, .string a0_6, .int .i64 a0_7, (.slice A0_8 l0_8.length c0_8), (.slice A0_9 l0_9.length c0_9), (.slice A0_10 l0_10.length c0_10)] 40 (0, 0))) ∧ Aside0 (Below w.heap.size w w'))
      case atStart => exact ⟨(0), (0), jz, jz, H', ⟨Nat.le_refl _⟩, ⟨kz⟩, ⟨bz⟩⟩
      case round =>
       clear H'
       try clear c1
       try clear c2
       try clear p2
       try clear c3
       try clear c4
       try clear c8
       try clear c8b0
       try clear c8b1
       try clear c10
       try clear c10b0
       try clear c10b1
       try clear c12
       try clear c12b0
       try clear c12b1
       try clear c15
       try clear c17
       try clear hcz11_0
       try clear hcz11_1
       try clear hcz11_10
       try clear hcz11_2
       try clear hcz11_3
       try clear hcz11_4
       try clear hcz11_5
       try clear hcz11_6
       try clear hcz11_7
       try clear hcz11_8
       try clear hcz11_9
       try clear hcz13_0
       try clear hcz13_1
       try clear hcz13_10
       try clear hcz13_2
       try clear hcz13_3
       try clear hcz13_4
       try clear hcz13_5
       try clear hcz13_6
       try clear hcz13_7
       try clear hcz13_8
       try clear hcz13_9
       try clear hcz14_0
       try clear hcz14_1
       try clear hcz14_10
       try clear hcz14_2
       try clear hcz14_3
       try clear hcz14_4
       try clear hcz14_5
       try clear hcz14_6
       try clear hcz14_7
       try clear hcz14_8
       try clear hcz14_9
       try clear hcz18_0
       try clear hcz18_1
       try clear hcz18_10
       try clear hcz18_2
       try clear hcz18_3
       try clear hcz18_4
       try clear hcz18_5
       try clear hcz18_6
       try clear hcz18_7
       try clear hcz18_8
       try clear hcz18_9
       try clear hcz6_0
       try clear hcz6_1
       try clear hcz6_10
       try clear hcz6_2
       try clear hcz6_3
       try clear hcz6_4
       try clear hcz6_5
       try clear hcz6_6
       try clear hcz6_7
       try clear hcz6_8
       try clear hcz6_9
       try clear hcz9_0
       try clear hcz9_1
       try clear hcz9_10
       try clear hcz9_2
       try clear hcz9_3
       try clear hcz9_4
       try clear hcz9_5
       try clear hcz9_6
       try clear hcz9_7
       try clear hcz9_8
       try clear hcz9_9
       try clear hfz11_0
       try clear hfz11_1
       try clear hfz11_10
       try clear hfz11_2
       try clear hfz11_3
       try clear hfz11_4
       try clear hfz11_5
       try clear hfz11_6
       try clear hfz11_7
       try clear hfz11_8
       try clear hfz11_9
       try clear hfz13_0
       try clear hfz13_1
       try clear hfz13_10
       try clear hfz13_2
       try clear hfz13_3
       try clear hfz13_4
       try clear hfz13_5
       try clear hfz13_6
       try clear hfz13_7
       try clear hfz13_8
       try clear hfz13_9
       try clear hfz14_0
       try clear hfz14_1
       try clear hfz14_10
       try clear hfz14_2
       try clear hfz14_3
       try clear hfz14_4
       try clear hfz14_5
       try clear hfz14_6
       try clear hfz14_7
       try clear hfz14_8
       try clear hfz14_9
       try clear hfz18_0
       try clear hfz18_1
       try clear hfz18_10
       try clear hfz18_2
       try clear hfz18_3
       try clear hfz18_4
       try clear hfz18_5
       try clear hfz18_6
       try clear hfz18_7
       try clear hfz18_8
       try clear hfz18_9
       try clear hfz6_0
       try clear hfz6_1
       try clear hfz6_10
       try clear hfz6_2
       try clear hfz6_3
       try clear hfz6_4
       try clear hfz6_5
       try clear hfz6_6
       try clear hfz6_7
       try clear hfz6_8
       try clear hfz6_9
       try clear hfz9_0
       try clear hfz9_1
       try clear hfz9_10
       try clear hfz9_2
       try clear hfz9_3
       try clear hfz9_4
       try clear hfz9_5
       try clear hfz9_6
       try clear hfz9_7
       try clear hfz9_8
       try clear hfz9_9
       try clear p2
       obtain ⟨x3_2, x4_2, rfl, rfl, HA, HK2, BK138, HB⟩ := hrel
       cases gk with
       | zero => exact absurd HA.out (by simp [dioramaref03_CheckTrack.l0])
       | succ k2 =>
        have H := HA.out; clear HA; simp only [dioramaref03_CheckTrack.l0] at H
        by_cases c20 : x4_2 < (l0_10.length : Int)
        ·rw [if_pos c20] at H; have c20b0 : decide (x4_2 < (l0_10.length : Int)) = true := decide_eq_true c20; clear c20
         by_cases c21 : 0 ≤ x4_2
         ·rw [if_pos c21] at H; have c21b0 : decide (0 ≤ x4_2) = true := decide_eq_true c21; clear c21; obtain ⟨t142, A22, H⟩ := ob H
          by_cases c23 : t142 = 0
          ·rw [if_pos c23] at H; have c23b0 : (t142 == 0) = true := beq_iff_eq.mpr c23; have c23b1 : (t142 != 0) = false := bne_eq_false_iff_eq.mpr c23; clear c23; have H' := Aside0.mk H; clear H; have hcz24_0 : wr.cell? ⟨gb138, 0, none⟩ = some (.int .i64 a0_0) := ct BK138 0; have hcz24_1 : wr.cell? ⟨gb138, 1, none⟩ = some (.int .i64 a0_1) := ct BK138 1; have hcz24_2 : wr.cell? ⟨gb138, 2, none⟩ = some (.string a0_2) := ct BK138 2; have hcz24_3 : wr.cell? ⟨gb138, 3, none⟩ = some (.int .i64 a0_3) := ct BK138 3; have hcz24_4 : wr.cell? ⟨gb138, 4, none⟩ = some (.slice A0_4 l0_4.length c0_4) := ct BK138 4; have hcz24_5 : wr.cell? ⟨gb138, 5, none⟩ = some (.string a0_5) := ct BK138 5; have hcz24_6 : wr.cell? ⟨gb138, 6, none⟩ = some (.string a0_6) := ct BK138 6; have hcz24_7 : wr.cell? ⟨gb138, 7, none⟩ = some (.int .i64 a0_7) := ct BK138 7; have hcz24_8 : wr.cell? ⟨gb138, 8, none⟩ = some (.slice A0_8 l0_8.length c0_8) := ct BK138 8; have hcz24_9 : wr.cell? ⟨gb138, 9, none⟩ = some (.slice A0_9 l0_9.length c0_9) := ct BK138 9; have hcz24_10 : wr.cell? ⟨gb138, 10, none⟩ = some (.slice A0_10 l0_10.length c0_10) := ct BK138 10; have hfz24_0 := blk_frozen BK138.out 0; have hfz24_1 := blk_frozen BK138.out 1; have hfz24_2 := blk_frozen BK138.out 2; have hfz24_3 := blk_frozen BK138.out 3; have hfz24_4 := blk_frozen BK138.out 4; have hfz24_5 := blk_frozen BK138.out 5; have hfz24_6 := blk_frozen BK138.out 6; have hfz24_7 := blk_frozen BK138.out 7; have hfz24_8 := blk_frozen BK138.out 8; have hfz24_9 := blk_frozen BK138.out 9; have hfz24_10 := blk_frozen BK138.out 10; have p141 : 0 ≤ (x4_2 : Int) := od; have q141 : x4_2 < (l0_10.length : Int) := od; obtain ⟨ad141, A141_4, c141_4, A141_5, c141_5, e141, hx141_0, hx141_1, hx141_2, hx141_3, hx141_4, hx141_5, hl141_4, hi141_4, hl141_5, hi141_5⟩ := at_T51 HR0_10.out x4_2 p141 q141
           cases e141
           replace hx141_0 := cl HB hx141_0; replace hx141_1 := cl HB hx141_1; replace hx141_2 := cl HB hx141_2; replace hx141_3 := cl HB hx141_3; replace hx141_4 := cl HB hx141_4; replace hx141_5 := cl HB hx141_5; have HR141_4 := Aside0.mk hi141_4; have HC141_4 := Aside0.mk hl141_4; clear hi141_4 hl141_4; have HR141_5 := Aside0.mk hi141_5; have HC141_5 := Aside0.mk hl141_5; clear hi141_5 hl141_5; replace p141 := eq_true p141; replace q141 := eq_true q141
           go_wp2_with (first | ((with_reducible refine gate_callee (f := 48) rfl ?_); refine zC 49 Try.func48 #[.agg #[.int .i64 ((rd_T51 l0_10 x4_2).f0), .int .i64 ((rd_T51 l0_10 x4_2).f1), .int .i64 ((rd_T51 l0_10 x4_2).f2), .bool ((rd_T51 l0_10 x4_2).f3), .slice A141_4 ((rd_T51 l0_10 x4_2).f4).length c141_4, .slice A141_5 ((rd_T51 l0_10 x4_2).f5).length c141_5], .int .i64 x4_2, .int .i64 x3_2] ?_; (with_reducible refine (dioramaref03_sample.calls k2 ((rd_T51 l0_10 x4_2).f0) ((rd_T51 l0_10 x4_2).f1) ((rd_T51 l0_10 x4_2).f2) ((rd_T51 l0_10 x4_2).f3) _ _ ((rd_T51 l0_10 x4_2).f4) _ _ ((rd_T51 l0_10 x4_2).f5) x4_2 x3_2 t142 _ ?side1 ?side2 ?side3 ?side4 A22.out).mono ?_); (case side1 => exact cz HR141_4); (case side2 => exact HC141_4.out); (case side3 => exact cz HR141_5); (case side4 => exact HC141_5.out); rintro e w25 ⟨rfl, hb⟩; refine ⟨_, rfl, ?_⟩; replace BK138 := kb BK138 hb; replace HB := bp hb; clear hb; have hcz26_0 : w25.cell? ⟨gb138, 0, none⟩ = some (.int .i64 a0_0) := ct BK138 0; have hcz26_1 : w25.cell? ⟨gb138, 1, none⟩ = some (.int .i64 a0_1) := ct BK138 1; have hcz26_2 : w25.cell? ⟨gb138, 2, none⟩ = some (.string a0_2) := ct BK138 2; have hcz26_3 : w25.cell? ⟨gb138, 3, none⟩ = some (.int .i64 a0_3) := ct BK138 3; have hcz26_4 : w25.cell? ⟨gb138, 4, none⟩ = some (.slice A0_4 l0_4.length c0_4) := ct BK138 4; have hcz26_5 : w25.cell? ⟨gb138, 5, none⟩ = some (.string a0_5) := ct BK138 5; have hcz26_6 : w25.cell? ⟨gb138, 6, none⟩ = some (.string a0_6) := ct BK138 6; have hcz26_7 : w25.cell? ⟨gb138, 7, none⟩ = some (.int .i64 a0_7) := ct BK138 7; have hcz26_8 : w25.cell? ⟨gb138, 8, none⟩ = some (.slice A0_8 l0_8.length c0_8) := ct BK138 8; have hcz26_9 : w25.cell? ⟨gb138, 9, none⟩ = some (.slice A0_9 l0_9.length c0_9) := ct BK138 9; have hcz26_10 : w25.cell? ⟨gb138, 10, none⟩ = some (.slice (some ad141) l0_10.length c0_10) := ct BK138 10; have hfz26_0 := blk_frozen BK138.out 0; have hfz26_1 := blk_frozen BK138.out 1; have hfz26_2 := blk_frozen BK138.out 2; have hfz26_3 := blk_frozen BK138.out 3; have hfz26_4 := blk_frozen BK138.out 4; have hfz26_5 := blk_frozen BK138.out 5; have hfz26_6 := blk_frozen BK138.out 6; have hfz26_7 := blk_frozen BK138.out 7; have hfz26_8 := blk_frozen BK138.out 8; have hfz26_9 := blk_frozen BK138.out 9; have hfz26_10 := blk_frozen BK138.out 10; have p143 : 0 ≤ (x4_2 : Int) := od; have q143 : x4_2 < (l0_10.length : Int) := od; obtain ⟨ad143, A143_4, c143_4, A143_5, c143_5, e143, hx143_0, hx143_1, hx143_2, hx143_3, hx143_4, hx143_5, hl143_4, hi143_4, hl143_5, hi143_5⟩ := at_T51 HR0_10.out x4_2 p143 q143; obtain rfl : ad141 = ad143 := (by injection e143); replace hx143_0 := cl HB hx143_0; replace hx143_1 := cl HB hx143_1; replace hx143_2 := cl HB hx143_2; replace hx143_3 := cl HB hx143_3; replace hx143_4 := cl HB hx143_4; replace hx143_5 := cl HB hx143_5; have HR143_4 := Aside0.mk hi143_4; have HC143_4 := Aside0.mk hl143_4; clear hi143_4 hl143_4; have HR143_5 := Aside0.mk hi143_5; have HC143_5 := Aside0.mk hl143_5; clear hi143_5 hl143_5; replace p143 := eq_true p143; replace q143 := eq_true q143))
           go_roundg k2
           case measure => have := HJ3.out; have := HK2.out; omega
           case rel => exact ⟨((rd_T51 l0_10 x4_2).f0), (wrap64 (x4_2 + 1)), jz, jz, H', ⟨by have := HJ3.out; have := HK2.out; omega⟩, ⟨kz⟩, ⟨bz⟩⟩
          ·rw [if_neg c23] at H; have c23b0 : (t142 == 0) = false := beq_eq_false_iff_ne.mpr c23; have c23b1 : (t142 != 0) = true := bne_iff_ne.mpr c23; obtain rfl := Option.some.inj H; have hcz27_0 : wr.cell? ⟨gb138, 0, none⟩ = some (.int .i64 a0_0) := ct BK138 0; have hcz27_1 : wr.cell? ⟨gb138, 1, none⟩ = some (.int .i64 a0_1) := ct BK138 1; have hcz27_2 : wr.cell? ⟨gb138, 2, none⟩ = some (.string a0_2) := ct BK138 2; have hcz27_3 : wr.cell? ⟨gb138, 3, none⟩ = some (.int .i64 a0_3) := ct BK138 3; have hcz27_4 : wr.cell? ⟨gb138, 4, none⟩ = some (.slice A0_4 l0_4.length c0_4) := ct BK138 4; have hcz27_5 : wr.cell? ⟨gb138, 5, none⟩ = some (.string a0_5) := ct BK138 5; have hcz27_6 : wr.cell? ⟨gb138, 6, none⟩ = some (.string a0_6) := ct BK138 6; have hcz27_7 : wr.cell? ⟨gb138, 7, none⟩ = some (.int .i64 a0_7) := ct BK138 7; have hcz27_8 : wr.cell? ⟨gb138, 8, none⟩ = some (.slice A0_8 l0_8.length c0_8) := ct BK138 8; have hcz27_9 : wr.cell? ⟨gb138, 9, none⟩ = some (.slice A0_9 l0_9.length c0_9) := ct BK138 9; have hcz27_10 : wr.cell? ⟨gb138, 10, none⟩ = some (.slice A0_10 l0_10.length c0_10) := ct BK138 10; have hfz27_0 := blk_frozen BK138.out 0; have hfz27_1 := blk_frozen BK138.out 1; have hfz27_2 := blk_frozen BK138.out 2; have hfz27_3 := blk_frozen BK138.out 3; have hfz27_4 := blk_frozen BK138.out 4; have hfz27_5 := blk_frozen BK138.out 5; have hfz27_6 := blk_frozen BK138.out 6; have hfz27_7 := blk_frozen BK138.out 7; have hfz27_8 := blk_frozen BK138.out 8; have hfz27_9 := blk_frozen BK138.out 9; have hfz27_10 := blk_frozen BK138.out 10; have p141 : 0 ≤ (x4_2 : Int) := od; have q141 : x4_2 < (l0_10.length : Int) := od; obtain ⟨ad141, A141_4, c141_4, A141_5, c141_5, e141, hx141_0, hx141_1, hx141_2, hx141_3, hx141_4, hx141_5, hl141_4, hi141_4, hl141_5, hi141_5⟩ := at_T51 HR0_10.out x4_2 p141 q141
           cases e141
           replace hx141_0 := cl HB hx141_0; replace hx141_1 := cl HB hx141_1; replace hx141_2 := cl HB hx141_2; replace hx141_3 := cl HB hx141_3; replace hx141_4 := cl HB hx141_4; replace hx141_5 := cl HB hx141_5; have HR141_4 := Aside0.mk hi141_4; have HC141_4 := Aside0.mk hl141_4; clear hi141_4 hl141_4; have HR141_5 := Aside0.mk hi141_5; have HC141_5 := Aside0.mk hl141_5; clear hi141_5 hl141_5; replace p141 := eq_true p141; replace q141 := eq_true q141
           go_wp2_with (first | ((with_reducible refine gate_callee (f := 48) rfl ?_); refine zC 49 Try.func48 #[.agg #[.int .i64 ((rd_T51 l0_10 x4_2).f0), .int .i64 ((rd_T51 l0_10 x4_2).f1), .int .i64 ((rd_T51 l0_10 x4_2).f2), .bool ((rd_T51 l0_10 x4_2).f3), .slice A141_4 ((rd_T51 l0_10 x4_2).f4).length c141_4, .slice A141_5 ((rd_T51 l0_10 x4_2).f5).length c141_5], .int .i64 x4_2, .int .i64 x3_2] ?_; (with_reducible refine (dioramaref03_sample.calls k2 ((rd_T51 l0_10 x4_2).f0) ((rd_T51 l0_10 x4_2).f1) ((rd_T51 l0_10 x4_2).f2) ((rd_T51 l0_10 x4_2).f3) _ _ ((rd_T51 l0_10 x4_2).f4) _ _ ((rd_T51 l0_10 x4_2).f5) x4_2 x3_2 t142 _ ?side1 ?side2 ?side3 ?side4 A22.out).mono ?_); (case side1 => exact cz HR141_4); (case side2 => exact HC141_4.out); (case side3 => exact cz HR141_5); (case side4 => exact HC141_5.out); rintro e w28 ⟨rfl, hb⟩; refine ⟨_, rfl, ?_⟩; replace BK138 := kb BK138 hb; replace HB := bp hb; clear hb))
           go_ret
           exact ⟨ez, bz⟩
         ·rw [if_neg c21] at H
          exact absurd H (by simp)
        ·rw [if_neg c20] at H; have c20b0 : decide (x4_2 < (l0_10.length : Int)) = false := decide_eq_false c20; clear c20; obtain rfl := Option.some.inj H; have hcz29_0 : wr.cell? ⟨gb138, 0, none⟩ = some (.int .i64 a0_0) := ct BK138 0; have hcz29_1 : wr.cell? ⟨gb138, 1, none⟩ = some (.int .i64 a0_1) := ct BK138 1; have hcz29_2 : wr.cell? ⟨gb138, 2, none⟩ = some (.string a0_2) := ct BK138 2; have hcz29_3 : wr.cell? ⟨gb138, 3, none⟩ = some (.int .i64 a0_3) := ct BK138 3; have hcz29_4 : wr.cell? ⟨gb138, 4, none⟩ = some (.slice A0_4 l0_4.length c0_4) := ct BK138 4; have hcz29_5 : wr.cell? ⟨gb138, 5, none⟩ = some (.string a0_5) := ct BK138 5; have hcz29_6 : wr.cell? ⟨gb138, 6, none⟩ = some (.string a0_6) := ct BK138 6; have hcz29_7 : wr.cell? ⟨gb138, 7, none⟩ = some (.int .i64 a0_7) := ct BK138 7; have hcz29_8 : wr.cell? ⟨gb138, 8, none⟩ = some (.slice A0_8 l0_8.length c0_8) := ct BK138 8; have hcz29_9 : wr.cell? ⟨gb138, 9, none⟩ = some (.slice A0_9 l0_9.length c0_9) := ct BK138 9; have hcz29_10 : wr.cell? ⟨gb138, 10, none⟩ = some (.slice A0_10 l0_10.length c0_10) := ct BK138 10; have hfz29_0 := blk_frozen BK138.out 0; have hfz29_1 := blk_frozen BK138.out 1; have hfz29_2 := blk_frozen BK138.out 2; have hfz29_3 := blk_frozen BK138.out 3; have hfz29_4 := blk_frozen BK138.out 4; have hfz29_5 := blk_frozen BK138.out 5; have hfz29_6 := blk_frozen BK138.out 6; have hfz29_7 := blk_frozen BK138.out 7; have hfz29_8 := blk_frozen BK138.out 8; have hfz29_9 := blk_frozen BK138.out 9; have hfz29_10 := blk_frozen BK138.out 10
         go_wp2
         go_ret
         exact ⟨ez, bz⟩
     ·obtain rfl := bf c17; rw [if_neg (show ¬ (false = true) by decide)] at H; obtain rfl := Option.some.inj H; have hcz30_0 : wc.cell? ⟨gb138, 0, none⟩ = some (.int .i64 a0_0) := ct BK138 0; have hcz30_1 : wc.cell? ⟨gb138, 1, none⟩ = some (.int .i64 a0_1) := ct BK138 1; have hcz30_2 : wc.cell? ⟨gb138, 2, none⟩ = some (.string a0_2) := ct BK138 2; have hcz30_3 : wc.cell? ⟨gb138, 3, none⟩ = some (.int .i64 a0_3) := ct BK138 3; have hcz30_4 : wc.cell? ⟨gb138, 4, none⟩ = some (.slice A0_4 l0_4.length c0_4) := ct BK138 4; have hcz30_5 : wc.cell? ⟨gb138, 5, none⟩ = some (.string a0_5) := ct BK138 5; have hcz30_6 : wc.cell? ⟨gb138, 6, none⟩ = some (.string a0_6) := ct BK138 6; have hcz30_7 : wc.cell? ⟨gb138, 7, none⟩ = some (.int .i64 a0_7) := ct BK138 7; have hcz30_8 : wc.cell? ⟨gb138, 8, none⟩ = some (.slice A0_8 l0_8.length c0_8) := ct BK138 8; have hcz30_9 : wc.cell? ⟨gb138, 9, none⟩ = some (.slice A0_9 l0_9.length c0_9) := ct BK138 9; have hcz30_10 : wc.cell? ⟨gb138, 10, none⟩ = some (.slice A0_10 l0_10.length c0_10) := ct BK138 10; have hfz30_0 := blk_frozen BK138.out 0; have hfz30_1 := blk_frozen BK138.out 1; have hfz30_2 := blk_frozen BK138.out 2; have hfz30_3 := blk_frozen BK138.out 3; have hfz30_4 := blk_frozen BK138.out 4; have hfz30_5 := blk_frozen BK138.out 5; have hfz30_6 := blk_frozen BK138.out 6; have hfz30_7 := blk_frozen BK138.out 7; have hfz30_8 := blk_frozen BK138.out 8; have hfz30_9 := blk_frozen BK138.out 9; have hfz30_10 := blk_frozen BK138.out 10
      go_wp2_with (first | ((with_reducible refine gate_callee (f := 47) rfl ?_); refine zC 33 Try.func47 #[.slice A0_8 l0_8.length c0_8] ?_; (with_reducible refine (dioramaref03_edits.calls kj3 _ _ l0_8 false _ ?side1 ?side2 A16.out).mono ?_); (case side1 => exact cz HR0_8); (case side2 => exact HC0_8.out); rintro e w31 ⟨rfl, hb⟩; refine ⟨_, rfl, ?_⟩; replace BK138 := kb BK138 hb; replace HB := bp hb; clear hb))
      go_ret
      exact ⟨ez, bz⟩
 ·obtain rfl := bf c3; rw [if_neg (show ¬ (false = true) by decide)] at H; obtain rfl := Option.some.inj H
  go_enter Try.func21, Try.ntmps21
  go_wp2_with (first | ((with_reducible refine gate_dst (N := 1) rfl ?_); refine zB 1 40 #[.int .i64 a0_0, .int .i64 a0_1, .string a0_2, .int .i64 a0_3, .slice A0_4 l0_4.length c0_4, .string a0_5, .string a0_6, .int .i64 a0_7, .slice A0_8 l0_8.length c0_8, .slice A0_9 l0_9.length c0_9, .slice A0_10 l0_10.length c0_10] ?_; intro gb138 hg w32 hbox hb; have BK138 := Aside0.mk hbox; have GW138 := gz hg; have GE138 := gz hg; replace HB := bp hb; clear hb hbox hg; have hcz33_0 : w32.cell? ⟨gb138, 0, none⟩ = some (.int .i64 a0_0) := ct BK138 0; have hcz33_1 : w32.cell? ⟨gb138, 1, none⟩ = some (.int .i64 a0_1) := ct BK138 1; have hcz33_2 : w32.cell? ⟨gb138, 2, none⟩ = some (.string a0_2) := ct BK138 2; have hcz33_3 : w32.cell? ⟨gb138, 3, none⟩ = some (.int .i64 a0_3) := ct BK138 3; have hcz33_4 : w32.cell? ⟨gb138, 4, none⟩ = some (.slice A0_4 l0_4.length c0_4) := ct BK138 4; have hcz33_5 : w32.cell? ⟨gb138, 5, none⟩ = some (.string a0_5) := ct BK138 5; have hcz33_6 : w32.cell? ⟨gb138, 6, none⟩ = some (.string a0_6) := ct BK138 6; have hcz33_7 : w32.cell? ⟨gb138, 7, none⟩ = some (.int .i64 a0_7) := ct BK138 7; have hcz33_8 : w32.cell? ⟨gb138, 8, none⟩ = some (.slice A0_8 l0_8.length c0_8) := ct BK138 8; have hcz33_9 : w32.cell? ⟨gb138, 9, none⟩ = some (.slice A0_9 l0_9.length c0_9) := ct BK138 9; have hcz33_10 : w32.cell? ⟨gb138, 10, none⟩ = some (.slice A0_10 l0_10.length c0_10) := ct BK138 10; have hfz33_0 := blk_frozen BK138.out 0; have hfz33_1 := blk_frozen BK138.out 1; have hfz33_2 := blk_frozen BK138.out 2; have hfz33_3 := blk_frozen BK138.out 3; have hfz33_4 := blk_frozen BK138.out 4; have hfz33_5 := blk_frozen BK138.out 5; have hfz33_6 := blk_frozen BK138.out 6; have hfz33_7 := blk_frozen BK138.out 7; have hfz33_8 := blk_frozen BK138.out 8; have hfz33_9 := blk_frozen BK138.out 9; have hfz33_10 := blk_frozen BK138.out 10) | ((with_reducible refine gate_callee (f := 46) rfl ?_); refine zC 7 Try.func46 #[.agg #[.int .i64 a0_0, .int .i64 a0_1, .string a0_2, .int .i64 a0_3, .slice A0_4 l0_4.length c0_4, .string a0_5, .string a0_6, .int .i64 a0_7, .slice A0_8 l0_8.length c0_8, .slice A0_9 l0_9.length c0_9, .slice A0_10 l0_10.length c0_10]] ?_; (with_reducible refine (dioramaref03_fields.calls k a0_0 a0_1 a0_2 a0_3 _ _ l0_4 a0_5 a0_6 a0_7 _ _ l0_8 _ _ l0_9 _ _ l0_10 false _ ?side1 ?side2 ?side3 ?side4 ?side5 ?side6 ?side7 ?side8 A2.out).mono ?_); (case side1 => exact cz HR0_4); (case side2 => exact HC0_4.out); (case side3 => exact cz HR0_8); (case side4 => exact HC0_8.out); (case side5 => exact cz HR0_9); (case side6 => exact HC0_9.out); (case side7 => exact cz HR0_10); (case side8 => exact HC0_10.out); rintro e w34 ⟨rfl, hb⟩; refine ⟨_, rfl, ?_⟩; replace BK138 := kb BK138 hb; replace HB := bp hb; clear hb))
  go_ret
  exact ⟨ez, bz⟩
mutual
def dioramaref03_needs.l0 : Nat → Int → List Bool → Int → Int → Int → ByteArray → Int → List Int → ByteArray → ByteArray → Int → List (S86) → List (S68) → List (S51) → Option (List Int)
  | 0, _, _, _, _, _, _, _, _, _, _, _, _, _, _ => none
  | k + 1, x1, x5, x6, x145000, x145001, x145002, x145003, x145004, x145005, x145006, x145007, x145008, x145009, x145010 => if x6 ≥ 0 then (if 0 ≤ x6 then (if x6 < (x5.length : Int) then (if rdOf false x5 x6 = true then (dioramaref03_needs.l1 k x1 x5 x6 0 x145000 x145001 x145002 x145003 x145004 x145005 x145006 x145007 x145008 x145009 x145010) else (dioramaref03_needs.l0 k x1 x5 (wrap64 (x6 - 1)) x145000 x145001 x145002 x145003 x145004 x145005 x145006 x145007 x145008 x145009 x145010)) else (none)) else (none)) else (dioramaref03_needs.l2 k x1 x5 ([] : List Int) 0)
def dioramaref03_needs.l1 : Nat → Int → List Bool → Int → Int → Int → Int → ByteArray → Int → List Int → ByteArray → ByteArray → Int → List (S86) → List (S68) → List (S51) → Option (List Int)
  | 0, _, _, _, _, _, _, _, _, _, _, _, _, _, _, _ => none
  | k + 1, x1, x5, x6, x7, x145000, x145001, x145002, x145003, x145004, x145005, x145006, x145007, x145008, x145009, x145010 => if 0 ≤ x6 then (if x6 < (x145010.length : Int) then (if x7 < (((rd_T51 x145010 x6).f4).length : Int) then (if 0 ≤ x7 then (if 0 ≤ (rd ((rd_T51 x145010 x6).f4) x7) then (if (rd ((rd_T51 x145010 x6).f4) x7) < (x5.length : Int) then (dioramaref03_needs.l1 k x1 (x5.set ((rd ((rd_T51 x145010 x6).f4) x7) : Int).toNat true) x6 (wrap64 (x7 + 1)) x145000 x145001 x145002 x145003 x145004 x145005 x145006 x145007 x145008 x145009 x145010) else (none)) else (none)) else (none)) else (dioramaref03_needs.l0 k x1 x5 (wrap64 (x6 - 1)) x145000 x145001 x145002 x145003 x145004 x145005 x145006 x145007 x145008 x145009 x145010)) else (none)) else (none)
def dioramaref03_needs.l2 : Nat → Int → List Bool → List Int → Int → Option (List Int)
  | 0, _, _, _, _ => none
  | k + 1, x1, x5, x8, x9 => if x9 ≤ x1 then (if 0 ≤ x9 then (if x9 < (x5.length : Int) then (if rdOf false x5 x9 = true then (if x8.length < 17592186044416 then (dioramaref03_needs.l2 k x1 x5 (x8 ++ [x9]) (wrap64 (x9 + 1))) else (none)) else (dioramaref03_needs.l2 k x1 x5 x8 (wrap64 (x9 + 1)))) else (none)) else (none)) else (some x8)
end
def dioramaref03_needs.f (k : Nat) (a0_0 : Int) (a0_1 : Int) (a0_2 : ByteArray) (a0_3 : Int) (l0_4 : List Int) (a0_5 : ByteArray) (a0_6 : ByteArray) (a0_7 : Int) (l0_8 : List (S86)) (l0_9 : List (S68)) (l0_10 : List (S51)) (a1 : Int) : Option (List Int) := if 0 ≤ (wrap64 (a1 + 1)) then (if (wrap64 (a1 + 1) : Int).toNat ≤ 281474976710656 then ((some (List.replicate (wrap64 (a1 + 1) : Int).toNat false : List Bool)).bind fun y145 => (if 0 ≤ a1 then (if a1 < (y145.length : Int) then (dioramaref03_needs.l0 k a1 (y145.set (a1 : Int).toNat true) a1 a0_0 a0_1 a0_2 a0_3 l0_4 a0_5 a0_6 a0_7 l0_8 l0_9 l0_10) else (none)) else (none))) else (none)) else (none)
set_option maxHeartbeats 8000000 in
set_option maxRecDepth 100000 in
theorem dioramaref03_needs.calls (k : Nat) (a0_0 : Int) (a0_1 : Int) (a0_2 : ByteArray) (a0_3 : Int) (A0_4 : Option Addr) (c0_4 : Nat) (l0_4 : List Int) (a0_5 : ByteArray) (a0_6 : ByteArray) (a0_7 : Int) (A0_8 : Option Addr) (c0_8 : Nat) (l0_8 : List (S86)) (A0_9 : Option Addr) (c0_9 : Nat) (l0_9 : List (S68)) (A0_10 : Option Addr) (c0_10 : Nat) (l0_10 : List (S51)) (a1 : Int) (r : List Int) (w : World) (hr0_4 : Kd.C (Kd.int .u8) w A0_4 l0_4.length l0_4) (hc0_4 : l0_4.length ≤ c0_4) (hr0_8 : Kd.C k86 w A0_8 l0_8.length l0_8) (hc0_8 : l0_8.length ≤ c0_8) (hr0_9 : Kd.C k68 w A0_9 l0_9.length l0_9) (hc0_9 : l0_9.length ≤ c0_9) (hr0_10 : Kd.C k51 w A0_10 l0_10.length l0_10) (hc0_10 : l0_10.length ≤ c0_10) (h : dioramaref03_needs.f k a0_0 a0_1 a0_2 a0_3 l0_4 a0_5 a0_6 a0_7 l0_8 l0_9 l0_10 a1 = some r) :
  Calls Try.prog 45 #[.agg #[.int .i64 a0_0, .int .i64 a0_1, .string a0_2, .int .i64 a0_3, .slice A0_4 l0_4.length c0_4, .string a0_5, .string a0_6, .int .i64 a0_7, .slice A0_8 l0_8.length c0_8, .slice A0_9 l0_9.length c0_9, .slice A0_10 l0_10.length c0_10], .int .i64 a1] w fun e w' => ∃ v0_ : Value, e = .returned (v0_) ∧ Kd.R (Kd.int .i64) 3 w' w.heap.size (fun _ => True) v0_ r ∧ Below w.heap.size w w' := by
 have hu40 := Try.underlying40; have HR0_4 := Aside0.mk hr0_4; have HC0_4 := Aside0.mk hc0_4; clear hr0_4 hc0_4; have HR0_8 := Aside0.mk hr0_8; have HC0_8 := Aside0.mk hc0_8; clear hr0_8 hc0_8; have HR0_9 := Aside0.mk hr0_9; have HC0_9 := Aside0.mk hc0_9; clear hr0_9 hc0_9; have HR0_10 := Aside0.mk hr0_10; have HC0_10 := Aside0.mk hc0_10; clear hr0_10 hc0_10; have HB := Aside0.mk (Below.refl w.heap.size w); have H : (if 0 ≤ (wrap64 (a1 + 1)) then (if (wrap64 (a1 + 1) : Int).toNat ≤ 281474976710656 then ((some (List.replicate (wrap64 (a1 + 1) : Int).toNat false : List Bool)).bind fun y145 => (if 0 ≤ a1 then (if a1 < (y145.length : Int) then (dioramaref03_needs.l0 k a1 (y145.set (a1 : Int).toNat true) a1 a0_0 a0_1 a0_2 a0_3 l0_4 a0_5 a0_6 a0_7 l0_8 l0_9 l0_10) else (none)) else (none))) else (none)) else (none)) = some r := h
 clear h; obtain ⟨ji3, hji3⟩ : ∃ j_ : Int, (wrap64 (a1 + 1)) = j_ := ⟨_, rfl⟩; replace H : (if 0 ≤ (ji3) then (if (ji3 : Int).toNat ≤ 281474976710656 then ((some (List.replicate (ji3 : Int).toNat false : List Bool)).bind fun y145 => (if 0 ≤ a1 then (if a1 < (y145.length : Int) then (dioramaref03_needs.l0 k a1 (y145.set (a1 : Int).toNat true) a1 a0_0 a0_1 a0_2 a0_3 l0_4 a0_5 a0_6 a0_7 l0_8 l0_9 l0_10) else (none)) else (none))) else (none)) else (none)) = some r := by first | (rw [hji3] at H; exact H) | (simp only [hji3] at H ⊢; exact H)
 have hji3w : (IntKind.i64.wrap (a1 + 1)) = ji3 := (i64_w _).trans hji3
 by_cases c4 : 0 ≤ (ji3)
 ·rw [if_pos c4] at H; have c4b0 := eq_true c4; have c4b1 : decide (0 ≤ (ji3)) = true := decide_eq_true c4; clear c4
  by_cases c5 : (ji3 : Int).toNat ≤ 281474976710656
  ·rw [if_pos c5] at H; have c5b0 := eq_true c5; have c5b1 : decide ((ji3 : Int).toNat ≤ 281474976710656) = true := decide_eq_true c5; clear c5; obtain ⟨y145, hy145⟩ : ∃ y_ : List Bool, y_ = (List.replicate (ji3 : Int).toNat false) := ⟨_, rfl⟩; replace H : (if 0 ≤ a1 then (if a1 < (y145.length : Int) then (dioramaref03_needs.l0 k a1 (y145.set (a1 : Int).toNat true) a1 a0_0 a0_1 a0_2 a0_3 l0_4 a0_5 a0_6 a0_7 l0_8 l0_9 l0_10) else (none)) else (none)) = some r := by first | (rw [hy145]; with_reducible exact H) | (have H2_ := (Option.bind_some _ _).symm.trans H; rw [hy145]; with_reducible exact H2_) | (have H2_ := (Option.bind_some _ _).symm.trans H; with_reducible exact H2_) | with_reducible exact H | (rw [hy145]; exact H) | exact H
   have Ny145 := Aside0.mk hy145; clear hy145
   by_cases c6 : 0 ≤ a1
   ·rw [if_pos c6] at H; have c6b0 : decide (0 ≤ a1) = true := decide_eq_true c6; clear c6
    by_cases c7 : a1 < (y145.length : Int)
    ·rw [if_pos c7] at H; have c7b0 : decide (a1 < (y145.length : Int)) = true := decide_eq_true c7; clear c7; obtain ⟨y148, hy148⟩ : ∃ y_ : List Bool, y_ = (y145.set (a1 : Int).toNat true) := ⟨_, rfl⟩; replace H : (dioramaref03_needs.l0 k a1 y148 a1 a0_0 a0_1 a0_2 a0_3 l0_4 a0_5 a0_6 a0_7 l0_8 l0_9 l0_10) = some r := by first | (rw [hy148]; with_reducible exact H) | (have H2_ := (Option.bind_some _ _).symm.trans H; rw [hy148]; with_reducible exact H2_) | (have H2_ := (Option.bind_some _ _).symm.trans H; with_reducible exact H2_) | with_reducible exact H | (rw [hy148]; exact H) | exact H
     have Ny148 := Aside0.mk hy148; clear hy148; have H' := Aside0.mk H; clear H
     go_enter Try.func45, Try.ntmps45
     go_wp2_with (first | ((with_reducible refine gate_dst (N := 2) rfl ?_); refine zB 2 40 #[.int .i64 a0_0, .int .i64 a0_1, .string a0_2, .int .i64 a0_3, .slice A0_4 l0_4.length c0_4, .string a0_5, .string a0_6, .int .i64 a0_7, .slice A0_8 l0_8.length c0_8, .slice A0_9 l0_9.length c0_9, .slice A0_10 l0_10.length c0_10] ?_; intro gb144 hg w9 hbox hb; have BK144 := Aside0.mk hbox; have GW144 := gz hg; have GE144 := gz hg; replace HB := bp hb; clear hb hbox hg) | ((with_reducible refine gate_dst (N := 12) rfl ?_); refine Kd.R_make Kd.bool _ 4 rfl (N := 12) rfl 109 _ _ rfl ji3 rfl rfl Try.underlying109 (.bool false) 1 info4 rfl (by decide) (by omega) false (ok := fun _ => True) (okp := fun _ => True) rfl (fun _ hk => hk) trivial (od) (Nat.le_trans (Nat.mul_le_mul_right _ (od : ji3.toNat ≤ 281474976710656)) (by omega)) (Below.refl _ _) (Nat.le_refl _) ?_; intro v146 w10 ho11 hb hg_ hnew_; clear hg_ hnew_; (first | rw [← Ny145.out] at ho11 | (simp only [Int.reduceToNat] at ho11; rw [← Ny145.out] at ho11)); have HO147 := Aside0.mk (Kd.R_lower ho11 sz); replace BK144 := kb BK144 hb; replace HB := bp hb; clear hb ho11; have p8 : 0 ≤ (a1 : Int) := od; have q8 : (a1 : Int) < ((y145.length : Int) : Int) := od; obtain ⟨go8, co8, eo8, gb8, gl8, cl8, HG8⟩ := Kd.R_form HO147.out (by omega); (first | cases eo8 | (injection eo8 with ea_ en_ ec_; (first | subst ea_ | (injection ea_ with ea_; subst ea_)); subst ec_; clear en_)); have GB8 := Aside0.mk gb8; have GG8 := Aside0.mk HG8; clear gb8 gl8 HG8; obtain ⟨hx8_0, hf8_0⟩ := Kd.R_celln false HO147.out (a1 : Int) p8 q8; replace p8 := eq_true p8; replace q8 := eq_true q8; obtain ⟨hy12_, hz12_⟩ := Kd.R_celln false HO147.out (a1 : Int) (od) (od); have HP12 := Kd.R_putg HO147.out (a1 : Int) true) | ((with_reducible refine gate_store (t := 4) (p := 15) rfl ?_); refine store_event (t := 4) (p := 15) (v := ?vo_w13) (w1 := (w10.setCell ⟨go8, (a1 : Int).toNat, none⟩ (.bool true))) ?hg ?ho ?hn ?hr ?_; (case ho => rfl); (case hg => rfl); (case hn => rfl); (case hr => first | (go_simp; done) | (go_simp; rfl)); intro w13 hw; have hg : w10.grownBy w13 (some go8) := (by rw [hw]; exact HP12.2); have hp_ : Kd.R Kd.bool 4 w13 w.heap.size (fun _ => True) (.slice (some ⟨go8, 0, none⟩) y145.length co8) y148 := (by rw [hw, Ny148.out]; exact HP12.1); clear HP12; replace BK144 := Aside0.mk (blk_grown (g := gb144) (o := .cells #[.int .i64 a0_0, .int .i64 a0_1, .string a0_2, .int .i64 a0_3, .slice A0_4 l0_4.length c0_4, .string a0_5, .string a0_6, .int .i64 a0_7, .slice A0_8 l0_8.length c0_8, .slice A0_9 l0_9.length c0_9, .slice A0_10 l0_10.length c0_10] 40 (0, 0)) kz hg (Kd.R_ne HO147.out BK144.out (by decide))); replace HO147 := Aside0.mk (hp_); replace HB := Aside0.mk ((by rw [hw]; exact below_set (HB.out) GB8.out : Below w.heap.size w w13)); clear hg hw hp_))
     go_loopg [6] k (fun kq v6 w' => ∃ (x5_1 : List Bool) (x6_1 : Int), v6 = .int .i64 x6_1 ∧ Aside0 (dioramaref03_needs.l0 kq a1 x5_1 x6_1 a0_0 a0_1 a0_2 a0_3 l0_4 a0_5 a0_6 a0_7 l0_8 l0_9 l0_10 = some r) ∧ Aside0 (kq ≤ k) ∧ Aside0 (Kd.R Kd.bool 4 w' w.heap.size (fun _ => True) (.slice (some ⟨go8, 0, none⟩) y145.length co8) x5_1) ∧ Aside0 (w'.heap[gb144]? = some (.cells #[.int .i64 a0_0, .int .i64 a0_1, .string a0_2, .int .i64 a0_3, (.slice A0_4 l0_4.length c0_4), .string a0_5, .string a0_6, .int .i64 a0_7, (.slice A0_8 l0_8.length c0_8), (.slice A0_9 l0_9.length c0_9), (.slice A0_10 l0_10.length c0_10)] 40 (0, 0))) ∧ Aside0 (Below w.heap.size w w'))
     case atStart => exact ⟨(y148), (a1), jz, H', ⟨Nat.le_refl _⟩, ⟨rz HO147⟩, ⟨kz⟩, ⟨bz⟩⟩
     case round =>
      clear H'
      try clear p2
      try clear c4
      try clear c4b0
      try clear c4b1
      try clear c5
      try clear c5b0
      try clear c5b1
      try clear c6
      try clear c6b0
      try clear p6
      try clear c7
      try clear c7b0
      try clear p8
      try clear q8
      try clear hx8
      try clear hf8
      try clear hx8_0
      try clear p8
      try clear q8
      obtain ⟨x5_1, x6_1, rfl, HA, HK1, HO_5, BK144, HB⟩ := hrel; have hl5_1 := (Kd.R_reads' HO_5.out).1; rw [hl5_1] at HO_5
      (try simp only [hl5_1])
      (try simp only [hl5_1] at BK144)
      cases gk with
      | zero => exact absurd HA.out (by simp [dioramaref03_needs.l0])
      | succ k1 =>
       have H := HA.out; clear HA; simp only [dioramaref03_needs.l0] at H
       (try simp only [hl5_1] at H)
       by_cases c14 : x6_1 ≥ 0
       ·rw [if_pos c14] at H; have c14b0 : decide (0 ≤ x6_1) = true := decide_eq_true c14; clear c14
        by_cases c15 : 0 ≤ x6_1
        ·rw [if_pos c15] at H; have c15b0 : decide (0 ≤ x6_1) = true := decide_eq_true c15; clear c15
         by_cases c16 : x6_1 < (x5_1.length : Int)
         ·rw [if_pos c16] at H; have c16b0 : decide (x6_1 < (x5_1.length : Int)) = true := decide_eq_true c16; clear c16; obtain ⟨bq17, hbq17⟩ : ∃ b_ : Bool, b_ = (rdOf false x5_1 x6_1) := ⟨_, rfl⟩; replace H : (if bq17 = true then (dioramaref03_needs.l1 k1 a1 x5_1 x6_1 0 a0_0 a0_1 a0_2 a0_3 l0_4 a0_5 a0_6 a0_7 l0_8 l0_9 l0_10) else (dioramaref03_needs.l0 k1 a1 x5_1 (wrap64 (x6_1 - 1)) a0_0 a0_1 a0_2 a0_3 l0_4 a0_5 a0_6 a0_7 l0_8 l0_9 l0_10)) = some r := by rw [← hbq17] at H; exact H
          have Nbq17 := Aside0.mk hbq17; clear hbq17
          by_cases c18 : bq17 = true
          ·subst c18; rw [if_pos rfl] at H; have H' := Aside0.mk H; clear H; have p149 : 0 ≤ (x6_1 : Int) := od; have q149 : x6_1 < (x5_1.length : Int) := od; obtain ⟨ad149, e149, hx149_0⟩ := Kd.at_bool (Kd.R_reads' HO_5.out).2.2 x6_1 p149 q149
           (try rw [← Nbq17.out] at hx149_0)
           obtain rfl : (⟨go8, 0, none⟩ : Addr) = ad149 := (by injection e149)
           (first | simp only [add_plain] at hx149_0 | simp only [add_at] at hx149_0 | simp only [Addr.add, Nat.zero_add] at hx149_0 | skip)
           replace p149 := eq_true p149; replace q149 := eq_true q149
           go_wp2
           go_loopg [7] k1 (fun kq v7 w' => ∃ (x5_2 : List Bool) (x7_2 : Int), v7 = .int .i64 x7_2 ∧ Aside0 (dioramaref03_needs.l1 kq a1 x5_2 x6_1 x7_2 a0_0 a0_1 a0_2 a0_3 l0_4 a0_5 a0_6 a0_7 l0_8 l0_9 l0_10 = some r) ∧ Aside0 (kq ≤ k1) ∧ Aside0 (Kd.R Kd.bool 4 w' w.heap.size (fun _ => True) (.slice (some ⟨go8, 0, none⟩) x5_1.length co8) x5_2) ∧ Aside0 (w'.heap[gb144]? = some (.cells #[.int .i64 a0_0, .int .i64 a0_1, .string a0_2, .int .i64 a0_3, (.slice A0_4 l0_4.length c0_4), .string a0_5, .string a0_6, .int .i64 a0_7, (.slice A0_8 l0_8.length c0_8), (.slice A0_9 l0_9.length c0_9), (.slice A0_10 l0_10.length c0_10)] 40 (0, 0))) ∧ Aside0 (Below w.heap.size w w'))
           case atStart => exact ⟨(x5_1), (0), jz, H', ⟨Nat.le_refl _⟩, ⟨by (try simp only [hl5_1]); (with_reducible repeat (first | apply Kd.R_alloc | apply Kd.R_drewN | apply Kd.R_drew)); exact HO_5.out⟩, ⟨by (try simp only [hl5_1]); (with_reducible repeat (first | refine blk_drewN ?_ _ | refine blk_drew ?_ | refine blk_alloc ?_ _)); exact BK144.out⟩, ⟨bz⟩⟩
           case round =>
            clear H'
            try clear c1
            try clear p1
            try clear q1
            try clear hx1
            try clear p2
            try clear c4
            try clear c4b0
            try clear c4b1
            try clear c5
            try clear c5b0
            try clear c5b1
            try clear c6
            try clear c6b0
            try clear p6
            try clear c7
            try clear c7b0
            try clear p8
            try clear q8
            try clear hx8
            try clear hf8
            try clear c14
            try clear c14b0
            try clear p14
            try clear q14
            try clear hx14
            try clear c15
            try clear c15b0
            try clear c16
            try clear c16b0
            try clear q17
            try clear c18
            try clear hx149_0
            try clear hx8_0
            try clear p149
            try clear p2
            try clear p6
            try clear p8
            try clear q149
            try clear q8
            obtain ⟨x5_2, x7_2, rfl, HA, HK2, HO_5, BK144, HB⟩ := hrel; have hl5_2 := (Kd.R_reads' HO_5.out).1; rw [hl5_2] at HO_5
            (try simp only [hl5_2])
            (try simp only [hl5_2] at BK144)
            cases gk with
            | zero => exact absurd HA.out (by simp [dioramaref03_needs.l1])
            | succ k2 =>
             have H := HA.out; clear HA; simp only [dioramaref03_needs.l1] at H
             (try simp only [hl5_2] at H)
             by_cases c19 : 0 ≤ x6_1
             ·rw [if_pos c19] at H; have c19b0 : decide (0 ≤ x6_1) = true := decide_eq_true c19; clear c19
              by_cases c20 : x6_1 < (l0_10.length : Int)
              ·rw [if_pos c20] at H; have c20b0 : decide (x6_1 < (l0_10.length : Int)) = true := decide_eq_true c20; clear c20
               by_cases c21 : x7_2 < (((rd_T51 l0_10 x6_1).f4).length : Int)
               ·rw [if_pos c21] at H; have c21b0 : decide (x7_2 < (((rd_T51 l0_10 x6_1).f4).length : Int)) = true := decide_eq_true c21; clear c21
                by_cases c22 : 0 ≤ x7_2
                ·rw [if_pos c22] at H; have c22b0 : decide (0 ≤ x7_2) = true := decide_eq_true c22; clear c22
                 by_cases c23 : 0 ≤ (rd ((rd_T51 l0_10 x6_1).f4) x7_2)
                 ·rw [if_pos c23] at H; have c23b0 : decide (0 ≤ (rd ((rd_T51 l0_10 x6_1).f4) x7_2)) = true := decide_eq_true c23; clear c23
                  by_cases c24 : (rd ((rd_T51 l0_10 x6_1).f4) x7_2) < (x5_2.length : Int)
                  ·rw [if_pos c24] at H; have c24b0 : decide ((rd ((rd_T51 l0_10 x6_1).f4) x7_2) < (x5_2.length : Int)) = true := decide_eq_true c24; clear c24; obtain ⟨y153, hy153⟩ : ∃ y_ : List Bool, y_ = (x5_2.set ((rd ((rd_T51 l0_10 x6_1).f4) x7_2) : Int).toNat true) := ⟨_, rfl⟩; replace H : (dioramaref03_needs.l1 k2 a1 y153 x6_1 (wrap64 (x7_2 + 1)) a0_0 a0_1 a0_2 a0_3 l0_4 a0_5 a0_6 a0_7 l0_8 l0_9 l0_10) = some r := by first | (rw [hy153]; with_reducible exact H) | (have H2_ := (Option.bind_some _ _).symm.trans H; rw [hy153]; with_reducible exact H2_) | (have H2_ := (Option.bind_some _ _).symm.trans H; with_reducible exact H2_) | with_reducible exact H | (rw [hy153]; exact H) | exact H
                   have Ny153 := Aside0.mk hy153; clear hy153; have H' := Aside0.mk H; clear H; have hcz26_0 : wr.cell? ⟨gb144, 0, none⟩ = some (.int .i64 a0_0) := ct BK144 0; have hcz26_1 : wr.cell? ⟨gb144, 1, none⟩ = some (.int .i64 a0_1) := ct BK144 1; have hcz26_2 : wr.cell? ⟨gb144, 2, none⟩ = some (.string a0_2) := ct BK144 2; have hcz26_3 : wr.cell? ⟨gb144, 3, none⟩ = some (.int .i64 a0_3) := ct BK144 3; have hcz26_4 : wr.cell? ⟨gb144, 4, none⟩ = some (.slice A0_4 l0_4.length c0_4) := ct BK144 4; have hcz26_5 : wr.cell? ⟨gb144, 5, none⟩ = some (.string a0_5) := ct BK144 5; have hcz26_6 : wr.cell? ⟨gb144, 6, none⟩ = some (.string a0_6) := ct BK144 6; have hcz26_7 : wr.cell? ⟨gb144, 7, none⟩ = some (.int .i64 a0_7) := ct BK144 7; have hcz26_8 : wr.cell? ⟨gb144, 8, none⟩ = some (.slice A0_8 l0_8.length c0_8) := ct BK144 8; have hcz26_9 : wr.cell? ⟨gb144, 9, none⟩ = some (.slice A0_9 l0_9.length c0_9) := ct BK144 9; have hcz26_10 : wr.cell? ⟨gb144, 10, none⟩ = some (.slice A0_10 l0_10.length c0_10) := ct BK144 10; have hfz26_0 := blk_frozen BK144.out 0; have hfz26_1 := blk_frozen BK144.out 1; have hfz26_2 := blk_frozen BK144.out 2; have hfz26_3 := blk_frozen BK144.out 3; have hfz26_4 := blk_frozen BK144.out 4; have hfz26_5 := blk_frozen BK144.out 5; have hfz26_6 := blk_frozen BK144.out 6; have hfz26_7 := blk_frozen BK144.out 7; have hfz26_8 := blk_frozen BK144.out 8; have hfz26_9 := blk_frozen BK144.out 9; have hfz26_10 := blk_frozen BK144.out 10; have p150 : 0 ≤ (x6_1 : Int) := od; have q150 : x6_1 < (l0_10.length : Int) := od; obtain ⟨ad150, A150_4, c150_4, A150_5, c150_5, e150, hx150_0, hx150_1, hx150_2, hx150_3, hx150_4, hx150_5, hl150_4, hi150_4, hl150_5, hi150_5⟩ := at_T51 HR0_10.out x6_1 p150 q150
                   (try rw [← Nbq17.out] at hx150_3)
                   cases e150
                   replace hx150_0 := cl HB hx150_0; replace hx150_1 := cl HB hx150_1; replace hx150_2 := cl HB hx150_2; replace hx150_3 := cl HB hx150_3; replace hx150_4 := cl HB hx150_4; replace hx150_5 := cl HB hx150_5; have HR150_4 := Aside0.mk hi150_4; have HC150_4 := Aside0.mk hl150_4; clear hi150_4 hl150_4; have HR150_5 := Aside0.mk hi150_5; have HC150_5 := Aside0.mk hl150_5; clear hi150_5 hl150_5; replace p150 := eq_true p150; replace q150 := eq_true q150; have p151 : 0 ≤ (x6_1 : Int) := od; have q151 : x6_1 < (l0_10.length : Int) := od; obtain ⟨ad151, A151_4, c151_4, A151_5, c151_5, e151, hx151_0, hx151_1, hx151_2, hx151_3, hx151_4, hx151_5, hl151_4, hi151_4, hl151_5, hi151_5⟩ := at_T51 HR0_10.out x6_1 p151 q151
                   (try rw [← Nbq17.out] at hx151_3)
                   obtain rfl : ad150 = ad151 := (by injection e151); replace hx151_0 := cl HB hx151_0; replace hx151_1 := cl HB hx151_1; replace hx151_2 := cl HB hx151_2; replace hx151_3 := cl HB hx151_3; replace hx151_4 := cl HB hx151_4; replace hx151_5 := cl HB hx151_5; have HR151_4 := Aside0.mk hi151_4; have HC151_4 := Aside0.mk hl151_4; clear hi151_4 hl151_4; have HR151_5 := Aside0.mk hi151_5; have HC151_5 := Aside0.mk hl151_5; clear hi151_5 hl151_5; replace p151 := eq_true p151; replace q151 := eq_true q151; have ea_ := Option.some.inj (hx150_4.symm.trans hx151_4)
                   injection ea_ with ea_ en_ ec_
                   subst ea_; subst ec_; clear en_; have ea_ := Option.some.inj (hx150_5.symm.trans hx151_5)
                   injection ea_ with ea_ en_ ec_
                   subst ea_; subst ec_; clear en_; have p152 : 0 ≤ (x7_2 : Int) := od; have q152 : x7_2 < (((rd_T51 l0_10 x6_1).f4).length : Int) := od; obtain ⟨ad152, e152, hx152_0⟩ := Kd.at_int HR151_4.out x7_2 p152 q152
                   cases e152
                   replace hx152_0 := cl HB hx152_0; replace p152 := eq_true p152; replace q152 := eq_true q152; have p25 : 0 ≤ ((rd ((rd_T51 l0_10 x6_1).f4) x7_2) : Int) := od; have q25 : ((rd ((rd_T51 l0_10 x6_1).f4) x7_2) : Int) < ((x5_2.length : Int) : Int) := od; obtain ⟨hx25_0, hf25_0⟩ := Kd.R_celln false HO_5.out ((rd ((rd_T51 l0_10 x6_1).f4) x7_2) : Int) p25 q25; replace p25 := eq_true p25; replace q25 := eq_true q25; have HP27 := Kd.R_putg HO_5.out ((rd ((rd_T51 l0_10 x6_1).f4) x7_2) : Int) true
                   go_wp2_with (first | ((with_reducible refine gate_store (t := 4) (p := 46) rfl ?_); refine store_event (t := 4) (p := 46) (v := ?vo_w28) (w1 := (wr.setCell ⟨go8, ((rd ((rd_T51 l0_10 x6_1).f4) x7_2) : Int).toNat, none⟩ (.bool true))) ?hg ?ho ?hn ?hr ?_; (case ho => rfl); (case hg => rfl); (case hn => rfl); (case hr => first | (go_simp; done) | (go_simp; rfl)); intro w28 hw; have hg : wr.grownBy w28 (some go8) := (by rw [hw]; exact HP27.2); have hp_ : Kd.R Kd.bool 4 w28 w.heap.size (fun _ => True) (.slice (some ⟨go8, 0, none⟩) x5_2.length co8) y153 := (by rw [hw, Ny153.out]; exact HP27.1); clear HP27; replace BK144 := Aside0.mk (blk_grown (g := gb144) (o := .cells #[.int .i64 a0_0, .int .i64 a0_1, .string a0_2, .int .i64 a0_3, .slice A0_4 l0_4.length c0_4, .string a0_5, .string a0_6, .int .i64 a0_7, .slice A0_8 l0_8.length c0_8, .slice A0_9 l0_9.length c0_9, .slice (some ad150) l0_10.length c0_10] 40 (0, 0)) kz hg (Kd.R_ne HO_5.out BK144.out (by decide))); replace HO_5 := Aside0.mk (hp_); replace HB := Aside0.mk ((by rw [hw]; exact below_set (HB.out) GB8.out : Below w.heap.size w w28)); clear hg hw hp_))
                   (try simp only [← hl5_2])
                   go_roundg k2
                   case measure => have := HK1.out; have := HK2.out; omega
                   case rel => exact ⟨(y153), (wrap64 (x7_2 + 1)), jz, H', ⟨by have := HK1.out; have := HK2.out; omega⟩, ⟨by (try simp only [hl5_1]); (try simp only [hl5_2]); (with_reducible repeat (first | apply Kd.R_alloc | apply Kd.R_drewN | apply Kd.R_drew)); exact HO_5.out⟩, ⟨by (try simp only [hl5_1]); (try simp only [hl5_2]); (with_reducible repeat (first | refine blk_drewN ?_ _ | refine blk_drew ?_ | refine blk_alloc ?_ _)); exact BK144.out⟩, ⟨bz⟩⟩
                  ·rw [if_neg c24] at H
                   exact absurd H (by simp)
                 ·rw [if_neg c23] at H
                  exact absurd H (by simp)
                ·rw [if_neg c22] at H
                 exact absurd H (by simp)
               ·rw [if_neg c21] at H; have c21b0 : decide (x7_2 < (((rd_T51 l0_10 x6_1).f4).length : Int)) = false := decide_eq_false c21; clear c21; have H' := Aside0.mk H; clear H; have hcz29_0 : wr.cell? ⟨gb144, 0, none⟩ = some (.int .i64 a0_0) := ct BK144 0; have hcz29_1 : wr.cell? ⟨gb144, 1, none⟩ = some (.int .i64 a0_1) := ct BK144 1; have hcz29_2 : wr.cell? ⟨gb144, 2, none⟩ = some (.string a0_2) := ct BK144 2; have hcz29_3 : wr.cell? ⟨gb144, 3, none⟩ = some (.int .i64 a0_3) := ct BK144 3; have hcz29_4 : wr.cell? ⟨gb144, 4, none⟩ = some (.slice A0_4 l0_4.length c0_4) := ct BK144 4; have hcz29_5 : wr.cell? ⟨gb144, 5, none⟩ = some (.string a0_5) := ct BK144 5; have hcz29_6 : wr.cell? ⟨gb144, 6, none⟩ = some (.string a0_6) := ct BK144 6; have hcz29_7 : wr.cell? ⟨gb144, 7, none⟩ = some (.int .i64 a0_7) := ct BK144 7; have hcz29_8 : wr.cell? ⟨gb144, 8, none⟩ = some (.slice A0_8 l0_8.length c0_8) := ct BK144 8; have hcz29_9 : wr.cell? ⟨gb144, 9, none⟩ = some (.slice A0_9 l0_9.length c0_9) := ct BK144 9; have hcz29_10 : wr.cell? ⟨gb144, 10, none⟩ = some (.slice A0_10 l0_10.length c0_10) := ct BK144 10; have hfz29_0 := blk_frozen BK144.out 0; have hfz29_1 := blk_frozen BK144.out 1; have hfz29_2 := blk_frozen BK144.out 2; have hfz29_3 := blk_frozen BK144.out 3; have hfz29_4 := blk_frozen BK144.out 4; have hfz29_5 := blk_frozen BK144.out 5; have hfz29_6 := blk_frozen BK144.out 6; have hfz29_7 := blk_frozen BK144.out 7; have hfz29_8 := blk_frozen BK144.out 8; have hfz29_9 := blk_frozen BK144.out 9; have hfz29_10 := blk_frozen BK144.out 10; have p150 : 0 ≤ (x6_1 : Int) := od; have q150 : x6_1 < (l0_10.length : Int) := od; obtain ⟨ad150, A150_4, c150_4, A150_5, c150_5, e150, hx150_0, hx150_1, hx150_2, hx150_3, hx150_4, hx150_5, hl150_4, hi150_4, hl150_5, hi150_5⟩ := at_T51 HR0_10.out x6_1 p150 q150
                (try rw [← Nbq17.out] at hx150_3)
                cases e150
                replace hx150_0 := cl HB hx150_0; replace hx150_1 := cl HB hx150_1; replace hx150_2 := cl HB hx150_2; replace hx150_3 := cl HB hx150_3; replace hx150_4 := cl HB hx150_4; replace hx150_5 := cl HB hx150_5; have HR150_4 := Aside0.mk hi150_4; have HC150_4 := Aside0.mk hl150_4; clear hi150_4 hl150_4; have HR150_5 := Aside0.mk hi150_5; have HC150_5 := Aside0.mk hl150_5; clear hi150_5 hl150_5; replace p150 := eq_true p150; replace q150 := eq_true q150
                go_wp2
                (try simp only [← hl5_1, ← hl5_2])
                go_roundg k2
                case measure => have := HK1.out; have := HK2.out; omega
                case rel => exact ⟨(x5_2), (wrap64 (x6_1 - 1)), jz, H', ⟨by have := HK1.out; have := HK2.out; omega⟩, ⟨by (try simp only [hl5_1]); (try simp only [hl5_2]); (with_reducible repeat (first | apply Kd.R_alloc | apply Kd.R_drewN | apply Kd.R_drew)); exact HO_5.out⟩, ⟨by (try simp only [hl5_1]); (try simp only [hl5_2]); (with_reducible repeat (first | refine blk_drewN ?_ _ | refine blk_drew ?_ | refine blk_alloc ?_ _)); exact BK144.out⟩, ⟨bz⟩⟩
              ·rw [if_neg c20] at H
               exact absurd H (by simp)
             ·rw [if_neg c19] at H
              exact absurd H (by simp)
          ·obtain rfl := bf c18; rw [if_neg (show ¬ (false = true) by decide)] at H; have H' := Aside0.mk H; clear H; have p149 : 0 ≤ (x6_1 : Int) := od; have q149 : x6_1 < (x5_1.length : Int) := od; obtain ⟨ad149, e149, hx149_0⟩ := Kd.at_bool (Kd.R_reads' HO_5.out).2.2 x6_1 p149 q149
           (try rw [← Nbq17.out] at hx149_0)
           obtain rfl : (⟨go8, 0, none⟩ : Addr) = ad149 := (by injection e149)
           (first | simp only [add_plain] at hx149_0 | simp only [add_at] at hx149_0 | simp only [Addr.add, Nat.zero_add] at hx149_0 | skip)
           replace p149 := eq_true p149; replace q149 := eq_true q149
           go_wp2
           (try simp only [← hl5_1])
           go_roundg k1
           case measure => have := HK1.out; omega
           case rel => exact ⟨(x5_1), (wrap64 (x6_1 - 1)), jz, H', ⟨by have := HK1.out; omega⟩, ⟨by (try simp only [hl5_1]); (with_reducible repeat (first | apply Kd.R_alloc | apply Kd.R_drewN | apply Kd.R_drew)); exact HO_5.out⟩, ⟨by (try simp only [hl5_1]); (with_reducible repeat (first | refine blk_drewN ?_ _ | refine blk_drew ?_ | refine blk_alloc ?_ _)); exact BK144.out⟩, ⟨bz⟩⟩
         ·rw [if_neg c16] at H
          exact absurd H (by simp)
        ·rw [if_neg c15] at H
         exact absurd H (by simp)
       ·rw [if_neg c14] at H; have c14b0 : decide (0 ≤ x6_1) = false := decide_eq_false c14; clear c14; have H' := Aside0.mk H; clear H
        go_wp2
        go_loopg [8, 9] k1 (fun kq v8 v9 w' => ∃ (x8_2 : List Int) (x9_2 : Int), v9 = .int .i64 x9_2 ∧ Aside0 (dioramaref03_needs.l2 kq a1 x5_1 x8_2 x9_2 = some r) ∧ Aside0 (kq ≤ k1) ∧ Aside0 (Kd.R Kd.bool 4 w' w.heap.size (fun _ => True) (.slice (some ⟨go8, 0, none⟩) x5_1.length co8) x5_1) ∧ Aside0 (Kd.R (Kd.int .i64) 3 w' w.heap.size (fun _ => True) v8 x8_2) ∧ Aside0 (w'.heap[gb144]? = some (.cells #[.int .i64 a0_0, .int .i64 a0_1, .string a0_2, .int .i64 a0_3, (.slice A0_4 l0_4.length c0_4), .string a0_5, .string a0_6, .int .i64 a0_7, (.slice A0_8 l0_8.length c0_8), (.slice A0_9 l0_9.length c0_9), (.slice A0_10 l0_10.length c0_10)] 40 (0, 0))) ∧ Aside0 (Below w.heap.size w w'))
        case atStart => exact ⟨(([] : List Int)), (0), jz, H', ⟨Nat.le_refl _⟩, ⟨by (try simp only [hl5_1]); (with_reducible repeat (first | apply Kd.R_alloc | apply Kd.R_drewN | apply Kd.R_drew)); exact HO_5.out⟩, ⟨by (try simp only [hl5_1]); first | exact Kd.R_nil _ _ _ _ _ | exact Kd.N_nil _ _ _ _ _ | exact Kd.V_nil _ _ _ _ _ | exact Kd.Q_nil _ _ _ _ _ | exact Kd.S_nil _ _ _ _ _⟩, ⟨by (try simp only [hl5_1]); (with_reducible repeat (first | refine blk_drewN ?_ _ | refine blk_drew ?_ | refine blk_alloc ?_ _)); exact BK144.out⟩, ⟨bz⟩⟩
        case round =>
         clear H'
         try clear c1
         try clear p1
         try clear q1
         try clear hx1
         try clear c2
         try clear p2
         try clear q2
         try clear hx2
         try clear hf2
         try clear c4
         try clear c4b0
         try clear c4b1
         try clear c5
         try clear c5b0
         try clear c5b1
         try clear c6
         try clear c6b0
         try clear p6
         try clear c7
         try clear c7b0
         try clear p8
         try clear q8
         try clear hx8
         try clear hf8
         try clear c14
         try clear c14b0
         try clear p14
         try clear q14
         try clear hx14
         try clear c15
         try clear c15b0
         try clear p15
         try clear q15
         try clear hx15
         try clear c16
         try clear c16b0
         try clear q17
         try clear c18
         try clear c19
         try clear c19b0
         try clear c20
         try clear c20b0
         try clear c21
         try clear c21b0
         try clear c22
         try clear c22b0
         try clear c23
         try clear c23b0
         try clear c24
         try clear c24b0
         try clear p25
         try clear q25
         try clear hx25
         try clear hf25
         try clear hcz26_0
         try clear hcz26_1
         try clear hcz26_10
         try clear hcz26_2
         try clear hcz26_3
         try clear hcz26_4
         try clear hcz26_5
         try clear hcz26_6
         try clear hcz26_7
         try clear hcz26_8
         try clear hcz26_9
         try clear hcz29_0
         try clear hcz29_1
         try clear hcz29_10
         try clear hcz29_2
         try clear hcz29_3
         try clear hcz29_4
         try clear hcz29_5
         try clear hcz29_6
         try clear hcz29_7
         try clear hcz29_8
         try clear hcz29_9
         try clear hfz26_0
         try clear hfz26_1
         try clear hfz26_10
         try clear hfz26_2
         try clear hfz26_3
         try clear hfz26_4
         try clear hfz26_5
         try clear hfz26_6
         try clear hfz26_7
         try clear hfz26_8
         try clear hfz26_9
         try clear hfz29_0
         try clear hfz29_1
         try clear hfz29_10
         try clear hfz29_2
         try clear hfz29_3
         try clear hfz29_4
         try clear hfz29_5
         try clear hfz29_6
         try clear hfz29_7
         try clear hfz29_8
         try clear hfz29_9
         try clear hx149_0
         try clear hx150_0
         try clear hx150_1
         try clear hx150_2
         try clear hx150_3
         try clear hx150_4
         try clear hx150_5
         try clear hx151_0
         try clear hx151_1
         try clear hx151_2
         try clear hx151_3
         try clear hx151_4
         try clear hx151_5
         try clear hx152_0
         try clear hx25_0
         try clear hx8_0
         try clear p1
         try clear p14
         try clear p149
         try clear p150
         try clear p151
         try clear p152
         try clear p2
         try clear p25
         try clear p6
         try clear p8
         try clear q1
         try clear q14
         try clear q149
         try clear q150
         try clear q151
         try clear q152
         try clear q17
         try clear q25
         try clear q8
         obtain ⟨x8_2, x9_2, rfl, HA, HK2, HO_5, HO_8, BK144, HB⟩ := hrel
         cases gk with
         | zero => exact absurd HA.out (by simp [dioramaref03_needs.l2])
         | succ k2 =>
          have H := HA.out; clear HA; simp only [dioramaref03_needs.l2] at H
          by_cases c30 : x9_2 ≤ a1
          ·rw [if_pos c30] at H; have c30b0 : decide (x9_2 ≤ a1) = true := decide_eq_true c30; clear c30
           by_cases c31 : 0 ≤ x9_2
           ·rw [if_pos c31] at H; have c31b0 : decide (0 ≤ x9_2) = true := decide_eq_true c31; clear c31
            by_cases c32 : x9_2 < (x5_1.length : Int)
            ·rw [if_pos c32] at H; have c32b0 : decide (x9_2 < (x5_1.length : Int)) = true := decide_eq_true c32; clear c32; obtain ⟨bq33, hbq33⟩ : ∃ b_ : Bool, b_ = (rdOf false x5_1 x9_2) := ⟨_, rfl⟩; replace H : (if bq33 = true then (if x8_2.length < 17592186044416 then (dioramaref03_needs.l2 k2 a1 x5_1 (x8_2 ++ [x9_2]) (wrap64 (x9_2 + 1))) else (none)) else (dioramaref03_needs.l2 k2 a1 x5_1 x8_2 (wrap64 (x9_2 + 1)))) = some r := by rw [← hbq33] at H; exact H
             have Nbq33 := Aside0.mk hbq33; clear hbq33
             by_cases c34 : bq33 = true
             ·subst c34; rw [if_pos rfl] at H
              by_cases c35 : x8_2.length < 17592186044416
              ·rw [if_pos c35] at H; have LMc35 := Aside0.mk c35; clear c35; obtain ⟨y155, hy155⟩ : ∃ y_ : List Int, y_ = (x8_2 ++ [x9_2]) := ⟨_, rfl⟩; replace H : (dioramaref03_needs.l2 k2 a1 x5_1 y155 (wrap64 (x9_2 + 1))) = some r := by first | (rw [hy155]; with_reducible exact H) | (have H2_ := (Option.bind_some _ _).symm.trans H; rw [hy155]; with_reducible exact H2_) | (have H2_ := (Option.bind_some _ _).symm.trans H; with_reducible exact H2_) | with_reducible exact H | (rw [hy155]; exact H) | exact H
               have Ny155 := Aside0.mk hy155; clear hy155; have H' := Aside0.mk H; clear H; have p154 : 0 ≤ (x9_2 : Int) := od; have q154 : x9_2 < (x5_1.length : Int) := od; obtain ⟨ad154, e154, hx154_0⟩ := Kd.at_bool (Kd.R_reads' HO_5.out).2.2 x9_2 p154 q154
               (try rw [← Nbq33.out] at hx154_0)
               obtain rfl : (⟨go8, 0, none⟩ : Addr) = ad154 := (by injection e154)
               (first | simp only [add_plain] at hx154_0 | simp only [add_at] at hx154_0 | simp only [Addr.add, Nat.zero_add] at hx154_0 | skip)
               replace p154 := eq_true p154; replace q154 := eq_true q154
               go_wp2_with (first | ((with_reducible refine gate_builtin (b := .append) (xs := #[.tmp 56, .tmp 58]) rfl ?_); at_builtin; refine Kd.R_append (Kd.int .i64) (w0 := w) w.heap.size rfl (.tmp 56) (.tmp 58) 41 3 (.int .i64 0) 8 rfl Try.underlying41 info3 rfl (by decide) (by omega) u8 x8_2 x9_2 [.int .i64 x9_2] (fun _ => True) (fun _ => False) rfl rfl ?aP (fun _ hk => hk.elim) ?aF ?aO ?aB ?aS ?aL ?_; (case aP => exact rfl); (case aB => exact bz); (case aF => exact (fun _ _ => trivial)); (case aO => exact (rz HO_8)); (case aS => exact sz); (case aL => have := LMc35.out; omega); intro v156 w36 ho hb hg hat; rw [← Ny155.out] at ho; replace HO_5 := Aside0.mk (Kd.R_over' (rz HO_5) (Kd.R_typed (rz HO_8)) (by decide) hg); replace BK144 := Aside0.mk (blk_grown (g := gb144) (o := .cells #[.int .i64 a0_0, .int .i64 a0_1, .string a0_2, .int .i64 a0_3, .slice A0_4 l0_4.length c0_4, .string a0_5, .string a0_6, .int .i64 a0_7, .slice A0_8 l0_8.length c0_8, .slice A0_9 l0_9.length c0_9, .slice A0_10 l0_10.length c0_10] 40 (0, 0)) kz hg (Kd.R_ne HO_8.out BK144.out (by decide))); replace HB := Aside0.mk (hb); have HO157 := Aside0.mk (ho); clear HO_8; clear ho hb hg hat))
               go_roundg k2
               case measure => have := HK1.out; have := HK2.out; omega
               case rel => exact ⟨(y155), (wrap64 (x9_2 + 1)), jz, H', ⟨by have := HK1.out; have := HK2.out; omega⟩, ⟨by (try simp only [hl5_1]); (with_reducible repeat (first | apply Kd.R_alloc | apply Kd.R_drewN | apply Kd.R_drew)); exact HO_5.out⟩, ⟨by (try simp only [hl5_1]); (with_reducible repeat (first | apply Kd.R_alloc | apply Kd.R_drewN | apply Kd.R_drew)); exact HO157.out⟩, ⟨by (try simp only [hl5_1]); (with_reducible repeat (first | refine blk_drewN ?_ _ | refine blk_drew ?_ | refine blk_alloc ?_ _)); exact BK144.out⟩, ⟨bz⟩⟩
              ·rw [if_neg c35] at H
               exact absurd H (by simp)
             ·obtain rfl := bf c34; rw [if_neg (show ¬ (false = true) by decide)] at H; have H' := Aside0.mk H; clear H; have p154 : 0 ≤ (x9_2 : Int) := od; have q154 : x9_2 < (x5_1.length : Int) := od; obtain ⟨ad154, e154, hx154_0⟩ := Kd.at_bool (Kd.R_reads' HO_5.out).2.2 x9_2 p154 q154
              (try rw [← Nbq33.out] at hx154_0)
              obtain rfl : (⟨go8, 0, none⟩ : Addr) = ad154 := (by injection e154)
              (first | simp only [add_plain] at hx154_0 | simp only [add_at] at hx154_0 | simp only [Addr.add, Nat.zero_add] at hx154_0 | skip)
              replace p154 := eq_true p154; replace q154 := eq_true q154
              go_wp2
              go_roundg k2
              case measure => have := HK1.out; have := HK2.out; omega
              case rel => exact ⟨(x8_2), (wrap64 (x9_2 + 1)), jz, H', ⟨by have := HK1.out; have := HK2.out; omega⟩, ⟨by (try simp only [hl5_1]); (with_reducible repeat (first | apply Kd.R_alloc | apply Kd.R_drewN | apply Kd.R_drew)); exact HO_5.out⟩, ⟨by (try simp only [hl5_1]); (with_reducible repeat (first | apply Kd.R_alloc | apply Kd.R_drewN | apply Kd.R_drew)); exact HO_8.out⟩, ⟨by (try simp only [hl5_1]); (with_reducible repeat (first | refine blk_drewN ?_ _ | refine blk_drew ?_ | refine blk_alloc ?_ _)); exact BK144.out⟩, ⟨bz⟩⟩
            ·rw [if_neg c32] at H
             exact absurd H (by simp)
           ·rw [if_neg c31] at H
            exact absurd H (by simp)
          ·rw [if_neg c30] at H; have c30b0 : decide (x9_2 ≤ a1) = false := decide_eq_false c30; clear c30; obtain rfl := Option.some.inj H
           go_wp2
           go_ret
           exact ⟨_, by first | rfl | (simp [errW_none, errW_some] <;> rfl) | (simp only [← hji3]; first | rfl | (simp [errW_none, errW_some] <;> rfl)) | (simp [*, errW_none, errW_some] <;> rfl), by (with_reducible repeat (first | apply Kd.R_alloc | apply Kd.R_drewN | apply Kd.R_drew)); exact HO_8.out, bz⟩
    ·rw [if_neg c7] at H
     exact absurd H (by simp)
   ·rw [if_neg c6] at H
    exact absurd H (by simp)
  ·rw [if_neg c5] at H
   exact absurd H (by simp)
 ·rw [if_neg c4] at H
  exact absurd H (by simp)
end Go.Proofs.Ytknklchmpohjfaa.E

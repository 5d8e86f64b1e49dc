/-
  The reference's natural numbers, in digits of nine decimal places: what its printed functions compute.
-/
import Derived.Test.YtpbhepdgamoiaaaQREditClocksa
import Derived.Test.YtpbhepdgamoiaaaQREditClocksb
import Derived.Test.YtpbhepdgamoiaaaQREditClocksc
namespace Go.Proofs.Ytpbhepdgamoiaaa.E
open Go.Proofs.Ytpbhepdgamoiaaa.Z Go.RowKit Go.Proofs.YtpbhepdgamoiaaaW.PrintWords Go.Proofs.YtpbhepdgamoiaaaW.PrintLast Go.Proofs.YtpbhepdgamoiaaaW.PrintMore
attribute [local go_sem] max2_int min2_int max_two min_two max_three min_three max_four min_four
set_option linter.unusedVariables false
set_option linter.unusedSimpArgs false
mutual
def dioramaref10_Faster.j0 : Nat → List (S77) → Int → Int → Int → Int → Bool → Option ((List (S77)) × Int)
  | 0, _, _, _, _, _, _ => none
  | k + 1, x0, x1, x2, x3, x4, x36 => if x36 = true then (some (([] : List (S77)), 1)) else (dioramaref10_Faster.l0 k x0 x1 x2 x3 x4 ([] : List (S77)) 0)
def dioramaref10_Faster.l0 : Nat → List (S77) → Int → Int → Int → Int → List (S77) → Int → Option ((List (S77)) × Int)
  | 0, _, _, _, _, _, _, _ => none
  | k + 1, x0, x1, x2, x3, x4, x13, x14 => if x14 < (x0.length : Int) then (if 0 ≤ x14 then ((dioramaref10_ratio.f k ((rd_T77 x0 x14).f0) 1).bind fun bt457 => ((dioramaref10_ratio.f k x4 x3).bind fun bt464 => ((dioramaref10_times.f k bt457.1 bt457.2.1 bt457.2.2 bt464.1 bt464.2.1 bt464.2.2).bind fun bt471 => ((dioramaref10_whole.f k bt471.1 bt471.2.1 bt471.2.2).bind fun bt478 => (if bt478.2 = 20 then (some (([] : List (S77)), bt478.2)) else ((dioramaref10_isEmpty.f bt478.1 ((rd_T77 x0 x14).f1) ((rd_T77 x0 x14).f2) ((rd_T77 x0 x14).f3)).bind fun t480 => (if t480 = true then (dioramaref10_Faster.j2 k x0 x1 x2 x3 x4 bt478.2 x13 x14 false bt478.1 ((rd_T77 x0 x14).f1) ((rd_T77 x0 x14).f2) ((rd_T77 x0 x14).f3)) else (dioramaref10_Faster.j2 k x0 x1 x2 x3 x4 bt478.2 x13 x14 (decide (((rd_T77 x0 x14).f2) > 0)) bt478.1 ((rd_T77 x0 x14).f1) ((rd_T77 x0 x14).f2) ((rd_T77 x0 x14).f3))))))))) else (none)) else ((dioramaref10_told.f k x13 x1 x2).bind fun bt451 => (some (bt451.1, bt451.2)))
def dioramaref10_Faster.j2 : Nat → List (S77) → Int → Int → Int → Int → Int → List (S77) → Int → Bool → Int → Int → Int → Int → Option ((List (S77)) × Int)
  | 0, _, _, _, _, _, _, _, _, _, _, _, _, _ => none
  | k + 1, x0, x1, x2, x3, x4, x12, x13, x14, x69, x457000, x457001, x457002, x457003 => if x69 = true then ((dioramaref10_lowest.f x457000 x457001 (wrap64 (x457002 * x3)) (wrap64 (x457003 * x4))).bind fun bt481 => (if bt481.2.2.1 > 1000 then (dioramaref10_Faster.j3 k x0 x1 x2 x3 x4 x12 x13 x14 true bt481.1 bt481.2.1 bt481.2.2.1 bt481.2.2.2) else (dioramaref10_Faster.j3 k x0 x1 x2 x3 x4 x12 x13 x14 (decide (bt481.2.2.2 > 1000)) bt481.1 bt481.2.1 bt481.2.2.1 bt481.2.2.2))) else (if x12 = 0 then (if x13.length < 4398046511104 then (dioramaref10_Faster.l0 k x0 x1 x2 x3 x4 (x13 ++ [(⟨x457000, x457001, x457002, x457003⟩ : S77)]) (wrap64 (x14 + 1))) else (none)) else (some (([] : List (S77)), x12)))
def dioramaref10_Faster.j3 : Nat → List (S77) → Int → Int → Int → Int → Int → List (S77) → Int → Bool → Int → Int → Int → Int → Option ((List (S77)) × Int)
  | 0, _, _, _, _, _, _, _, _, _, _, _, _, _ => none
  | k + 1, x0, x1, x2, x3, x4, x12, x13, x14, x89, x457000, x457001, x457002, x457003 => if x89 = true then (some (([] : List (S77)), 33)) else (if x12 = 0 then (if x13.length < 4398046511104 then (dioramaref10_Faster.l0 k x0 x1 x2 x3 x4 (x13 ++ [(⟨x457000, x457001, x457002, x457003⟩ : S77)]) (wrap64 (x14 + 1))) else (none)) else (some (([] : List (S77)), x12)))
end
def dioramaref10_Faster.f (k : Nat) (l0 : List (S77)) (a1 : Int) (a2 : Int) (a3 : Int) (a4 : Int) : Option ((List (S77)) × Int) := (dioramaref10_Check.f k l0 a1 a2).bind fun t450 => (if t450 = 0 then (if a3 < 1 then (dioramaref10_Faster.j0 k l0 a1 a2 a3 a4 true) else (if a3 > 1000 then (dioramaref10_Faster.j0 k l0 a1 a2 a3 a4 true) else (if a4 < 1 then (dioramaref10_Faster.j0 k l0 a1 a2 a3 a4 true) else (dioramaref10_Faster.j0 k l0 a1 a2 a3 a4 (decide (a4 > 1000)))))) else (some (([] : List (S77)), t450)))
set_option maxHeartbeats 8000000 in
set_option maxRecDepth 100000 in
theorem dioramaref10_Faster.calls (k : Nat) (A0 : Option Addr) (c0 : Nat) (l0 : List (S77)) (a1 : Int) (a2 : Int) (a3 : Int) (a4 : Int) (r1 : List (S77)) (r2 : Int) (w : World) (hr0 : Kd.C k77 w A0 l0.length l0) (hc0 : l0.length ≤ c0) (h : dioramaref10_Faster.f k l0 a1 a2 a3 a4 = some (r1, r2)) :
  Calls Try.prog 29 #[.slice A0 l0.length c0, .int .i64 a1, .int .i64 a2, .int .i64 a3, .int .i64 a4] w fun e w' => ∃ v0_ : Value, e = .returned (.tuple #[v0_, .int .i64 r2]) ∧ Kd.R k77 77 w' w.heap.size (fun _ => True) v0_ r1 ∧ Below w.heap.size w w' := by
 have hu77 := Try.underlying77; have HR0 := Aside0.mk hr0; have HC0 := Aside0.mk hc0; clear hr0 hc0; have HB := Aside0.mk (Below.refl w.heap.size w); have H : ((dioramaref10_Check.f k l0 a1 a2).bind fun t450 => (if t450 = 0 then (if a3 < 1 then (dioramaref10_Faster.j0 k l0 a1 a2 a3 a4 true) else (if a3 > 1000 then (dioramaref10_Faster.j0 k l0 a1 a2 a3 a4 true) else (if a4 < 1 then (dioramaref10_Faster.j0 k l0 a1 a2 a3 a4 true) else (dioramaref10_Faster.j0 k l0 a1 a2 a3 a4 (decide (a4 > 1000)))))) else (some (([] : List (S77)), t450)))) = some (r1, r2) := h
 clear h; obtain ⟨t450, A6, H⟩ := ob H
 by_cases c7 : t450 = 0
 ·rw [if_pos c7] at H; have c7b0 : (t450 == 0) = true := beq_iff_eq.mpr c7; have c7b1 : (t450 != 0) = false := bne_eq_false_iff_eq.mpr c7; clear c7; have HC8 := Aside0.mk H; clear H
  go_enter Try.func29, Try.ntmps29
  go_upto_region 4 with (first | ((with_reducible refine gate_callee (f := 25) rfl ?_); refine zC 19 Try.func25 #[.slice A0 l0.length c0, .int .i64 a1, .int .i64 a2] ?_; (with_reducible refine (dioramaref10_Check.calls k _ _ l0 a1 a2 t450 _ ?side1 ?side2 A6.out).mono ?_); (case side1 => repeat (first | exact HR0.out | (with_reducible refine Kd.C_alloc ?_ _) | (with_reducible refine Kd.C_drewN ?_ _) | (with_reducible refine Kd.C_drew ?_))); (case side2 => exact HC0.out); rintro e w9 ⟨rfl, hb⟩; refine ⟨_, rfl, ?_⟩; replace HB := bp hb; clear hb))
  (try simp only [Act.put, List.setIfInBounds_toArray, List.set_cons_zero, List.set_cons_succ])
  go_cut [36] (fun v36 wc => ∃ (kq : Nat) (x36_7 : Bool), v36 = .bool x36_7 ∧ Aside0 (dioramaref10_Faster.j0 kq l0 a1 a2 a3 a4 x36_7 = some (r1, r2)) ∧ Aside0 (kq ≤ k) ∧ Aside0 (Below w.heap.size w wc))
  case first =>
   have H := HC8.out; clear HC8
   by_cases c10 : a3 < 1
   ·rw [if_pos c10] at H; have c10b0 : decide (a3 < 1) = true := decide_eq_true c10; clear c10
    (first | rw [c10b0] | (simp only [i64_w, i32_w]; rw [c10b0]) | skip)
    have H' := Aside0.mk H; clear H
    go_wp2
    go_meet
    case rel => exact ⟨_, (true), jz, H', ⟨by first | omega | exact Nat.le_refl _⟩, ⟨bz⟩⟩
   ·rw [if_neg c10] at H; have c10b0 : decide (a3 < 1) = false := decide_eq_false c10; clear c10
    (first | rw [c10b0] | (simp only [i64_w, i32_w]; rw [c10b0]) | skip)
    by_cases c11 : a3 > 1000
    ·rw [if_pos c11] at H; have c11b0 : decide (1000 < a3) = true := decide_eq_true c11; clear c11; have H' := Aside0.mk H; clear H
     go_wp2
     go_meet
     case rel => exact ⟨_, (true), jz, H', ⟨by first | omega | exact Nat.le_refl _⟩, ⟨bz⟩⟩
    ·rw [if_neg c11] at H; have c11b0 : decide (1000 < a3) = false := decide_eq_false c11; clear c11
     by_cases c12 : a4 < 1
     ·rw [if_pos c12] at H; have c12b0 : decide (a4 < 1) = true := decide_eq_true c12; clear c12; have H' := Aside0.mk H; clear H
      go_wp2
      go_meet
      case rel => exact ⟨_, (true), jz, H', ⟨by first | omega | exact Nat.le_refl _⟩, ⟨bz⟩⟩
     ·rw [if_neg c12] at H; have c12b0 : decide (a4 < 1) = false := decide_eq_false c12; clear c12; have H' := Aside0.mk H; clear H
      go_wp2
      go_meet
      case rel => exact ⟨_, (decide (a4 > 1000)), jz, H', ⟨by first | omega | exact Nat.le_refl _⟩, ⟨bz⟩⟩
  case rest =>
   clear HC8
   try clear c1
   try clear c2
   try clear p2
   try clear c7
   try clear c7b0
   try clear c7b1
   try clear c10
   try clear c10b0
   try clear c11
   try clear c11b0
   try clear c12
   try clear c12b0
   obtain ⟨kq, x36_7, rfl, HA, HJ7, HB⟩ := hcut
   cases kq with
   | zero => exact absurd HA.out (by simp [dioramaref10_Faster.j0])
   | succ kj7 =>
    have H := HA.out; clear HA; simp only [dioramaref10_Faster.j0] at H
    by_cases c13 : x36_7 = true
    ·subst c13; rw [if_pos rfl] at H; simp only [Option.some.injEq, Prod.mk.injEq] at H; obtain ⟨rfl, rfl⟩ := H
     go_wp2
     go_ret2
     exact ⟨_, ez, by first | exact Kd.R_nil _ _ _ _ _ | exact Kd.N_nil _ _ _ _ _ | exact Kd.V_nil _ _ _ _ _ | exact Kd.Q_nil _ _ _ _ _ | exact Kd.S_nil _ _ _ _ _, bz⟩
    ·obtain rfl := bf c13; rw [if_neg (show ¬ (false = true) by decide)] at H; have H' := Aside0.mk H; clear H
     go_wp2
     go_loopg [13, 14] kj7 (fun kq v13 v14 w' => ∃ (x13_2 : List (S77)) (x14_2 : Int), v14 = .int .i64 x14_2 ∧ Aside0 (dioramaref10_Faster.l0 kq l0 a1 a2 a3 a4 x13_2 x14_2 = some (r1, r2)) ∧ Aside0 (kq ≤ kj7) ∧ Aside0 (Kd.R k77 77 w' w.heap.size (fun _ => True) v13 x13_2) ∧ Aside0 (Below w.heap.size w w'))
     case atStart => exact ⟨(([] : List (S77))), (0), jz, H', ⟨Nat.le_refl _⟩, ⟨by first | exact Kd.R_nil _ _ _ _ _ | exact Kd.N_nil _ _ _ _ _ | exact Kd.V_nil _ _ _ _ _ | exact Kd.Q_nil _ _ _ _ _ | exact Kd.S_nil _ _ _ _ _⟩, ⟨bz⟩⟩
     case round =>
      clear H'
      try clear c1
      try clear c2
      try clear p2
      try clear c7
      try clear c7b0
      try clear c7b1
      try clear c10
      try clear c10b0
      try clear c11
      try clear c11b0
      try clear c12
      try clear c12b0
      try clear c13
      try clear p2
      obtain ⟨x13_2, x14_2, rfl, HA, HK2, HO_13, HB⟩ := hrel
      cases gk with
      | zero => exact absurd HA.out (by simp [dioramaref10_Faster.l0])
      | succ k2 =>
       have H := HA.out; clear HA; simp only [dioramaref10_Faster.l0] at H
       by_cases c14 : x14_2 < (l0.length : Int)
       ·rw [if_pos c14] at H; have c14b0 : decide (x14_2 < (l0.length : Int)) = true := decide_eq_true c14; clear c14
        by_cases c15 : 0 ≤ x14_2
        ·rw [if_pos c15] at H; have c15b0 : decide (0 ≤ x14_2) = true := decide_eq_true c15; clear c15; obtain ⟨⟨t457, t458, t461⟩, A16, H⟩ := ob H
         (try dsimp only at H)
         obtain ⟨⟨t464, t465, t468⟩, A17, H⟩ := ob H
         (try dsimp only at H)
         obtain ⟨⟨t471, t472, t475⟩, A18, H⟩ := ob H
         (try dsimp only at H)
         obtain ⟨⟨t478, t479⟩, A19, H⟩ := ob H
         (try dsimp only at H)
         by_cases c20 : t479 = 20
         ·rw [if_pos c20] at H; have c20b0 : (t479 == 20) = true := beq_iff_eq.mpr c20; have c20b1 : (t479 != 20) = false := bne_eq_false_iff_eq.mpr c20; clear c20; simp only [Option.some.injEq, Prod.mk.injEq] at H; obtain ⟨rfl, rfl⟩ := H; have p455 : 0 ≤ (x14_2 : Int) := od; have q455 : x14_2 < (l0.length : Int) := od; obtain ⟨ad455, e455, hx455_0, hx455_1, hx455_2, hx455_3⟩ := at_T77 HR0.out x14_2 p455 q455
          cases e455
          replace hx455_0 := cl HB hx455_0; replace hx455_1 := cl HB hx455_1; replace hx455_2 := cl HB hx455_2; replace hx455_3 := cl HB hx455_3; replace p455 := eq_true p455; replace q455 := eq_true q455
          go_wp2_with (first | ((with_reducible refine gate_dst (N := 15) rfl ?_); refine zB 15 77 #[.int .i64 0, .int .i64 0, .int .i64 0, .int .i64 0] ?_; intro gb456 hg w21 hbox hb; replace HO_13 := Aside0.mk (Kd.R_below (Kd.R_elderB (rz HO_13) gb456 (Nat.le_of_eq hg.symm)) hb); have BK456 := Aside0.mk hbox; have GW456 := gz hg; have GE456 := gz hg; replace HB := bp hb; clear hb hbox hg; obtain ⟨hcz22_0, hcz22_1, hcz22_2, hcz22_3, hfz22_0, hfz22_1, hfz22_2, hfz22_3⟩ := xc4 BK456) | ((with_reducible refine gate_callee (f := 68) rfl ?_); refine zC 50 Try.func68 #[.int .i64 ((rd_T77 l0 x14_2).f0), .int .i64 1] ?_; (with_reducible refine (dioramaref10_ratio.calls k2 ((rd_T77 l0 x14_2).f0) 1 t457 t458 t461 _ A16.out).mono ?_); rintro e w23 ⟨v459, v462, rfl, ho0, ho1, hb⟩; refine ⟨_, rfl, ?_⟩; replace HO_13 := Aside0.mk (Kd.R_below (by (with_reducible repeat (first | apply Kd.R_alloc | apply Kd.R_drewN | apply Kd.R_drew)); exact (Kd.R_mono (Kd.R_far (p := ⟨gb456, 3, none⟩) (Kd.R_far (p := ⟨gb456, 2, none⟩) (Kd.R_far (p := ⟨gb456, 1, none⟩) (Kd.R_far (p := ⟨gb456, 0, none⟩) (Kd.R_mono HO_13.out (fun k_ hk => (⟨hk, hk.2⟩ : _ ∧ k_ ≠ gb456))) (fun _ hk => hk.2) (.int .i64 ((rd_T77 l0 x14_2).f0))) (fun _ hk => hk.2) (.int .i64 ((rd_T77 l0 x14_2).f1))) (fun _ hk => hk.2) (.int .i64 ((rd_T77 l0 x14_2).f2))) (fun _ hk => hk.2) (.int .i64 ((rd_T77 l0 x14_2).f3))) (fun _ h_ => h_.1))) hb); have HO460 := Aside0.mk (Kd.R_lower ho0 sz); have HO463 := Aside0.mk (Kd.R_lower ho1 sz); replace BK456 := Aside0.mk (blk_below (g := gb456) (o := .cells #[.int .i64 ((rd_T77 l0 x14_2).f0), .int .i64 ((rd_T77 l0 x14_2).f1), .int .i64 ((rd_T77 l0 x14_2).f2), .int .i64 ((rd_T77 l0 x14_2).f3)] 77 (0, 0)) (by (with_reducible repeat (first | refine blk_drewN ?_ _ | refine blk_drew ?_ | refine blk_alloc ?_ _)); refine blk_put (cs := #[.int .i64 ((rd_T77 l0 x14_2).f0), .int .i64 ((rd_T77 l0 x14_2).f1), .int .i64 ((rd_T77 l0 x14_2).f2), .int .i64 0]) ?_ 3 _ rfl; (with_reducible repeat (first | refine blk_drewN ?_ _ | refine blk_drew ?_ | refine blk_alloc ?_ _)); refine blk_put (cs := #[.int .i64 ((rd_T77 l0 x14_2).f0), .int .i64 ((rd_T77 l0 x14_2).f1), .int .i64 0, .int .i64 0]) ?_ 2 _ rfl; (with_reducible repeat (first | refine blk_drewN ?_ _ | refine blk_drew ?_ | refine blk_alloc ?_ _)); refine blk_put (cs := #[.int .i64 ((rd_T77 l0 x14_2).f0), .int .i64 0, .int .i64 0, .int .i64 0]) ?_ 1 _ rfl; (with_reducible repeat (first | refine blk_drewN ?_ _ | refine blk_drew ?_ | refine blk_alloc ?_ _)); refine blk_put (cs := #[.int .i64 0, .int .i64 0, .int .i64 0, .int .i64 0]) ?_ 0 _ rfl; (with_reducible repeat (first | refine blk_drewN ?_ _ | refine blk_drew ?_ | refine blk_alloc ?_ _)); exact BK456.out) hb); replace HB := bp hb; clear hb ho0 ho1) | ((with_reducible refine gate_callee (f := 68) rfl ?_); refine zC 53 Try.func68 #[.int .i64 a4, .int .i64 a3] ?_; (with_reducible refine (dioramaref10_ratio.calls k2 a4 a3 t464 t465 t468 _ A17.out).mono ?_); rintro e w24 ⟨v466, v469, rfl, ho0, ho1, hb⟩; refine ⟨_, rfl, ?_⟩; replace HO_13 := Aside0.mk (Kd.R_below (rz HO_13) hb); have HO467 := Aside0.mk (Kd.R_lower (Kd.R_new' (Kd.R_new' ho0 (Kd.R_lt (rz HO460))) (Kd.R_lt (rz HO463))) sz); have HO470 := Aside0.mk (Kd.R_lower (Kd.R_new' (Kd.R_new' ho1 (Kd.R_lt (rz HO460))) (Kd.R_lt (rz HO463))) sz); replace HO460 := Aside0.mk (Kd.R_mono (Kd.R_told (Kd.R_told (Kd.R_old (rz HO460) hb) (Kd.R_base ho0)) (Kd.R_base ho1)) (fun _ h_ => h_.1)); replace HO463 := Aside0.mk (Kd.R_mono (Kd.R_told (Kd.R_told (Kd.R_old (rz HO463) hb) (Kd.R_base ho0)) (Kd.R_base ho1)) (fun _ h_ => h_.1)); replace BK456 := kb BK456 hb; replace HB := bp hb; clear hb ho0 ho1; obtain ⟨Ao25, co25, eo25⟩ := Kd.R_slice HO460.out; subst eo25; obtain ⟨Ao26, co26, eo26⟩ := Kd.R_slice HO463.out; subst eo26; obtain ⟨Ao27, co27, eo27⟩ := Kd.R_slice HO467.out; subst eo27; obtain ⟨Ao28, co28, eo28⟩ := Kd.R_slice HO470.out; subst eo28) | ((with_reducible refine gate_callee (f := 73) rfl ?_); refine zC 54 Try.func73 #[.agg #[.bool t457, .slice Ao25 t458.length co25, .slice Ao26 t461.length co26], .agg #[.bool t464, .slice Ao27 t465.length co27, .slice Ao28 t468.length co28]] ?_; (with_reducible refine (dioramaref10_times.calls k2 t457 _ _ t458 _ _ t461 t464 _ _ t465 _ _ t468 t471 t472 t475 _ ?side1 ?side2 ?side3 ?side4 ?side5 ?side6 ?side7 ?side8 A18.out).mono ?_); (case side1 => exact cr HO460); (case side2 => exact (Kd.R_reads' HO460.out).2.1); (case side3 => exact cr HO463); (case side4 => exact (Kd.R_reads' HO463.out).2.1); (case side5 => exact cr HO467); (case side6 => exact (Kd.R_reads' HO467.out).2.1); (case side7 => exact cr HO470); (case side8 => exact (Kd.R_reads' HO470.out).2.1); rintro e w29 ⟨v473, v476, rfl, ho0, ho1, hb⟩; refine ⟨_, rfl, ?_⟩; replace HO_13 := Aside0.mk (Kd.R_below (rz HO_13) hb); have HO474 := Aside0.mk (Kd.R_lower (Kd.R_new' (Kd.R_new' (Kd.R_new' (Kd.R_new' ho0 (Kd.R_lt (rz HO460))) (Kd.R_lt (rz HO463))) (Kd.R_lt (rz HO467))) (Kd.R_lt (rz HO470))) sz); have HO477 := Aside0.mk (Kd.R_lower (Kd.R_new' (Kd.R_new' (Kd.R_new' (Kd.R_new' ho1 (Kd.R_lt (rz HO460))) (Kd.R_lt (rz HO463))) (Kd.R_lt (rz HO467))) (Kd.R_lt (rz HO470))) sz); replace HO460 := Aside0.mk (Kd.R_mono (Kd.R_told (Kd.R_told (Kd.R_old (rz HO460) hb) (Kd.R_base ho0)) (Kd.R_base ho1)) (fun _ h_ => h_.1)); replace HO463 := Aside0.mk (Kd.R_mono (Kd.R_told (Kd.R_told (Kd.R_old (rz HO463) hb) (Kd.R_base ho0)) (Kd.R_base ho1)) (fun _ h_ => h_.1)); replace HO467 := Aside0.mk (Kd.R_mono (Kd.R_told (Kd.R_told (Kd.R_old (rz HO467) hb) (Kd.R_base ho0)) (Kd.R_base ho1)) (fun _ h_ => h_.1)); replace HO470 := Aside0.mk (Kd.R_mono (Kd.R_told (Kd.R_told (Kd.R_old (rz HO470) hb) (Kd.R_base ho0)) (Kd.R_base ho1)) (fun _ h_ => h_.1)); replace BK456 := kb BK456 hb; replace HB := bp hb; clear hb ho0 ho1; obtain ⟨Ao30, co30, eo30⟩ := Kd.R_slice HO474.out; subst eo30; obtain ⟨Ao31, co31, eo31⟩ := Kd.R_slice HO477.out; subst eo31) | ((with_reducible refine gate_callee (f := 72) rfl ?_); refine zC 55 Try.func72 #[.agg #[.bool t471, .slice Ao30 t472.length co30, .slice Ao31 t475.length co31]] ?_; (with_reducible refine (dioramaref10_whole.calls k2 t471 _ _ t472 _ _ t475 t478 t479 _ ?side1 ?side2 ?side3 ?side4 A19.out).mono ?_); (case side1 => exact cr HO474); (case side2 => exact (Kd.R_reads' HO474.out).2.1); (case side3 => exact cr HO477); (case side4 => exact (Kd.R_reads' HO477.out).2.1); rintro e w32 ⟨rfl, hb⟩; refine ⟨_, rfl, ?_⟩; replace HO_13 := Aside0.mk (Kd.R_below (rz HO_13) hb); replace HO460 := Aside0.mk (Kd.R_below (rz HO460) hb); replace HO463 := Aside0.mk (Kd.R_below (rz HO463) hb); replace HO467 := Aside0.mk (Kd.R_below (rz HO467) hb); replace HO470 := Aside0.mk (Kd.R_below (rz HO470) hb); replace HO474 := Aside0.mk (Kd.R_below (rz HO474) hb); replace HO477 := Aside0.mk (Kd.R_below (rz HO477) hb); replace BK456 := kb BK456 hb; replace HB := bp hb; clear hb; obtain ⟨hcz33_0, hcz33_1, hcz33_2, hcz33_3, hfz33_0, hfz33_1, hfz33_2, hfz33_3⟩ := xc4 BK456))
          go_ret2
          exact ⟨_, ez, by first | exact Kd.R_nil _ _ _ _ _ | exact Kd.N_nil _ _ _ _ _ | exact Kd.V_nil _ _ _ _ _ | exact Kd.Q_nil _ _ _ _ _ | exact Kd.S_nil _ _ _ _ _, bz⟩
         ·rw [if_neg c20] at H; have c20b0 : (t479 == 20) = false := beq_eq_false_iff_ne.mpr c20; have c20b1 : (t479 != 20) = true := bne_iff_ne.mpr c20; have HC34 := Aside0.mk H; clear H; have p455 : 0 ≤ (x14_2 : Int) := od; have q455 : x14_2 < (l0.length : Int) := od; obtain ⟨ad455, e455, hx455_0, hx455_1, hx455_2, hx455_3⟩ := at_T77 HR0.out x14_2 p455 q455
          cases e455
          replace hx455_0 := cl HB hx455_0; replace hx455_1 := cl HB hx455_1; replace hx455_2 := cl HB hx455_2; replace hx455_3 := cl HB hx455_3; replace p455 := eq_true p455; replace q455 := eq_true q455
          go_upto_region 14 with (first | ((with_reducible refine gate_dst (N := 15) rfl ?_); refine zB 15 77 #[.int .i64 0, .int .i64 0, .int .i64 0, .int .i64 0] ?_; intro gb456 hg w35 hbox hb; replace HO_13 := Aside0.mk (Kd.R_below (Kd.R_elderB (rz HO_13) gb456 (Nat.le_of_eq hg.symm)) hb); have BK456 := Aside0.mk hbox; have GW456 := gz hg; have GE456 := gz hg; replace HB := bp hb; clear hb hbox hg; obtain ⟨hcz36_0, hcz36_1, hcz36_2, hcz36_3, hfz36_0, hfz36_1, hfz36_2, hfz36_3⟩ := xc4 BK456) | ((with_reducible refine gate_callee (f := 68) rfl ?_); refine zC 50 Try.func68 #[.int .i64 ((rd_T77 l0 x14_2).f0), .int .i64 1] ?_; (with_reducible refine (dioramaref10_ratio.calls k2 ((rd_T77 l0 x14_2).f0) 1 t457 t458 t461 _ A16.out).mono ?_); rintro e w37 ⟨v459, v462, rfl, ho0, ho1, hb⟩; refine ⟨_, rfl, ?_⟩; replace HO_13 := Aside0.mk (Kd.R_below (by (with_reducible repeat (first | apply Kd.R_alloc | apply Kd.R_drewN | apply Kd.R_drew)); exact (Kd.R_mono (Kd.R_far (p := ⟨gb456, 3, none⟩) (Kd.R_far (p := ⟨gb456, 2, none⟩) (Kd.R_far (p := ⟨gb456, 1, none⟩) (Kd.R_far (p := ⟨gb456, 0, none⟩) (Kd.R_mono HO_13.out (fun k_ hk => (⟨hk, hk.2⟩ : _ ∧ k_ ≠ gb456))) (fun _ hk => hk.2) (.int .i64 ((rd_T77 l0 x14_2).f0))) (fun _ hk => hk.2) (.int .i64 ((rd_T77 l0 x14_2).f1))) (fun _ hk => hk.2) (.int .i64 ((rd_T77 l0 x14_2).f2))) (fun _ hk => hk.2) (.int .i64 ((rd_T77 l0 x14_2).f3))) (fun _ h_ => h_.1))) hb); have HO460 := Aside0.mk (Kd.R_lower ho0 sz); have HO463 := Aside0.mk (Kd.R_lower ho1 sz); replace BK456 := Aside0.mk (blk_below (g := gb456) (o := .cells #[.int .i64 ((rd_T77 l0 x14_2).f0), .int .i64 ((rd_T77 l0 x14_2).f1), .int .i64 ((rd_T77 l0 x14_2).f2), .int .i64 ((rd_T77 l0 x14_2).f3)] 77 (0, 0)) (by (with_reducible repeat (first | refine blk_drewN ?_ _ | refine blk_drew ?_ | refine blk_alloc ?_ _)); refine blk_put (cs := #[.int .i64 ((rd_T77 l0 x14_2).f0), .int .i64 ((rd_T77 l0 x14_2).f1), .int .i64 ((rd_T77 l0 x14_2).f2), .int .i64 0]) ?_ 3 _ rfl; (with_reducible repeat (first | refine blk_drewN ?_ _ | refine blk_drew ?_ | refine blk_alloc ?_ _)); refine blk_put (cs := #[.int .i64 ((rd_T77 l0 x14_2).f0), .int .i64 ((rd_T77 l0 x14_2).f1), .int .i64 0, .int .i64 0]) ?_ 2 _ rfl; (with_reducible repeat (first | refine blk_drewN ?_ _ | refine blk_drew ?_ | refine blk_alloc ?_ _)); refine blk_put (cs := #[.int .i64 ((rd_T77 l0 x14_2).f0), .int .i64 0, .int .i64 0, .int .i64 0]) ?_ 1 _ rfl; (with_reducible repeat (first | refine blk_drewN ?_ _ | refine blk_drew ?_ | refine blk_alloc ?_ _)); refine blk_put (cs := #[.int .i64 0, .int .i64 0, .int .i64 0, .int .i64 0]) ?_ 0 _ rfl; (with_reducible repeat (first | refine blk_drewN ?_ _ | refine blk_drew ?_ | refine blk_alloc ?_ _)); exact BK456.out) hb); replace HB := bp hb; clear hb ho0 ho1) | ((with_reducible refine gate_callee (f := 68) rfl ?_); refine zC 53 Try.func68 #[.int .i64 a4, .int .i64 a3] ?_; (with_reducible refine (dioramaref10_ratio.calls k2 a4 a3 t464 t465 t468 _ A17.out).mono ?_); rintro e w38 ⟨v466, v469, rfl, ho0, ho1, hb⟩; refine ⟨_, rfl, ?_⟩; replace HO_13 := Aside0.mk (Kd.R_below (rz HO_13) hb); have HO467 := Aside0.mk (Kd.R_lower (Kd.R_new' (Kd.R_new' ho0 (Kd.R_lt (rz HO460))) (Kd.R_lt (rz HO463))) sz); have HO470 := Aside0.mk (Kd.R_lower (Kd.R_new' (Kd.R_new' ho1 (Kd.R_lt (rz HO460))) (Kd.R_lt (rz HO463))) sz); replace HO460 := Aside0.mk (Kd.R_mono (Kd.R_told (Kd.R_told (Kd.R_old (rz HO460) hb) (Kd.R_base ho0)) (Kd.R_base ho1)) (fun _ h_ => h_.1)); replace HO463 := Aside0.mk (Kd.R_mono (Kd.R_told (Kd.R_told (Kd.R_old (rz HO463) hb) (Kd.R_base ho0)) (Kd.R_base ho1)) (fun _ h_ => h_.1)); replace BK456 := kb BK456 hb; replace HB := bp hb; clear hb ho0 ho1; obtain ⟨Ao39, co39, eo39⟩ := Kd.R_slice HO460.out; subst eo39; obtain ⟨Ao40, co40, eo40⟩ := Kd.R_slice HO463.out; subst eo40; obtain ⟨Ao41, co41, eo41⟩ := Kd.R_slice HO467.out; subst eo41; obtain ⟨Ao42, co42, eo42⟩ := Kd.R_slice HO470.out; subst eo42) | ((with_reducible refine gate_callee (f := 73) rfl ?_); refine zC 54 Try.func73 #[.agg #[.bool t457, .slice Ao39 t458.length co39, .slice Ao40 t461.length co40], .agg #[.bool t464, .slice Ao41 t465.length co41, .slice Ao42 t468.length co42]] ?_; (with_reducible refine (dioramaref10_times.calls k2 t457 _ _ t458 _ _ t461 t464 _ _ t465 _ _ t468 t471 t472 t475 _ ?side1 ?side2 ?side3 ?side4 ?side5 ?side6 ?side7 ?side8 A18.out).mono ?_); (case side1 => exact cr HO460); (case side2 => exact (Kd.R_reads' HO460.out).2.1); (case side3 => exact cr HO463); (case side4 => exact (Kd.R_reads' HO463.out).2.1); (case side5 => exact cr HO467); (case side6 => exact (Kd.R_reads' HO467.out).2.1); (case side7 => exact cr HO470); (case side8 => exact (Kd.R_reads' HO470.out).2.1); rintro e w43 ⟨v473, v476, rfl, ho0, ho1, hb⟩; refine ⟨_, rfl, ?_⟩; replace HO_13 := Aside0.mk (Kd.R_below (rz HO_13) hb); have HO474 := Aside0.mk (Kd.R_lower (Kd.R_new' (Kd.R_new' (Kd.R_new' (Kd.R_new' ho0 (Kd.R_lt (rz HO460))) (Kd.R_lt (rz HO463))) (Kd.R_lt (rz HO467))) (Kd.R_lt (rz HO470))) sz); have HO477 := Aside0.mk (Kd.R_lower (Kd.R_new' (Kd.R_new' (Kd.R_new' (Kd.R_new' ho1 (Kd.R_lt (rz HO460))) (Kd.R_lt (rz HO463))) (Kd.R_lt (rz HO467))) (Kd.R_lt (rz HO470))) sz); replace HO460 := Aside0.mk (Kd.R_mono (Kd.R_told (Kd.R_told (Kd.R_old (rz HO460) hb) (Kd.R_base ho0)) (Kd.R_base ho1)) (fun _ h_ => h_.1)); replace HO463 := Aside0.mk (Kd.R_mono (Kd.R_told (Kd.R_told (Kd.R_old (rz HO463) hb) (Kd.R_base ho0)) (Kd.R_base ho1)) (fun _ h_ => h_.1)); replace HO467 := Aside0.mk (Kd.R_mono (Kd.R_told (Kd.R_told (Kd.R_old (rz HO467) hb) (Kd.R_base ho0)) (Kd.R_base ho1)) (fun _ h_ => h_.1)); replace HO470 := Aside0.mk (Kd.R_mono (Kd.R_told (Kd.R_told (Kd.R_old (rz HO470) hb) (Kd.R_base ho0)) (Kd.R_base ho1)) (fun _ h_ => h_.1)); replace BK456 := kb BK456 hb; replace HB := bp hb; clear hb ho0 ho1; obtain ⟨Ao44, co44, eo44⟩ := Kd.R_slice HO474.out; subst eo44; obtain ⟨Ao45, co45, eo45⟩ := Kd.R_slice HO477.out; subst eo45) | ((with_reducible refine gate_callee (f := 72) rfl ?_); refine zC 55 Try.func72 #[.agg #[.bool t471, .slice Ao44 t472.length co44, .slice Ao45 t475.length co45]] ?_; (with_reducible refine (dioramaref10_whole.calls k2 t471 _ _ t472 _ _ t475 t478 t479 _ ?side1 ?side2 ?side3 ?side4 A19.out).mono ?_); (case side1 => exact cr HO474); (case side2 => exact (Kd.R_reads' HO474.out).2.1); (case side3 => exact cr HO477); (case side4 => exact (Kd.R_reads' HO477.out).2.1); rintro e w46 ⟨rfl, hb⟩; refine ⟨_, rfl, ?_⟩; replace HO_13 := Aside0.mk (Kd.R_below (rz HO_13) hb); replace HO460 := Aside0.mk (Kd.R_below (rz HO460) hb); replace HO463 := Aside0.mk (Kd.R_below (rz HO463) hb); replace HO467 := Aside0.mk (Kd.R_below (rz HO467) hb); replace HO470 := Aside0.mk (Kd.R_below (rz HO470) hb); replace HO474 := Aside0.mk (Kd.R_below (rz HO474) hb); replace HO477 := Aside0.mk (Kd.R_below (rz HO477) hb); replace BK456 := kb BK456 hb; replace HB := bp hb; clear hb; obtain ⟨hcz47_0, hcz47_1, hcz47_2, hcz47_3, hfz47_0, hfz47_1, hfz47_2, hfz47_3⟩ := xc4 BK456))
          (try simp only [Act.put, List.setIfInBounds_toArray, List.set_cons_zero, List.set_cons_succ])
          go_cut [69] (fun v69 wc => ∃ (kq : Nat) (x69_33 : Bool), v69 = .bool x69_33 ∧ Aside0 (dioramaref10_Faster.j2 kq l0 a1 a2 a3 a4 t479 x13_2 x14_2 x69_33 t478 ((rd_T77 l0 x14_2).f1) ((rd_T77 l0 x14_2).f2) ((rd_T77 l0 x14_2).f3) = some (r1, r2)) ∧ Aside0 (kq ≤ k2) ∧ Aside0 (Kd.R k77 77 wc w.heap.size (fun k_ => k_ ≠ gb456) u13 x13_2) ∧ Aside0 (wc.heap[gb456]? = some (.cells #[.int .i64 t478, .int .i64 ((rd_T77 l0 x14_2).f1), .int .i64 ((rd_T77 l0 x14_2).f2), .int .i64 ((rd_T77 l0 x14_2).f3)] 77 (0, 0))) ∧ Aside0 (Below w.heap.size w wc))
          case first =>
           have H := HC34.out; clear HC34; obtain ⟨t480, A48, H⟩ := ob H
           by_cases c49 : t480 = true
           ·subst c49; rw [if_pos rfl] at H; have H' := Aside0.mk H; clear H; obtain ⟨hcz50_0, hcz50_1, hcz50_2, hcz50_3, hfz50_0, hfz50_1, hfz50_2, hfz50_3⟩ := xc4 BK456
            go_wp2_with (first | ((with_reducible refine gate_callee (f := 74) rfl ?_); refine zC 63 Try.func74 #[.agg #[.int .i64 t478, .int .i64 ((rd_T77 l0 x14_2).f1), .int .i64 ((rd_T77 l0 x14_2).f2), .int .i64 ((rd_T77 l0 x14_2).f3)]] ?_; (with_reducible refine (dioramaref10_isEmpty.calls t478 ((rd_T77 l0 x14_2).f1) ((rd_T77 l0 x14_2).f2) ((rd_T77 l0 x14_2).f3) true _ A48.out).mono ?_); rintro e w51 ⟨rfl, hb⟩; refine ⟨_, rfl, ?_⟩; replace HO_13 := Aside0.mk (Kd.R_below (by (with_reducible repeat (first | apply Kd.R_alloc | apply Kd.R_drewN | apply Kd.R_drew)); exact (Kd.R_mono (Kd.R_far (p := ⟨gb456, 0, none⟩) (Kd.R_mono HO_13.out (fun k_ hk => (⟨hk, hk.2⟩ : _ ∧ k_ ≠ gb456))) (fun _ hk => hk.2) (.int .i64 t478)) (fun _ h_ => h_.1))) hb); replace HO460 := Aside0.mk (Kd.R_below (by (with_reducible repeat (first | apply Kd.R_alloc | apply Kd.R_drewN | apply Kd.R_drew)); exact (Kd.R_mono (Kd.R_far (p := ⟨gb456, 0, none⟩) (Kd.R_types HO460.out BK456.out (by decide)) (fun _ hk => hk.2) (.int .i64 t478)) (fun _ h_ => h_.1))) hb); replace HO463 := Aside0.mk (Kd.R_below (by (with_reducible repeat (first | apply Kd.R_alloc | apply Kd.R_drewN | apply Kd.R_drew)); exact (Kd.R_mono (Kd.R_far (p := ⟨gb456, 0, none⟩) (Kd.R_types HO463.out BK456.out (by decide)) (fun _ hk => hk.2) (.int .i64 t478)) (fun _ h_ => h_.1))) hb); replace HO467 := Aside0.mk (Kd.R_below (by (with_reducible repeat (first | apply Kd.R_alloc | apply Kd.R_drewN | apply Kd.R_drew)); exact (Kd.R_mono (Kd.R_far (p := ⟨gb456, 0, none⟩) (Kd.R_types HO467.out BK456.out (by decide)) (fun _ hk => hk.2) (.int .i64 t478)) (fun _ h_ => h_.1))) hb); replace HO470 := Aside0.mk (Kd.R_below (by (with_reducible repeat (first | apply Kd.R_alloc | apply Kd.R_drewN | apply Kd.R_drew)); exact (Kd.R_mono (Kd.R_far (p := ⟨gb456, 0, none⟩) (Kd.R_types HO470.out BK456.out (by decide)) (fun _ hk => hk.2) (.int .i64 t478)) (fun _ h_ => h_.1))) hb); replace HO474 := Aside0.mk (Kd.R_below (by (with_reducible repeat (first | apply Kd.R_alloc | apply Kd.R_drewN | apply Kd.R_drew)); exact (Kd.R_mono (Kd.R_far (p := ⟨gb456, 0, none⟩) (Kd.R_types HO474.out BK456.out (by decide)) (fun _ hk => hk.2) (.int .i64 t478)) (fun _ h_ => h_.1))) hb); replace HO477 := Aside0.mk (Kd.R_below (by (with_reducible repeat (first | apply Kd.R_alloc | apply Kd.R_drewN | apply Kd.R_drew)); exact (Kd.R_mono (Kd.R_far (p := ⟨gb456, 0, none⟩) (Kd.R_types HO477.out BK456.out (by decide)) (fun _ hk => hk.2) (.int .i64 t478)) (fun _ h_ => h_.1))) hb); replace BK456 := Aside0.mk (blk_below (g := gb456) (o := .cells #[.int .i64 t478, .int .i64 ((rd_T77 l0 x14_2).f1), .int .i64 ((rd_T77 l0 x14_2).f2), .int .i64 ((rd_T77 l0 x14_2).f3)] 77 (0, 0)) (by (with_reducible repeat (first | refine blk_drewN ?_ _ | refine blk_drew ?_ | refine blk_alloc ?_ _)); refine blk_put (cs := #[.int .i64 ((rd_T77 l0 x14_2).f0), .int .i64 ((rd_T77 l0 x14_2).f1), .int .i64 ((rd_T77 l0 x14_2).f2), .int .i64 ((rd_T77 l0 x14_2).f3)]) ?_ 0 _ rfl; (with_reducible repeat (first | refine blk_drewN ?_ _ | refine blk_drew ?_ | refine blk_alloc ?_ _)); exact BK456.out) hb); replace HB := bp hb; clear hb))
            go_meet
            case rel => exact ⟨_, (false), jz, H', ⟨by have := HJ7.out; have := HK2.out; first | omega | exact Nat.le_refl _⟩, ⟨by (with_reducible repeat (first | apply Kd.R_alloc | apply Kd.R_drewN | apply Kd.R_drew)); exact Kd.R_mono HO_13.out (fun _ hk => hk.2)⟩, ⟨kz⟩, ⟨bz⟩⟩
           ·obtain rfl := bf c49; rw [if_neg (show ¬ (false = true) by decide)] at H; have H' := Aside0.mk H; clear H; obtain ⟨hcz52_0, hcz52_1, hcz52_2, hcz52_3, hfz52_0, hfz52_1, hfz52_2, hfz52_3⟩ := xc4 BK456
            go_wp2_with (first | ((with_reducible refine gate_callee (f := 74) rfl ?_); refine zC 63 Try.func74 #[.agg #[.int .i64 t478, .int .i64 ((rd_T77 l0 x14_2).f1), .int .i64 ((rd_T77 l0 x14_2).f2), .int .i64 ((rd_T77 l0 x14_2).f3)]] ?_; (with_reducible refine (dioramaref10_isEmpty.calls t478 ((rd_T77 l0 x14_2).f1) ((rd_T77 l0 x14_2).f2) ((rd_T77 l0 x14_2).f3) false _ A48.out).mono ?_); rintro e w53 ⟨rfl, hb⟩; refine ⟨_, rfl, ?_⟩; replace HO_13 := Aside0.mk (Kd.R_below (by (with_reducible repeat (first | apply Kd.R_alloc | apply Kd.R_drewN | apply Kd.R_drew)); exact (Kd.R_mono (Kd.R_far (p := ⟨gb456, 0, none⟩) (Kd.R_mono HO_13.out (fun k_ hk => (⟨hk, hk.2⟩ : _ ∧ k_ ≠ gb456))) (fun _ hk => hk.2) (.int .i64 t478)) (fun _ h_ => h_.1))) hb); replace HO460 := Aside0.mk (Kd.R_below (by (with_reducible repeat (first | apply Kd.R_alloc | apply Kd.R_drewN | apply Kd.R_drew)); exact (Kd.R_mono (Kd.R_far (p := ⟨gb456, 0, none⟩) (Kd.R_types HO460.out BK456.out (by decide)) (fun _ hk => hk.2) (.int .i64 t478)) (fun _ h_ => h_.1))) hb); replace HO463 := Aside0.mk (Kd.R_below (by (with_reducible repeat (first | apply Kd.R_alloc | apply Kd.R_drewN | apply Kd.R_drew)); exact (Kd.R_mono (Kd.R_far (p := ⟨gb456, 0, none⟩) (Kd.R_types HO463.out BK456.out (by decide)) (fun _ hk => hk.2) (.int .i64 t478)) (fun _ h_ => h_.1))) hb); replace HO467 := Aside0.mk (Kd.R_below (by (with_reducible repeat (first | apply Kd.R_alloc | apply Kd.R_drewN | apply Kd.R_drew)); exact (Kd.R_mono (Kd.R_far (p := ⟨gb456, 0, none⟩) (Kd.R_types HO467.out BK456.out (by decide)) (fun _ hk => hk.2) (.int .i64 t478)) (fun _ h_ => h_.1))) hb); replace HO470 := Aside0.mk (Kd.R_below (by (with_reducible repeat (first | apply Kd.R_alloc | apply Kd.R_drewN | apply Kd.R_drew)); exact (Kd.R_mono (Kd.R_far (p := ⟨gb456, 0, none⟩) (Kd.R_types HO470.out BK456.out (by decide)) (fun _ hk => hk.2) (.int .i64 t478)) (fun _ h_ => h_.1))) hb); replace HO474 := Aside0.mk (Kd.R_below (by (with_reducible repeat (first | apply Kd.R_alloc | apply Kd.R_drewN | apply Kd.R_drew)); exact (Kd.R_mono (Kd.R_far (p := ⟨gb456, 0, none⟩) (Kd.R_types HO474.out BK456.out (by decide)) (fun _ hk => hk.2) (.int .i64 t478)) (fun _ h_ => h_.1))) hb); replace HO477 := Aside0.mk (Kd.R_below (by (with_reducible repeat (first | apply Kd.R_alloc | apply Kd.R_drewN | apply Kd.R_drew)); exact (Kd.R_mono (Kd.R_far (p := ⟨gb456, 0, none⟩) (Kd.R_types HO477.out BK456.out (by decide)) (fun _ hk => hk.2) (.int .i64 t478)) (fun _ h_ => h_.1))) hb); replace BK456 := Aside0.mk (blk_below (g := gb456) (o := .cells #[.int .i64 t478, .int .i64 ((rd_T77 l0 x14_2).f1), .int .i64 ((rd_T77 l0 x14_2).f2), .int .i64 ((rd_T77 l0 x14_2).f3)] 77 (0, 0)) (by (with_reducible repeat (first | refine blk_drewN ?_ _ | refine blk_drew ?_ | refine blk_alloc ?_ _)); refine blk_put (cs := #[.int .i64 ((rd_T77 l0 x14_2).f0), .int .i64 ((rd_T77 l0 x14_2).f1), .int .i64 ((rd_T77 l0 x14_2).f2), .int .i64 ((rd_T77 l0 x14_2).f3)]) ?_ 0 _ rfl; (with_reducible repeat (first | refine blk_drewN ?_ _ | refine blk_drew ?_ | refine blk_alloc ?_ _)); exact BK456.out) hb); replace HB := bp hb; clear hb; obtain ⟨hcz54_0, hcz54_1, hcz54_2, hcz54_3, hfz54_0, hfz54_1, hfz54_2, hfz54_3⟩ := xc4 BK456))
            go_meet
            case rel => exact ⟨_, (decide (((rd_T77 l0 x14_2).f2) > 0)), jz, H', ⟨by have := HJ7.out; have := HK2.out; first | omega | exact Nat.le_refl _⟩, ⟨by (with_reducible repeat (first | apply Kd.R_alloc | apply Kd.R_drewN | apply Kd.R_drew)); exact Kd.R_mono HO_13.out (fun _ hk => hk.2)⟩, ⟨kz⟩, ⟨bz⟩⟩
          case rest =>
           clear HC34
           try clear c1
           try clear c2
           try clear p2
           try clear c4
           try clear p4
           try clear q4
           try clear hx4
           try clear c6
           try clear c7
           try clear c7b0
           try clear c7b1
           try clear c10
           try clear c10b0
           try clear c11
           try clear c11b0
           try clear c12
           try clear c12b0
           try clear c13
           try clear c14
           try clear c14b0
           try clear c15
           try clear c15b0
           try clear c20
           try clear c20b0
           try clear c20b1
           try clear c25
           try clear c29
           try clear p45
           try clear q45
           try clear hx45
           try clear c49
           try clear hcz22_0
           try clear hcz22_1
           try clear hcz22_2
           try clear hcz22_3
           try clear hcz33_0
           try clear hcz33_1
           try clear hcz33_2
           try clear hcz33_3
           try clear hcz36_0
           try clear hcz36_1
           try clear hcz36_2
           try clear hcz36_3
           try clear hcz47_0
           try clear hcz47_1
           try clear hcz47_2
           try clear hcz47_3
           try clear hcz50_0
           try clear hcz50_1
           try clear hcz50_2
           try clear hcz50_3
           try clear hcz52_0
           try clear hcz52_1
           try clear hcz52_2
           try clear hcz52_3
           try clear hcz54_0
           try clear hcz54_1
           try clear hcz54_2
           try clear hcz54_3
           try clear hfz22_0
           try clear hfz22_1
           try clear hfz22_2
           try clear hfz22_3
           try clear hfz33_0
           try clear hfz33_1
           try clear hfz33_2
           try clear hfz33_3
           try clear hfz36_0
           try clear hfz36_1
           try clear hfz36_2
           try clear hfz36_3
           try clear hfz47_0
           try clear hfz47_1
           try clear hfz47_2
           try clear hfz47_3
           try clear hfz50_0
           try clear hfz50_1
           try clear hfz50_2
           try clear hfz50_3
           try clear hfz52_0
           try clear hfz52_1
           try clear hfz52_2
           try clear hfz52_3
           try clear hfz54_0
           try clear hfz54_1
           try clear hfz54_2
           try clear hfz54_3
           try clear hx455_0
           try clear hx455_1
           try clear hx455_2
           try clear hx455_3
           try clear p2
           try clear p455
           try clear q455
           obtain ⟨kq, x69_33, rfl, HA, HJ33, HO_13, BK456, HB⟩ := hcut
           cases kq with
           | zero => exact absurd HA.out (by simp [dioramaref10_Faster.j2])
           | succ kj33 =>
            have H := HA.out; clear HA; simp only [dioramaref10_Faster.j2] at H
            by_cases c55 : x69_33 = true
            ·subst c55; rw [if_pos rfl] at H; obtain ⟨⟨t481, t482, t483, t484⟩, A56, H⟩ := ob H
             (try dsimp only at H)
             have HC57 := Aside0.mk H; clear H; obtain ⟨hcz58_0, hcz58_1, hcz58_2, hcz58_3, hfz58_0, hfz58_1, hfz58_2, hfz58_3⟩ := xc4 BK456
             go_upto_region 18 with (first | ((with_reducible refine gate_callee (f := 75) rfl ?_); refine zC 81 Try.func75 #[.agg #[.int .i64 t478, .int .i64 ((rd_T77 l0 x14_2).f1), .int .i64 (wrap64 (((rd_T77 l0 x14_2).f2) * a3)), .int .i64 (wrap64 (((rd_T77 l0 x14_2).f3) * a4))]] ?_; (with_reducible refine (dioramaref10_lowest.calls t478 ((rd_T77 l0 x14_2).f1) (wrap64 (((rd_T77 l0 x14_2).f2) * a3)) (wrap64 (((rd_T77 l0 x14_2).f3) * a4)) t481 t482 t483 t484 _ A56.out).mono ?_); rintro e w59 ⟨rfl, hb⟩; refine ⟨_, rfl, ?_⟩; replace HO_13 := Aside0.mk (Kd.R_below (by (with_reducible repeat (first | apply Kd.R_alloc | apply Kd.R_drewN | apply Kd.R_drew)); exact (Kd.R_mono (Kd.R_far (p := ⟨gb456, 3, none⟩) (Kd.R_far (p := ⟨gb456, 2, none⟩) (Kd.R_mono HO_13.out (fun k_ hk => (⟨hk, hk⟩ : _ ∧ k_ ≠ gb456))) (fun _ hk => hk.2) (.int .i64 (wrap64 (((rd_T77 l0 x14_2).f2) * a3)))) (fun _ hk => hk.2) (.int .i64 (wrap64 (((rd_T77 l0 x14_2).f3) * a4)))) (fun _ h_ => h_.1))) hb); replace BK456 := Aside0.mk (blk_below (g := gb456) (o := .cells #[.int .i64 t478, .int .i64 ((rd_T77 l0 x14_2).f1), .int .i64 (wrap64 (((rd_T77 l0 x14_2).f2) * a3)), .int .i64 (wrap64 (((rd_T77 l0 x14_2).f3) * a4))] 77 (0, 0)) (by (with_reducible repeat (first | refine blk_drewN ?_ _ | refine blk_drew ?_ | refine blk_alloc ?_ _)); refine blk_put (cs := #[.int .i64 t478, .int .i64 ((rd_T77 l0 x14_2).f1), .int .i64 (wrap64 (((rd_T77 l0 x14_2).f2) * a3)), .int .i64 ((rd_T77 l0 x14_2).f3)]) ?_ 3 _ rfl; (with_reducible repeat (first | refine blk_drewN ?_ _ | refine blk_drew ?_ | refine blk_alloc ?_ _)); refine blk_put (cs := #[.int .i64 t478, .int .i64 ((rd_T77 l0 x14_2).f1), .int .i64 ((rd_T77 l0 x14_2).f2), .int .i64 ((rd_T77 l0 x14_2).f3)]) ?_ 2 _ rfl; (with_reducible repeat (first | refine blk_drewN ?_ _ | refine blk_drew ?_ | refine blk_alloc ?_ _)); exact BK456.out) hb); replace HB := bp hb; clear hb; obtain ⟨hcz60_0, hcz60_1, hcz60_2, hcz60_3, hfz60_0, hfz60_1, hfz60_2, hfz60_3⟩ := xc4 BK456))
             (try simp only [Act.put, List.setIfInBounds_toArray, List.set_cons_zero, List.set_cons_succ])
             go_cut [89] (fun v89 wc => ∃ (kq : Nat) (x89_56 : Bool), v89 = .bool x89_56 ∧ Aside0 (dioramaref10_Faster.j3 kq l0 a1 a2 a3 a4 t479 x13_2 x14_2 x89_56 t481 t482 t483 t484 = some (r1, r2)) ∧ Aside0 (kq ≤ kj33) ∧ Aside0 (Kd.R k77 77 wc w.heap.size (fun k_ => k_ ≠ gb456) u13 x13_2) ∧ Aside0 (wc.heap[gb456]? = some (.cells #[.int .i64 t481, .int .i64 t482, .int .i64 t483, .int .i64 t484] 77 (0, 0))) ∧ Aside0 (Below w.heap.size w wc))
             case first =>
              have H := HC57.out; clear HC57
              by_cases c61 : t483 > 1000
              ·rw [if_pos c61] at H; have c61b0 : decide (1000 < t483) = true := decide_eq_true c61; clear c61
               (first | rw [c61b0] | (simp only [i64_w, i32_w]; rw [c61b0]) | skip)
               have H' := Aside0.mk H; clear H; obtain ⟨hcz62_0, hcz62_1, hcz62_2, hcz62_3, hfz62_0, hfz62_1, hfz62_2, hfz62_3⟩ := xc4 BK456
               go_wp2
               go_meet
               case rel => exact ⟨_, (true), jz, H', ⟨by have := HJ7.out; have := HK2.out; have := HJ33.out; first | omega | exact Nat.le_refl _⟩, ⟨by (with_reducible repeat (first | apply Kd.R_alloc | apply Kd.R_drewN | apply Kd.R_drew)); exact Kd.R_mono (Kd.R_far (p := ⟨gb456, 3, none⟩) (Kd.R_far (p := ⟨gb456, 2, none⟩) (Kd.R_far (p := ⟨gb456, 1, none⟩) (Kd.R_far (p := ⟨gb456, 0, none⟩) (Kd.R_mono HO_13.out (fun k_ hk => (⟨hk, hk⟩ : _ ∧ k_ ≠ gb456))) (fun _ hk => hk.2) (.int .i64 t481)) (fun _ hk => hk.2) (.int .i64 t482)) (fun _ hk => hk.2) (.int .i64 t483)) (fun _ hk => hk.2) (.int .i64 t484)) (fun _ hk => hk.1)⟩, ⟨by (with_reducible repeat (first | refine blk_drewN ?_ _ | refine blk_drew ?_ | refine blk_alloc ?_ _)); refine blk_put (cs := #[.int .i64 t481, .int .i64 t482, .int .i64 t483, .int .i64 (wrap64 (((rd_T77 l0 x14_2).f3) * a4))]) ?_ 3 _ rfl; (with_reducible repeat (first | refine blk_drewN ?_ _ | refine blk_drew ?_ | refine blk_alloc ?_ _)); refine blk_put (cs := #[.int .i64 t481, .int .i64 t482, .int .i64 (wrap64 (((rd_T77 l0 x14_2).f2) * a3)), .int .i64 (wrap64 (((rd_T77 l0 x14_2).f3) * a4))]) ?_ 2 _ rfl; (with_reducible repeat (first | refine blk_drewN ?_ _ | refine blk_drew ?_ | refine blk_alloc ?_ _)); refine blk_put (cs := #[.int .i64 t481, .int .i64 ((rd_T77 l0 x14_2).f1), .int .i64 (wrap64 (((rd_T77 l0 x14_2).f2) * a3)), .int .i64 (wrap64 (((rd_T77 l0 x14_2).f3) * a4))]) ?_ 1 _ rfl; (with_reducible repeat (first | refine blk_drewN ?_ _ | refine blk_drew ?_ | refine blk_alloc ?_ _)); refine blk_put (cs := #[.int .i64 t478, .int .i64 ((rd_T77 l0 x14_2).f1), .int .i64 (wrap64 (((rd_T77 l0 x14_2).f2) * a3)), .int .i64 (wrap64 (((rd_T77 l0 x14_2).f3) * a4))]) ?_ 0 _ rfl; (with_reducible repeat (first | refine blk_drewN ?_ _ | refine blk_drew ?_ | refine blk_alloc ?_ _)); exact BK456.out⟩, ⟨bz⟩⟩
              ·rw [if_neg c61] at H; have c61b0 : decide (1000 < t483) = false := decide_eq_false c61; clear c61
               (first | rw [c61b0] | (simp only [i64_w, i32_w]; rw [c61b0]) | skip)
               have H' := Aside0.mk H; clear H; obtain ⟨hcz63_0, hcz63_1, hcz63_2, hcz63_3, hfz63_0, hfz63_1, hfz63_2, hfz63_3⟩ := xc4 BK456
               go_wp2
               go_meet
               case rel => exact ⟨_, (decide (t484 > 1000)), jz, H', ⟨by have := HJ7.out; have := HK2.out; have := HJ33.out; first | omega | exact Nat.le_refl _⟩, ⟨by (with_reducible repeat (first | apply Kd.R_alloc | apply Kd.R_drewN | apply Kd.R_drew)); exact Kd.R_mono (Kd.R_far (p := ⟨gb456, 3, none⟩) (Kd.R_far (p := ⟨gb456, 2, none⟩) (Kd.R_far (p := ⟨gb456, 1, none⟩) (Kd.R_far (p := ⟨gb456, 0, none⟩) (Kd.R_mono HO_13.out (fun k_ hk => (⟨hk, hk⟩ : _ ∧ k_ ≠ gb456))) (fun _ hk => hk.2) (.int .i64 t481)) (fun _ hk => hk.2) (.int .i64 t482)) (fun _ hk => hk.2) (.int .i64 t483)) (fun _ hk => hk.2) (.int .i64 t484)) (fun _ hk => hk.1)⟩, ⟨by (with_reducible repeat (first | refine blk_drewN ?_ _ | refine blk_drew ?_ | refine blk_alloc ?_ _)); refine blk_put (cs := #[.int .i64 t481, .int .i64 t482, .int .i64 t483, .int .i64 (wrap64 (((rd_T77 l0 x14_2).f3) * a4))]) ?_ 3 _ rfl; (with_reducible repeat (first | refine blk_drewN ?_ _ | refine blk_drew ?_ | refine blk_alloc ?_ _)); refine blk_put (cs := #[.int .i64 t481, .int .i64 t482, .int .i64 (wrap64 (((rd_T77 l0 x14_2).f2) * a3)), .int .i64 (wrap64 (((rd_T77 l0 x14_2).f3) * a4))]) ?_ 2 _ rfl; (with_reducible repeat (first | refine blk_drewN ?_ _ | refine blk_drew ?_ | refine blk_alloc ?_ _)); refine blk_put (cs := #[.int .i64 t481, .int .i64 ((rd_T77 l0 x14_2).f1), .int .i64 (wrap64 (((rd_T77 l0 x14_2).f2) * a3)), .int .i64 (wrap64 (((rd_T77 l0 x14_2).f3) * a4))]) ?_ 1 _ rfl; (with_reducible repeat (first | refine blk_drewN ?_ _ | refine blk_drew ?_ | refine blk_alloc ?_ _)); refine blk_put (cs := #[.int .i64 t478, .int .i64 ((rd_T77 l0 x14_2).f1), .int .i64 (wrap64 (((rd_T77 l0 x14_2).f2) * a3)), .int .i64 (wrap64 (((rd_T77 l0 x14_2).f3) * a4))]) ?_ 0 _ rfl; (with_reducible repeat (first | refine blk_drewN ?_ _ | refine blk_drew ?_ | refine blk_alloc ?_ _)); exact BK456.out⟩, ⟨bz⟩⟩
             case rest =>
              clear HC57
              try clear c1
              try clear c2
              try clear p2
              try clear c4
              try clear p4
              try clear q4
              try clear hx4
              try clear c5
              try clear c6
              try clear p6
              try clear c7
              try clear c7b0
              try clear c7b1
              try clear c10
              try clear c10b0
              try clear c11
              try clear c11b0
              try clear c12
              try clear c12b0
              try clear c13
              try clear c14
              try clear c14b0
              try clear c15
              try clear c15b0
              try clear c20
              try clear c20b0
              try clear c20b1
              try clear c25
              try clear c29
              try clear p45
              try clear q45
              try clear hx45
              try clear c49
              try clear c55
              try clear c61
              try clear c61b0
              try clear hcz22_0
              try clear hcz22_1
              try clear hcz22_2
              try clear hcz22_3
              try clear hcz33_0
              try clear hcz33_1
              try clear hcz33_2
              try clear hcz33_3
              try clear hcz36_0
              try clear hcz36_1
              try clear hcz36_2
              try clear hcz36_3
              try clear hcz47_0
              try clear hcz47_1
              try clear hcz47_2
              try clear hcz47_3
              try clear hcz50_0
              try clear hcz50_1
              try clear hcz50_2
              try clear hcz50_3
              try clear hcz52_0
              try clear hcz52_1
              try clear hcz52_2
              try clear hcz52_3
              try clear hcz54_0
              try clear hcz54_1
              try clear hcz54_2
              try clear hcz54_3
              try clear hcz58_0
              try clear hcz58_1
              try clear hcz58_2
              try clear hcz58_3
              try clear hcz60_0
              try clear hcz60_1
              try clear hcz60_2
              try clear hcz60_3
              try clear hcz62_0
              try clear hcz62_1
              try clear hcz62_2
              try clear hcz62_3
              try clear hcz63_0
              try clear hcz63_1
              try clear hcz63_2
              try clear hcz63_3
              try clear hfz22_0
              try clear hfz22_1
              try clear hfz22_2
              try clear hfz22_3
              try clear hfz33_0
              try clear hfz33_1
              try clear hfz33_2
              try clear hfz33_3
              try clear hfz36_0
              try clear hfz36_1
              try clear hfz36_2
              try clear hfz36_3
              try clear hfz47_0
              try clear hfz47_1
              try clear hfz47_2
              try clear hfz47_3
              try clear hfz50_0
              try clear hfz50_1
              try clear hfz50_2
              try clear hfz50_3
              try clear hfz52_0
              try clear hfz52_1
              try clear hfz52_2
              try clear hfz52_3
              try clear hfz54_0
              try clear hfz54_1
              try clear hfz54_2
              try clear hfz54_3
              try clear hfz58_0
              try clear hfz58_1
              try clear hfz58_2
              try clear hfz58_3
              try clear hfz60_0
              try clear hfz60_1
              try clear hfz60_2
              try clear hfz60_3
              try clear hfz62_0
              try clear hfz62_1
              try clear hfz62_2
              try clear hfz62_3
              try clear hfz63_0
              try clear hfz63_1
              try clear hfz63_2
              try clear hfz63_3
              try clear hx455_0
              try clear hx455_1
              try clear hx455_2
              try clear hx455_3
              try clear p2
              try clear p4
              try clear p45
              try clear p455
              try clear q4
              try clear q45
              try clear q455
              obtain ⟨kq, x89_56, rfl, HA, HJ56, HO_13, BK456, HB⟩ := hcut
              cases kq with
              | zero => exact absurd HA.out (by simp [dioramaref10_Faster.j3])
              | succ kj56 =>
               have H := HA.out; clear HA; simp only [dioramaref10_Faster.j3] at H
               by_cases c64 : x89_56 = true
               ·subst c64; rw [if_pos rfl] at H; simp only [Option.some.injEq, Prod.mk.injEq] at H; obtain ⟨rfl, rfl⟩ := H
                go_wp2
                go_ret2
                exact ⟨_, ez, by first | exact Kd.R_nil _ _ _ _ _ | exact Kd.N_nil _ _ _ _ _ | exact Kd.V_nil _ _ _ _ _ | exact Kd.Q_nil _ _ _ _ _ | exact Kd.S_nil _ _ _ _ _, bz⟩
               ·obtain rfl := bf c64; rw [if_neg (show ¬ (false = true) by decide)] at H
                by_cases c65 : t479 = 0
                ·rw [if_pos c65] at H; have c65b0 : (t479 == 0) = true := beq_iff_eq.mpr c65; have c65b1 : (t479 != 0) = false := bne_eq_false_iff_eq.mpr c65; clear c65
                 by_cases c66 : x13_2.length < 4398046511104
                 ·rw [if_pos c66] at H; have LMc66 := Aside0.mk c66; clear c66; obtain ⟨y485, hy485⟩ : ∃ y_ : List (S77), y_ = (x13_2 ++ [(⟨t481, t482, t483, t484⟩ : S77)]) := ⟨_, rfl⟩; replace H : (dioramaref10_Faster.l0 kj56 l0 a1 a2 a3 a4 y485 (wrap64 (x14_2 + 1))) = some (r1, r2) := by first | (rw [hy485]; with_reducible exact H) | (have H2_ := (Option.bind_some _ _).symm.trans H; rw [hy485]; with_reducible exact H2_) | (have H2_ := (Option.bind_some _ _).symm.trans H; with_reducible exact H2_) | with_reducible exact H | (rw [hy485]; exact H) | exact H
                  have Ny485 := Aside0.mk hy485; clear hy485; have H' := Aside0.mk H; clear H; obtain ⟨hcz67_0, hcz67_1, hcz67_2, hcz67_3, hfz67_0, hfz67_1, hfz67_2, hfz67_3⟩ := xc4 BK456
                  go_wp2_with (first | ((with_reducible refine gate_builtin (b := .append) (xs := #[.tmp 93, .tmp 95]) rfl ?_); at_builtin; refine Kd.R_append k77 (w0 := w) w.heap.size rfl (.tmp 93) (.tmp 95) 22 77 (.agg #[(.int .i64 0), (.int .i64 0), (.int .i64 0), (.int .i64 0)]) 32 rfl Try.underlying22 info77 rfl (by decide) (by omega) u13 x13_2 (⟨t481, t482, t483, t484⟩ : S77) [.int .i64 t481, .int .i64 t482, .int .i64 t483, .int .i64 t484] (fun k_ => k_ ≠ gb456) (fun _ => False) rfl rfl ?aP (fun _ hk => hk.elim) ?aF ?aO ?aB ?aS ?aL ?_; (case aP => exact k77_mkM _ _ _ (⟨t481, t482, t483, t484⟩ : S77)); (case aB => exact bz); (case aF => exact (fun k_ hk => Kd.freshB (g := gb456) (o := .cells #[.int .i64 t481, .int .i64 t482, .int .i64 t483, .int .i64 t484] 77 (0, 0)) kz k_ hk)); (case aO => exact (rz HO_13)); (case aS => exact sz); (case aL => have := LMc66.out; omega); intro v486 w68 ho hb hg hat; rw [← Ny485.out] at ho; replace BK456 := Aside0.mk (blk_grown (g := gb456) (o := .cells #[.int .i64 t481, .int .i64 t482, .int .i64 t483, .int .i64 t484] 77 (0, 0)) kz hg (Kd.R_away HO_13.out (fun _ hk => hk))); replace HB := Aside0.mk (hb); have HO487 := Aside0.mk (ho); clear HO_13; clear ho hb hg hat))
                  go_roundg kj56
                  case measure => have := HJ7.out; have := HK2.out; have := HJ33.out; have := HJ56.out; omega
                  case rel => exact ⟨(y485), (wrap64 (x14_2 + 1)), jz, H', ⟨by have := HJ7.out; have := HK2.out; have := HJ33.out; have := HJ56.out; omega⟩, ⟨by (with_reducible repeat (first | apply Kd.R_alloc | apply Kd.R_drewN | apply Kd.R_drew)); exact Kd.R_mono HO487.out (fun _ hk => trivial)⟩, ⟨bz⟩⟩
                 ·rw [if_neg c66] at H
                  exact absurd H (by simp)
                ·rw [if_neg c65] at H; have c65b0 : (t479 == 0) = false := beq_eq_false_iff_ne.mpr c65; have c65b1 : (t479 != 0) = true := bne_iff_ne.mpr c65; simp only [Option.some.injEq, Prod.mk.injEq] at H; obtain ⟨rfl, rfl⟩ := H
                 go_wp2
                 go_ret2
                 exact ⟨_, ez, by first | exact Kd.R_nil _ _ _ _ _ | exact Kd.N_nil _ _ _ _ _ | exact Kd.V_nil _ _ _ _ _ | exact Kd.Q_nil _ _ _ _ _ | exact Kd.S_nil _ _ _ _ _, bz⟩
            ·obtain rfl := bf c55; rw [if_neg (show ¬ (false = true) by decide)] at H
             by_cases c69 : t479 = 0
             ·rw [if_pos c69] at H; have c69b0 : (t479 == 0) = true := beq_iff_eq.mpr c69; have c69b1 : (t479 != 0) = false := bne_eq_false_iff_eq.mpr c69; clear c69
              by_cases c70 : x13_2.length < 4398046511104
              ·rw [if_pos c70] at H; have LMc70 := Aside0.mk c70; clear c70; obtain ⟨y488, hy488⟩ : ∃ y_ : List (S77), y_ = (x13_2 ++ [(⟨t478, ((rd_T77 l0 x14_2).f1), ((rd_T77 l0 x14_2).f2), ((rd_T77 l0 x14_2).f3)⟩ : S77)]) := ⟨_, rfl⟩; replace H : (dioramaref10_Faster.l0 kj33 l0 a1 a2 a3 a4 y488 (wrap64 (x14_2 + 1))) = some (r1, r2) := by first | (rw [hy488]; with_reducible exact H) | (have H2_ := (Option.bind_some _ _).symm.trans H; rw [hy488]; with_reducible exact H2_) | (have H2_ := (Option.bind_some _ _).symm.trans H; with_reducible exact H2_) | with_reducible exact H | (rw [hy488]; exact H) | exact H
               have Ny488 := Aside0.mk hy488; clear hy488; have H' := Aside0.mk H; clear H; obtain ⟨hcz71_0, hcz71_1, hcz71_2, hcz71_3, hfz71_0, hfz71_1, hfz71_2, hfz71_3⟩ := xc4 BK456
               go_wp2_with (first | ((with_reducible refine gate_builtin (b := .append) (xs := #[.tmp 93, .tmp 95]) rfl ?_); at_builtin; refine Kd.R_append k77 (w0 := w) w.heap.size rfl (.tmp 93) (.tmp 95) 22 77 (.agg #[(.int .i64 0), (.int .i64 0), (.int .i64 0), (.int .i64 0)]) 32 rfl Try.underlying22 info77 rfl (by decide) (by omega) u13 x13_2 (⟨t478, ((rd_T77 l0 x14_2).f1), ((rd_T77 l0 x14_2).f2), ((rd_T77 l0 x14_2).f3)⟩ : S77) [.int .i64 t478, .int .i64 ((rd_T77 l0 x14_2).f1), .int .i64 ((rd_T77 l0 x14_2).f2), .int .i64 ((rd_T77 l0 x14_2).f3)] (fun k_ => k_ ≠ gb456) (fun _ => False) rfl rfl ?aP (fun _ hk => hk.elim) ?aF ?aO ?aB ?aS ?aL ?_; (case aP => exact k77_mkM _ _ _ (⟨t478, ((rd_T77 l0 x14_2).f1), ((rd_T77 l0 x14_2).f2), ((rd_T77 l0 x14_2).f3)⟩ : S77)); (case aB => exact bz); (case aF => exact (fun k_ hk => Kd.freshB (g := gb456) (o := .cells #[.int .i64 t478, .int .i64 ((rd_T77 l0 x14_2).f1), .int .i64 ((rd_T77 l0 x14_2).f2), .int .i64 ((rd_T77 l0 x14_2).f3)] 77 (0, 0)) kz k_ hk)); (case aO => exact (rz HO_13)); (case aS => exact sz); (case aL => have := LMc70.out; omega); intro v489 w72 ho hb hg hat; rw [← Ny488.out] at ho; replace BK456 := Aside0.mk (blk_grown (g := gb456) (o := .cells #[.int .i64 t478, .int .i64 ((rd_T77 l0 x14_2).f1), .int .i64 ((rd_T77 l0 x14_2).f2), .int .i64 ((rd_T77 l0 x14_2).f3)] 77 (0, 0)) kz hg (Kd.R_away HO_13.out (fun _ hk => hk))); replace HB := Aside0.mk (hb); have HO490 := Aside0.mk (ho); clear HO_13; clear ho hb hg hat))
               go_roundg kj33
               case measure => have := HJ7.out; have := HK2.out; have := HJ33.out; omega
               case rel => exact ⟨(y488), (wrap64 (x14_2 + 1)), jz, H', ⟨by have := HJ7.out; have := HK2.out; have := HJ33.out; omega⟩, ⟨by (with_reducible repeat (first | apply Kd.R_alloc | apply Kd.R_drewN | apply Kd.R_drew)); exact Kd.R_mono HO490.out (fun _ hk => trivial)⟩, ⟨bz⟩⟩
              ·rw [if_neg c70] at H
               exact absurd H (by simp)
             ·rw [if_neg c69] at H; have c69b0 : (t479 == 0) = false := beq_eq_false_iff_ne.mpr c69; have c69b1 : (t479 != 0) = true := bne_iff_ne.mpr c69; simp only [Option.some.injEq, Prod.mk.injEq] at H; obtain ⟨rfl, rfl⟩ := H
              go_wp2
              go_ret2
              exact ⟨_, ez, by first | exact Kd.R_nil _ _ _ _ _ | exact Kd.N_nil _ _ _ _ _ | exact Kd.V_nil _ _ _ _ _ | exact Kd.Q_nil _ _ _ _ _ | exact Kd.S_nil _ _ _ _ _, bz⟩
        ·rw [if_neg c15] at H
         exact absurd H (by simp)
       ·rw [if_neg c14] at H; have c14b0 : decide (x14_2 < (l0.length : Int)) = false := decide_eq_false c14; clear c14; obtain ⟨⟨t451, t452⟩, A73, H⟩ := ob H
        (try dsimp only at H)
        simp only [Option.some.injEq, Prod.mk.injEq] at H; obtain ⟨rfl, rfl⟩ := H; obtain ⟨Ao74, co74, eo74⟩ := Kd.R_slice HO_13.out; subst eo74
        go_wp2_with (first | ((with_reducible refine gate_callee (f := 58) rfl ?_); refine zC 100 Try.func58 #[.slice Ao74 x13_2.length co74, .int .i64 a1, .int .i64 a2] ?_; (with_reducible refine (dioramaref10_told.calls k2 _ _ x13_2 a1 a2 t451 t452 _ ?side1 ?side2 A73.out).mono ?_); (case side1 => exact cr HO_13); (case side2 => exact (Kd.R_reads' HO_13.out).2.1); rintro e w75 ⟨v453, rfl, ho0, hb⟩; refine ⟨_, rfl, ?_⟩; have HO454 := Aside0.mk (Kd.R_lower (Kd.R_new' ho0 (Kd.R_lt (rz HO_13))) sz); replace HO_13 := Aside0.mk (Kd.R_elder' (rz HO_13) (Kd.R_base ho0) hb); replace HB := bp hb; clear hb ho0))
        go_ret2
        exact ⟨_, ez, by (with_reducible repeat (first | apply Kd.R_alloc | apply Kd.R_drewN | apply Kd.R_drew)); exact Kd.R_mono HO454.out (fun _ hk => trivial), bz⟩
 ·rw [if_neg c7] at H; have c7b0 : (t450 == 0) = false := beq_eq_false_iff_ne.mpr c7; have c7b1 : (t450 != 0) = true := bne_iff_ne.mpr c7; simp only [Option.some.injEq, Prod.mk.injEq] at H; obtain ⟨rfl, rfl⟩ := H
  go_enter Try.func29, Try.ntmps29
  go_wp2_with (first | ((with_reducible refine gate_callee (f := 25) rfl ?_); refine zC 19 Try.func25 #[.slice A0 l0.length c0, .int .i64 a1, .int .i64 a2] ?_; (with_reducible refine (dioramaref10_Check.calls k _ _ l0 a1 a2 t450 _ ?side1 ?side2 A6.out).mono ?_); (case side1 => repeat (first | exact HR0.out | (with_reducible refine Kd.C_alloc ?_ _) | (with_reducible refine Kd.C_drewN ?_ _) | (with_reducible refine Kd.C_drew ?_))); (case side2 => exact HC0.out); rintro e w76 ⟨rfl, hb⟩; refine ⟨_, rfl, ?_⟩; replace HB := bp hb; clear hb))
  go_ret2
  exact ⟨_, ez, by first | exact Kd.R_nil _ _ _ _ _ | exact Kd.N_nil _ _ _ _ _ | exact Kd.V_nil _ _ _ _ _ | exact Kd.Q_nil _ _ _ _ _ | exact Kd.S_nil _ _ _ _ _, bz⟩
def dioramalaw10_EditFaster.f (k : Nat) (l0_0 : List (S77)) (a0_1 : Int) (a0_2 : Int) (a1 : Int) (a2 : Int) : Option (Bool) := (dioramalaw10_many.f l0_0).bind fun t492 => (if t492 = true then ((dioramalaw10_awake.f k).bind fun t493 => (some t493)) else ((edit_Faster.f k l0_0 a0_1 a0_2 a1 a2).bind fun bt494 => ((dioramaref10_Faster.f k l0_0 a0_1 a0_2 a1 a2).bind fun bt498 => ((dioramalaw10_eq.f k bt494.1 bt494.2 bt498.1 bt498.2).bind fun t502 => (if t502 = true then ((dioramalaw10_awake.f k).bind fun t503 => (some t503)) else (some false))))))
set_option maxHeartbeats 8000000 in
set_option maxRecDepth 100000 in
theorem dioramalaw10_EditFaster.calls (k : Nat) (A0_0 : Option Addr) (c0_0 : Nat) (l0_0 : List (S77)) (a0_1 : Int) (a0_2 : Int) (a1 : Int) (a2 : Int) (r : Bool) (w : World) (hr0_0 : Kd.C k77 w A0_0 l0_0.length l0_0) (hc0_0 : l0_0.length ≤ c0_0) (h : dioramalaw10_EditFaster.f k l0_0 a0_1 a0_2 a1 a2 = some r) :
  Calls Try.prog 4 #[.agg #[.slice A0_0 l0_0.length c0_0, .int .i64 a0_1, .int .i64 a0_2], .int .i64 a1, .int .i64 a2] w fun e w' => e = .returned (.bool r) ∧ Below w.heap.size w w' := by
 have hu24 := Try.underlying24; have HR0_0 := Aside0.mk hr0_0; have HC0_0 := Aside0.mk hc0_0; clear hr0_0 hc0_0; have HB := Aside0.mk (Below.refl w.heap.size w); have H : ((dioramalaw10_many.f l0_0).bind fun t492 => (if t492 = true then ((dioramalaw10_awake.f k).bind fun t493 => (some t493)) else ((edit_Faster.f k l0_0 a0_1 a0_2 a1 a2).bind fun bt494 => ((dioramaref10_Faster.f k l0_0 a0_1 a0_2 a1 a2).bind fun bt498 => ((dioramalaw10_eq.f k bt494.1 bt494.2 bt498.1 bt498.2).bind fun t502 => (if t502 = true then ((dioramalaw10_awake.f k).bind fun t503 => (some t503)) else (some false))))))) = some r := h
 clear h; obtain ⟨t492, A4, H⟩ := ob H
 by_cases c5 : t492 = true
 ·subst c5; rw [if_pos rfl] at H; obtain ⟨t493, A6, H⟩ := ob H; obtain rfl := Option.some.inj H
  go_enter Try.func4, Try.ntmps4
  go_wp2_with (first | ((with_reducible refine gate_dst (N := 3) rfl ?_); refine zB 3 24 #[.slice A0_0 l0_0.length c0_0, .int .i64 a0_1, .int .i64 a0_2] ?_; intro gb491 hg w7 hbox hb; have BK491 := Aside0.mk hbox; have GW491 := gz hg; have GE491 := gz hg; replace HB := bp hb; clear hb hbox hg; obtain ⟨hcz8_0, hcz8_1, hcz8_2, hfz8_0, hfz8_1, hfz8_2⟩ := xc3 BK491) | ((with_reducible refine gate_callee (f := 19) rfl ?_); refine zC 13 Try.func19 #[.slice A0_0 l0_0.length c0_0] ?_; (with_reducible refine (dioramalaw10_many.calls _ _ l0_0 true _ ?side1 ?side2 A4.out).mono ?_); (case side1 => exact cz HR0_0); (case side2 => exact HC0_0.out); rintro e w' ⟨rfl, ⟨nd, rfl⟩⟩; refine ⟨_, rfl, ?_⟩) | ((with_reducible refine gate_callee (f := 20) rfl ?_); refine zC 14 Try.func20 #[] ?_; (with_reducible refine (dioramalaw10_awake.calls k  t493 _ A6.out).mono ?_); rintro e w9 ⟨rfl, hb⟩; refine ⟨_, rfl, ?_⟩; replace BK491 := kb BK491 hb; replace HB := bp hb; clear hb))
  go_ret
  exact ⟨ez, bz⟩
 ·obtain rfl := bf c5; rw [if_neg (show ¬ (false = true) by decide)] at H; obtain ⟨⟨t494, t495⟩, A10, H⟩ := ob H
  (try dsimp only at H)
  obtain ⟨⟨t498, t499⟩, A11, H⟩ := ob H
  (try dsimp only at H)
  obtain ⟨t502, A12, H⟩ := ob H
  by_cases c13 : t502 = true
  ·subst c13; rw [if_pos rfl] at H; obtain ⟨t503, A14, H⟩ := ob H; obtain rfl := Option.some.inj H
   go_enter Try.func4, Try.ntmps4
   go_wp2_with (first | ((with_reducible refine gate_dst (N := 3) rfl ?_); refine zB 3 24 #[.slice A0_0 l0_0.length c0_0, .int .i64 a0_1, .int .i64 a0_2] ?_; intro gb491 hg w15 hbox hb; have BK491 := Aside0.mk hbox; have GW491 := gz hg; have GE491 := gz hg; replace HB := bp hb; clear hb hbox hg; obtain ⟨hcz16_0, hcz16_1, hcz16_2, hfz16_0, hfz16_1, hfz16_2⟩ := xc3 BK491) | ((with_reducible refine gate_callee (f := 19) rfl ?_); refine zC 13 Try.func19 #[.slice A0_0 l0_0.length c0_0] ?_; (with_reducible refine (dioramalaw10_many.calls _ _ l0_0 false _ ?side1 ?side2 A4.out).mono ?_); (case side1 => exact cz HR0_0); (case side2 => exact HC0_0.out); rintro e w' ⟨rfl, ⟨nd, rfl⟩⟩; refine ⟨_, rfl, ?_⟩) | ((with_reducible refine gate_callee (f := 28) rfl ?_); refine zC 24 Try.func28 #[.slice A0_0 l0_0.length c0_0, .int .i64 a0_1, .int .i64 a0_2, .int .i64 a1, .int .i64 a2] ?_; (with_reducible refine (edit_Faster.calls k _ _ l0_0 a0_1 a0_2 a1 a2 t494 t495 _ ?side1 ?side2 A10.out).mono ?_); (case side1 => repeat (first | exact (Kd.C_below HR0_0.out bz) | (with_reducible refine Kd.C_alloc ?_ _) | (with_reducible refine Kd.C_drewN ?_ _) | (with_reducible refine Kd.C_drew ?_))); (case side2 => exact HC0_0.out); rintro e w17 ⟨v496, rfl, ho0, hb⟩; refine ⟨_, rfl, ?_⟩; have HO497 := Aside0.mk (Kd.R_lower ho0 sz); replace BK491 := kb BK491 hb; replace HB := bp hb; clear hb ho0; obtain ⟨hcz18_0, hcz18_1, hcz18_2, hfz18_0, hfz18_1, hfz18_2⟩ := xc3 BK491) | ((with_reducible refine gate_callee (f := 29) rfl ?_); refine zC 36 Try.func29 #[.slice A0_0 l0_0.length c0_0, .int .i64 a0_1, .int .i64 a0_2, .int .i64 a1, .int .i64 a2] ?_; (with_reducible refine (dioramaref10_Faster.calls k _ _ l0_0 a0_1 a0_2 a1 a2 t498 t499 _ ?side1 ?side2 A11.out).mono ?_); (case side1 => exact cz HR0_0); (case side2 => exact HC0_0.out); rintro e w19 ⟨v500, rfl, ho0, hb⟩; refine ⟨_, rfl, ?_⟩; have HO501 := Aside0.mk (Kd.R_lower (Kd.R_new' ho0 (Kd.R_lt (rz HO497))) sz); replace HO497 := Aside0.mk (Kd.R_elder' (rz HO497) (Kd.R_base ho0) hb); replace BK491 := kb BK491 hb; replace HB := bp hb; clear hb ho0; obtain ⟨Ao20, co20, eo20⟩ := Kd.R_slice HO497.out; subst eo20; obtain ⟨Ao21, co21, eo21⟩ := Kd.R_slice HO501.out; subst eo21) | ((with_reducible refine gate_callee (f := 23) rfl ?_); refine zC 43 Try.func23 #[.slice Ao20 t494.length co20, .int .i64 t495, .slice Ao21 t498.length co21, .int .i64 t499] ?_; (with_reducible refine (dioramalaw10_eq.calls k _ _ t494 t495 _ _ t498 t499 true _ ?side1 ?side2 ?side3 ?side4 A12.out).mono ?_); (case side1 => exact cr HO497); (case side2 => exact (Kd.R_reads' HO497.out).2.1); (case side3 => exact cr HO501); (case side4 => exact (Kd.R_reads' HO501.out).2.1); rintro e w' ⟨rfl, ⟨nd, rfl⟩⟩; refine ⟨_, rfl, ?_⟩) | (go_at_call 20; (with_reducible refine (dioramalaw10_awake.calls k  t503 _ A14.out).mono ?_); rintro e w22 ⟨rfl, hb⟩; replace HO497 := Aside0.mk (Kd.R_below (rz HO497) hb); replace HO501 := Aside0.mk (Kd.R_below (rz HO501) hb); replace BK491 := kb BK491 hb; replace HB := bp hb; clear hb))
   go_ret
   exact ⟨ez, bz⟩
  ·obtain rfl := bf c13; rw [if_neg (show ¬ (false = true) by decide)] at H; obtain rfl := Option.some.inj H
   go_enter Try.func4, Try.ntmps4
   go_wp2_with (first | ((with_reducible refine gate_dst (N := 3) rfl ?_); refine zB 3 24 #[.slice A0_0 l0_0.length c0_0, .int .i64 a0_1, .int .i64 a0_2] ?_; intro gb491 hg w23 hbox hb; have BK491 := Aside0.mk hbox; have GW491 := gz hg; have GE491 := gz hg; replace HB := bp hb; clear hb hbox hg; obtain ⟨hcz24_0, hcz24_1, hcz24_2, hfz24_0, hfz24_1, hfz24_2⟩ := xc3 BK491) | ((with_reducible refine gate_callee (f := 19) rfl ?_); refine zC 13 Try.func19 #[.slice A0_0 l0_0.length c0_0] ?_; (with_reducible refine (dioramalaw10_many.calls _ _ l0_0 false _ ?side1 ?side2 A4.out).mono ?_); (case side1 => exact cz HR0_0); (case side2 => exact HC0_0.out); rintro e w' ⟨rfl, ⟨nd, rfl⟩⟩; refine ⟨_, rfl, ?_⟩) | ((with_reducible refine gate_callee (f := 28) rfl ?_); refine zC 24 Try.func28 #[.slice A0_0 l0_0.length c0_0, .int .i64 a0_1, .int .i64 a0_2, .int .i64 a1, .int .i64 a2] ?_; (with_reducible refine (edit_Faster.calls k _ _ l0_0 a0_1 a0_2 a1 a2 t494 t495 _ ?side1 ?side2 A10.out).mono ?_); (case side1 => repeat (first | exact (Kd.C_below HR0_0.out bz) | (with_reducible refine Kd.C_alloc ?_ _) | (with_reducible refine Kd.C_drewN ?_ _) | (with_reducible refine Kd.C_drew ?_))); (case side2 => exact HC0_0.out); rintro e w25 ⟨v496, rfl, ho0, hb⟩; refine ⟨_, rfl, ?_⟩; have HO497 := Aside0.mk (Kd.R_lower ho0 sz); replace BK491 := kb BK491 hb; replace HB := bp hb; clear hb ho0; obtain ⟨hcz26_0, hcz26_1, hcz26_2, hfz26_0, hfz26_1, hfz26_2⟩ := xc3 BK491) | ((with_reducible refine gate_callee (f := 29) rfl ?_); refine zC 36 Try.func29 #[.slice A0_0 l0_0.length c0_0, .int .i64 a0_1, .int .i64 a0_2, .int .i64 a1, .int .i64 a2] ?_; (with_reducible refine (dioramaref10_Faster.calls k _ _ l0_0 a0_1 a0_2 a1 a2 t498 t499 _ ?side1 ?side2 A11.out).mono ?_); (case side1 => exact cz HR0_0); (case side2 => exact HC0_0.out); rintro e w27 ⟨v500, rfl, ho0, hb⟩; refine ⟨_, rfl, ?_⟩; have HO501 := Aside0.mk (Kd.R_lower (Kd.R_new' ho0 (Kd.R_lt (rz HO497))) sz); replace HO497 := Aside0.mk (Kd.R_elder' (rz HO497) (Kd.R_base ho0) hb); replace BK491 := kb BK491 hb; replace HB := bp hb; clear hb ho0; obtain ⟨Ao28, co28, eo28⟩ := Kd.R_slice HO497.out; subst eo28; obtain ⟨Ao29, co29, eo29⟩ := Kd.R_slice HO501.out; subst eo29) | ((with_reducible refine gate_callee (f := 23) rfl ?_); refine zC 43 Try.func23 #[.slice Ao28 t494.length co28, .int .i64 t495, .slice Ao29 t498.length co29, .int .i64 t499] ?_; (with_reducible refine (dioramalaw10_eq.calls k _ _ t494 t495 _ _ t498 t499 false _ ?side1 ?side2 ?side3 ?side4 A12.out).mono ?_); (case side1 => exact cr HO497); (case side2 => exact (Kd.R_reads' HO497.out).2.1); (case side3 => exact cr HO501); (case side4 => exact (Kd.R_reads' HO501.out).2.1); rintro e w' ⟨rfl, ⟨nd, rfl⟩⟩; refine ⟨_, rfl, ?_⟩))
   go_ret
   exact ⟨ez, bz⟩
def dioramaref10_Normal.f (k : Nat) (l0 : List (S77)) (a1 : Int) (a2 : Int) : Option ((List (S77)) × Int) := (dioramaref10_Check.f k l0 a1 a2).bind fun t504 => (if t504 = 0 then ((dioramaref10_told.f k l0 a1 a2).bind fun bt505 => (some (bt505.1, bt505.2))) else (some (([] : List (S77)), t504)))
set_option maxHeartbeats 8000000 in
set_option maxRecDepth 100000 in
theorem dioramaref10_Normal.calls (k : Nat) (A0 : Option Addr) (c0 : Nat) (l0 : List (S77)) (a1 : Int) (a2 : Int) (r1 : List (S77)) (r2 : Int) (w : World) (hr0 : Kd.C k77 w A0 l0.length l0) (hc0 : l0.length ≤ c0) (h : dioramaref10_Normal.f k l0 a1 a2 = some (r1, r2)) :
  Calls Try.prog 22 #[.slice A0 l0.length c0, .int .i64 a1, .int .i64 a2] w fun e w' => ∃ v0_ : Value, e = .returned (.tuple #[v0_, .int .i64 r2]) ∧ Kd.R k77 77 w' w.heap.size (fun _ => True) v0_ r1 ∧ Below w.heap.size w w' := by
 have HR0 := Aside0.mk hr0; have HC0 := Aside0.mk hc0; clear hr0 hc0; have HB := Aside0.mk (Below.refl w.heap.size w); have H : ((dioramaref10_Check.f k l0 a1 a2).bind fun t504 => (if t504 = 0 then ((dioramaref10_told.f k l0 a1 a2).bind fun bt505 => (some (bt505.1, bt505.2))) else (some (([] : List (S77)), t504)))) = some (r1, r2) := h
 clear h; obtain ⟨t504, A4, H⟩ := ob H
 by_cases c5 : t504 = 0
 ·rw [if_pos c5] at H; have c5b0 : (t504 == 0) = true := beq_iff_eq.mpr c5; have c5b1 : (t504 != 0) = false := bne_eq_false_iff_eq.mpr c5; clear c5; obtain ⟨⟨t505, t506⟩, A6, H⟩ := ob H
  (try dsimp only at H)
  simp only [Option.some.injEq, Prod.mk.injEq] at H; obtain ⟨rfl, rfl⟩ := H
  go_enter Try.func22, Try.ntmps22
  go_wp2_with (first | ((with_reducible refine gate_callee (f := 25) rfl ?_); refine zC 12 Try.func25 #[.slice A0 l0.length c0, .int .i64 a1, .int .i64 a2] ?_; (with_reducible refine (dioramaref10_Check.calls k _ _ l0 a1 a2 t504 _ ?side1 ?side2 A4.out).mono ?_); (case side1 => repeat (first | exact HR0.out | (with_reducible refine Kd.C_alloc ?_ _) | (with_reducible refine Kd.C_drewN ?_ _) | (with_reducible refine Kd.C_drew ?_))); (case side2 => exact HC0.out); rintro e w7 ⟨rfl, hb⟩; refine ⟨_, rfl, ?_⟩; replace HB := bp hb; clear hb) | ((with_reducible refine gate_callee (f := 58) rfl ?_); refine zC 19 Try.func58 #[.slice A0 l0.length c0, .int .i64 a1, .int .i64 a2] ?_; (with_reducible refine (dioramaref10_told.calls k _ _ l0 a1 a2 t505 t506 _ ?side1 ?side2 A6.out).mono ?_); (case side1 => exact cz HR0); (case side2 => exact HC0.out); rintro e w8 ⟨v507, rfl, ho0, hb⟩; refine ⟨_, rfl, ?_⟩; have HO508 := Aside0.mk (Kd.R_lower ho0 sz); replace HB := bp hb; clear hb ho0))
  go_ret2
  exact ⟨_, ez, by (with_reducible repeat (first | apply Kd.R_alloc | apply Kd.R_drewN | apply Kd.R_drew)); exact HO508.out, bz⟩
 ·rw [if_neg c5] at H; have c5b0 : (t504 == 0) = false := beq_eq_false_iff_ne.mpr c5; have c5b1 : (t504 != 0) = true := bne_iff_ne.mpr c5; simp only [Option.some.injEq, Prod.mk.injEq] at H; obtain ⟨rfl, rfl⟩ := H
  go_enter Try.func22, Try.ntmps22
  go_wp2_with (first | ((with_reducible refine gate_callee (f := 25) rfl ?_); refine zC 12 Try.func25 #[.slice A0 l0.length c0, .int .i64 a1, .int .i64 a2] ?_; (with_reducible refine (dioramaref10_Check.calls k _ _ l0 a1 a2 t504 _ ?side1 ?side2 A4.out).mono ?_); (case side1 => repeat (first | exact HR0.out | (with_reducible refine Kd.C_alloc ?_ _) | (with_reducible refine Kd.C_drewN ?_ _) | (with_reducible refine Kd.C_drew ?_))); (case side2 => exact HC0.out); rintro e w9 ⟨rfl, hb⟩; refine ⟨_, rfl, ?_⟩; replace HB := bp hb; clear hb))
  go_ret2
  exact ⟨_, ez, by first | exact Kd.R_nil _ _ _ _ _ | exact Kd.N_nil _ _ _ _ _ | exact Kd.V_nil _ _ _ _ _ | exact Kd.Q_nil _ _ _ _ _ | exact Kd.S_nil _ _ _ _ _, bz⟩
mutual
def dioramaref10_Length.l0 : Nat → List (S77) → Int → Bool → List Int → List Int → Option (Int)
  | 0, _, _, _, _, _ => none
  | k + 1, x0, x4, x518000, x518001, x518002 => if x4 < (x0.length : Int) then (if 0 ≤ x4 then (if ((rd_T77 x0 x4).f0) < 0 then ((dioramaref10_ratio.f k (-1) 1).bind fun bt519 => ((dioramaref10_plus.f k x518000 x518001 x518002 bt519.1 bt519.2.1 bt519.2.2).bind fun bt526 => ((dioramaref10_ratio.f k (wrap64 (((rd_T77 x0 x4).f0) + 1)) 1).bind fun bt533 => ((dioramaref10_plus.f k bt526.1 bt526.2.1 bt526.2.2 bt533.1 bt533.2.1 bt533.2.2).bind fun bt540 => (dioramaref10_Length.l0 k x0 (wrap64 (x4 + 1)) bt540.1 bt540.2.1 bt540.2.2))))) else ((dioramaref10_ratio.f k ((rd_T77 x0 x4).f0) 1).bind fun bt547 => ((dioramaref10_plus.f k x518000 x518001 x518002 bt547.1 bt547.2.1 bt547.2.2).bind fun bt554 => (dioramaref10_Length.l0 k x0 (wrap64 (x4 + 1)) bt554.1 bt554.2.1 bt554.2.2)))) else (none)) else (if x518000 = true then (dioramaref10_Length.j1 k (decide ((x518001.length : Int) > 0)) x518000 x518001 x518002) else (dioramaref10_Length.j1 k false x518000 x518001 x518002))
def dioramaref10_Length.j1 : Nat → Bool → Bool → List Int → List Int → Option (Int)
  | 0, _, _, _, _ => none
  | k + 1, x38, x518000, x518001, x518002 => if x38 = true then (some 0) else ((dioramaref02_Small.f k x518001 1099511627776).bind fun bt561 => (if bt561.2 = true then (some bt561.1) else (some 0)))
end
def dioramaref10_Length.f (k : Nat) (l0 : List (S77)) : Option (Int) := (dioramaref10_ratio.f k 0 1).bind fun bt510 => (dioramaref10_Length.l0 k l0 0 bt510.1 bt510.2.1 bt510.2.2)
set_option maxHeartbeats 8000000 in
set_option maxRecDepth 100000 in
theorem dioramaref10_Length.calls (k : Nat) (A0 : Option Addr) (c0 : Nat) (l0 : List (S77)) (r : Int) (w : World) (hr0 : Kd.C k77 w A0 l0.length l0) (hc0 : l0.length ≤ c0) (h : dioramaref10_Length.f k l0 = some r) :
  Calls Try.prog 27 #[.slice A0 l0.length c0] w fun e w' => e = .returned (.int .i64 r) ∧ Below w.heap.size w w' := by
 have hu95 := Try.underlying95; have HR0 := Aside0.mk hr0; have HC0 := Aside0.mk hc0; clear hr0 hc0; have HB := Aside0.mk (Below.refl w.heap.size w); have H : ((dioramaref10_ratio.f k 0 1).bind fun bt510 => (dioramaref10_Length.l0 k l0 0 bt510.1 bt510.2.1 bt510.2.2)) = some r := h
 clear h; obtain ⟨⟨t510, t511, t514⟩, A2, H⟩ := ob H
 (try dsimp only at H)
 have H' := Aside0.mk H; clear H
 go_enter Try.func27, Try.ntmps27
 go_wp2_with (first | ((with_reducible refine gate_callee (f := 68) rfl ?_); refine zC 8 Try.func68 #[.int .i64 0, .int .i64 1] ?_; (with_reducible refine (dioramaref10_ratio.calls k 0 1 t510 t511 t514 _ A2.out).mono ?_); rintro e w3 ⟨v512, v515, rfl, ho0, ho1, hb⟩; refine ⟨_, rfl, ?_⟩; have HO513 := Aside0.mk (Kd.R_lower ho0 sz); have HO516 := Aside0.mk (Kd.R_lower ho1 sz); replace HB := bp hb; clear hb ho0 ho1) | ((with_reducible refine gate_dst (N := 3) rfl ?_); refine zB 3 95 #[.bool false, .slice none 0 0, .slice none 0 0] ?_; intro gb517 hg w4 hbox hb; replace HO513 := Aside0.mk (Kd.R_below (rz HO513) hb); replace HO516 := Aside0.mk (Kd.R_below (rz HO516) hb); have BK517 := Aside0.mk hbox; have GW517 := gz hg; have GE517 := gz hg; replace HB := bp hb; clear hb hbox hg; obtain ⟨hcz5_0, hcz5_1, hcz5_2, hfz5_0, hfz5_1, hfz5_2⟩ := xc3 BK517; obtain ⟨Ao6, co6, eo6⟩ := Kd.R_slice HO513.out; subst eo6; obtain ⟨Ao7, co7, eo7⟩ := Kd.R_slice HO516.out; subst eo7))
 go_loopg [4] k (fun kq v4 w' => ∃ (x4_1 : Int) (x518000_1 : Bool) (x518001_1 : List Int) (x518002_1 : List Int) (u518001 : Value) (u518002 : Value), v4 = .int .i64 x4_1 ∧ Aside0 (dioramaref10_Length.l0 kq l0 x4_1 x518000_1 x518001_1 x518002_1 = some r) ∧ Aside0 (kq ≤ k) ∧ Aside0 (Kd.R (Kd.int .i64) 3 w' w.heap.size (fun k_ => some k_ ≠ (u518002 : Value).ownBlock) u518001 x518001_1) ∧ Aside0 (Kd.R (Kd.int .i64) 3 w' w.heap.size (fun k_ => some k_ ≠ (u518001 : Value).ownBlock) u518002 x518002_1) ∧ Aside0 (w'.heap[gb517]? = some (.cells #[.bool x518000_1, u518001, u518002] 95 (0, 0))) ∧ Aside0 (Below w.heap.size w w'))
 case atStart => exact ⟨(0), (t510), (t511), (t514), (.slice Ao6 t511.length co6), (.slice Ao7 t514.length co7), jz, H', ⟨Nat.le_refl _⟩, ⟨by (with_reducible repeat (first | apply Kd.R_alloc | apply Kd.R_drewN | apply Kd.R_drew)); exact Kd.R_mono (Kd.R_far (p := ⟨gb517, 2, none⟩) (Kd.R_far (p := ⟨gb517, 1, none⟩) (Kd.R_far (p := ⟨gb517, 0, none⟩) (Kd.R_types HO513.out BK517.out (by decide)) (fun _ hk => hk.2) (.bool t510)) (fun _ hk => hk.2) (.slice Ao6 t511.length co6)) (fun _ hk => hk.2) (.slice Ao7 t514.length co7)) (fun _ hk => hk.1)⟩, ⟨by (with_reducible repeat (first | apply Kd.R_alloc | apply Kd.R_drewN | apply Kd.R_drew)); exact Kd.R_mono (Kd.R_far (p := ⟨gb517, 2, none⟩) (Kd.R_far (p := ⟨gb517, 1, none⟩) (Kd.R_far (p := ⟨gb517, 0, none⟩) (Kd.R_types HO516.out BK517.out (by decide)) (fun _ hk => hk.2) (.bool t510)) (fun _ hk => hk.2) (.slice Ao6 t511.length co6)) (fun _ hk => hk.2) (.slice Ao7 t514.length co7)) (fun _ hk => hk.1)⟩, ⟨by (with_reducible repeat (first | refine blk_drewN ?_ _ | refine blk_drew ?_ | refine blk_alloc ?_ _)); refine blk_put (cs := #[.bool t510, .slice Ao6 t511.length co6, .slice none 0 0]) ?_ 2 _ rfl; (with_reducible repeat (first | refine blk_drewN ?_ _ | refine blk_drew ?_ | refine blk_alloc ?_ _)); refine blk_put (cs := #[.bool t510, .slice none 0 0, .slice none 0 0]) ?_ 1 _ rfl; (with_reducible repeat (first | refine blk_drewN ?_ _ | refine blk_drew ?_ | refine blk_alloc ?_ _)); refine blk_put (cs := #[.bool false, .slice none 0 0, .slice none 0 0]) ?_ 0 _ rfl; (with_reducible repeat (first | refine blk_drewN ?_ _ | refine blk_drew ?_ | refine blk_alloc ?_ _)); exact BK517.out⟩, ⟨bz⟩⟩
 case round =>
  clear H'
  try clear c2
  try clear p2
  try clear c6
  try clear hcz5_0
  try clear hcz5_1
  try clear hcz5_2
  try clear hfz5_0
  try clear hfz5_1
  try clear hfz5_2
  obtain ⟨x4_1, x518000_1, x518001_1, x518002_1, u518001, u518002, rfl, HA, HK1, HO_518001, HO_518002, BK517, HB⟩ := hrel
  cases gk with
  | zero => exact absurd HA.out (by simp [dioramaref10_Length.l0])
  | succ k1 =>
   have H := HA.out; clear HA; simp only [dioramaref10_Length.l0] at H
   by_cases c8 : x4_1 < (l0.length : Int)
   ·rw [if_pos c8] at H; have c8b0 : decide (x4_1 < (l0.length : Int)) = true := decide_eq_true c8; clear c8
    by_cases c9 : 0 ≤ x4_1
    ·rw [if_pos c9] at H; have c9b0 : decide (0 ≤ x4_1) = true := decide_eq_true c9; clear c9
     by_cases c10 : ((rd_T77 l0 x4_1).f0) < 0
     ·rw [if_pos c10] at H; have c10b0 : decide (((rd_T77 l0 x4_1).f0) < 0) = true := decide_eq_true c10; clear c10; obtain ⟨⟨t519, t520, t523⟩, A11, H⟩ := ob H
      (try dsimp only at H)
      obtain ⟨⟨t526, t527, t530⟩, A12, H⟩ := ob H
      (try dsimp only at H)
      obtain ⟨⟨t533, t534, t537⟩, A13, H⟩ := ob H
      (try dsimp only at H)
      obtain ⟨⟨t540, t541, t544⟩, A14, H⟩ := ob H
      (try dsimp only at H)
      have H' := Aside0.mk H; clear H; have p518 : 0 ≤ (x4_1 : Int) := od; have q518 : x4_1 < (l0.length : Int) := od; obtain ⟨ad518, e518, hx518_0, hx518_1, hx518_2, hx518_3⟩ := at_T77 HR0.out x4_1 p518 q518
      cases e518
      replace hx518_0 := cl HB hx518_0; replace hx518_1 := cl HB hx518_1; replace hx518_2 := cl HB hx518_2; replace hx518_3 := cl HB hx518_3; replace p518 := eq_true p518; replace q518 := eq_true q518
      try go_wp2
      replace HO_518001 := Aside0.mk (Kd.R_drew HO_518001.out); replace HO_518002 := Aside0.mk (Kd.R_drew HO_518002.out); replace BK517 := Aside0.mk (blk_drew BK517.out); replace HB := Aside0.mk (below_drew1 HB.out); refine start_ (n := 4) (S := fun w' => w'.cell? ⟨gb517, 0, none⟩ = some (.bool x518000_1) ∧ w'.cell? ⟨gb517, 1, none⟩ = some (u518001) ∧ w'.cell? ⟨gb517, 2, none⟩ = some (u518002)) (ds := [3]) (bs 4 0) (by kernel_rfl) rfl rfl ⟨ct BK517 0, ct BK517 1, ct BK517 2⟩ (fun hHeld => ?_)
      generalize wr.drew = w15 at HO_518001 HO_518002 BK517 HB hHeld ⊢; refine take_ (i := 0) (N := some 24) (v := ?_) (a' := ?_) (bs 4 1) rfl rfl (by kernel_rfl) (fun _ _ _ h => h) (Or.inl ⟨by rfl, ?_⟩) hHeld ?_ ?_
      rotate_left
      ·rintro w' ⟨s0, s1, s2⟩
       go_simp
       with_reducible rfl
      rotate_left
      ·simp only [Act.put, List.setIfInBounds_toArray, List.set_cons_zero, List.set_cons_succ, i64_w, i32_w]
       rfl
      refine one_ (i := 1) (N := some 25) (bs 4 3) rfl rfl (by kernel_rfl) (by decide) (fun K hK => ?_); refine zG Try.func68 #[.int .i64 (-1), .int .i64 1] ?_
      with_reducible refine (dioramaref10_ratio.calls k1 (-1) 1 t519 t520 t523 _ A11.out).mono ?_
      rintro e w16 ⟨v521, v524, rfl, ho0, ho1, hb⟩; refine ⟨_, rfl, ?_⟩; have HO522 := Aside0.mk (Kd.R_lower (Kd.R_new' (Kd.R_new' ho0 (Kd.R_lt (rz HO_518001))) (Kd.R_lt (rz HO_518002))) sz); have HO525 := Aside0.mk (Kd.R_lower (Kd.R_new' (Kd.R_new' ho1 (Kd.R_lt (rz HO_518001))) (Kd.R_lt (rz HO_518002))) sz); replace HO_518001 := Aside0.mk (Kd.R_mono (Kd.R_told (Kd.R_told (Kd.R_old (rz HO_518001) hb) (Kd.R_base ho0)) (Kd.R_base ho1)) (fun _ h_ => h_.1)); replace HO_518002 := Aside0.mk (Kd.R_mono (Kd.R_told (Kd.R_told (Kd.R_old (rz HO_518002) hb) (Kd.R_base ho0)) (Kd.R_base ho1)) (fun _ h_ => h_.1)); replace BK517 := kb BK517 hb; replace HB := bp hb; clear hb ho0 ho1; obtain ⟨Ao17, co17, eo17⟩ := Kd.R_slice HO_518001.out
      (first | subst eo17 | (injection eo17 with f1_ f2_ f3_; have f4_ := f1_.symm; have f5_ := f3_.symm; clear f1_ f2_ f3_; subst f4_; subst f5_))
      obtain ⟨Ao18, co18, eo18⟩ := Kd.R_slice HO_518002.out
      (first | subst eo18 | (injection eo18 with f1_ f2_ f3_; have f4_ := f1_.symm; have f5_ := f3_.symm; clear f1_ f2_ f3_; subst f4_; subst f5_))
      obtain ⟨Ao19, co19, eo19⟩ := Kd.R_slice HO522.out
      (first | subst eo19 | (injection eo19 with f1_ f2_ f3_; have f4_ := f1_.symm; have f5_ := f3_.symm; clear f1_ f2_ f3_; subst f4_; subst f5_))
      obtain ⟨Ao20, co20, eo20⟩ := Kd.R_slice HO525.out
      (first | subst eo20 | (injection eo20 with f1_ f2_ f3_; have f4_ := f1_.symm; have f5_ := f3_.symm; clear f1_ f2_ f3_; subst f4_; subst f5_))
      refine hK.out _ _ ⟨ct BK517 0, ct BK517 1, ct BK517 2⟩ (fun hHeld => ?_); clear hK K; refine zM 25 ?_; refine one_ (i := 2) (N := some 26) (bs 4 7) rfl rfl (by kernel_rfl) (by decide) (fun K hK => ?_); refine zG Try.func69 #[.agg #[.bool x518000_1, .slice Ao17 x518001_1.length co17, .slice Ao18 x518002_1.length co18], .agg #[.bool t519, .slice Ao19 t520.length co19, .slice Ao20 t523.length co20]] ?_
      with_reducible refine (dioramaref10_plus.calls k1 x518000_1 _ _ x518001_1 _ _ x518002_1 t519 _ _ t520 _ _ t523 t526 t527 t530 _ ?side1 ?side2 ?side3 ?side4 ?side5 ?side6 ?side7 ?side8 A12.out).mono ?_
      (case side1 => exact cr HO_518001)
      (case side2 => exact (Kd.R_reads' HO_518001.out).2.1)
      (case side3 => exact cr HO_518002)
      (case side4 => exact (Kd.R_reads' HO_518002.out).2.1)
      (case side5 => exact cr HO522)
      (case side6 => exact (Kd.R_reads' HO522.out).2.1)
      (case side7 => exact cr HO525)
      (case side8 => exact (Kd.R_reads' HO525.out).2.1)
      rintro e w21 ⟨v528, v531, rfl, ho0, ho1, hb⟩; refine ⟨_, rfl, ?_⟩; have HO529 := Aside0.mk (Kd.R_lower (Kd.R_new' (Kd.R_new' (Kd.R_new' (Kd.R_new' ho0 (Kd.R_lt (rz HO_518001))) (Kd.R_lt (rz HO_518002))) (Kd.R_lt (rz HO522))) (Kd.R_lt (rz HO525))) sz); have HO532 := Aside0.mk (Kd.R_lower (Kd.R_new' (Kd.R_new' (Kd.R_new' (Kd.R_new' ho1 (Kd.R_lt (rz HO_518001))) (Kd.R_lt (rz HO_518002))) (Kd.R_lt (rz HO522))) (Kd.R_lt (rz HO525))) sz); replace HO_518001 := Aside0.mk (Kd.R_mono (Kd.R_told (Kd.R_told (Kd.R_old (rz HO_518001) hb) (Kd.R_base ho0)) (Kd.R_base ho1)) (fun _ h_ => h_.1)); replace HO_518002 := Aside0.mk (Kd.R_mono (Kd.R_told (Kd.R_told (Kd.R_old (rz HO_518002) hb) (Kd.R_base ho0)) (Kd.R_base ho1)) (fun _ h_ => h_.1)); replace HO522 := Aside0.mk (Kd.R_mono (Kd.R_told (Kd.R_told (Kd.R_old (rz HO522) hb) (Kd.R_base ho0)) (Kd.R_base ho1)) (fun _ h_ => h_.1)); replace HO525 := Aside0.mk (Kd.R_mono (Kd.R_told (Kd.R_told (Kd.R_old (rz HO525) hb) (Kd.R_base ho0)) (Kd.R_base ho1)) (fun _ h_ => h_.1)); replace BK517 := kb BK517 hb; replace HB := bp hb; clear hb ho0 ho1; obtain ⟨Ao23, co23, eo23⟩ := Kd.R_slice HO529.out
      (first | subst eo23 | (injection eo23 with f1_ f2_ f3_; have f4_ := f1_.symm; have f5_ := f3_.symm; clear f1_ f2_ f3_; subst f4_; subst f5_))
      obtain ⟨Ao25, co25, eo25⟩ := Kd.R_slice HO532.out
      (first | subst eo25 | (injection eo25 with f1_ f2_ f3_; have f4_ := f1_.symm; have f5_ := f3_.symm; clear f1_ f2_ f3_; subst f4_; subst f5_))
      refine hK.out _ _ ⟨ct BK517 0, ct BK517 1, ct BK517 2⟩ (fun hHeld => ?_); clear hK K; refine zM 26 ?_; refine last_ (i := 3) (N := none) (bs 4 15) rfl rfl (by kernel_rfl) (by decide) (fun K hK => ?_); have hs22 : w21.cell? ⟨gb517, 0, none⟩ = some (.bool x518000_1) := ct BK517 0; have hfs22 := blk_frozen BK517.out 0; have hs24 : w21.cell? ⟨gb517, 1, none⟩ = some (.slice Ao17 x518001_1.length co17) := ct BK517 1; have hfs24 := blk_frozen BK517.out 1; have hs26 : w21.cell? ⟨gb517, 2, none⟩ = some (.slice Ao18 x518002_1.length co18) := ct BK517 2; have hfs26 := blk_frozen BK517.out 2; refine skip_ (w1 := ?_) (by rfl) rfl ?_ ?_
      rotate_left
      ·go_simp
       rfl
      refine hK.out _ _ ?_; clear hK K; refine done_ (by kernel_rfl) ?_
      try go_wp2
      have n0_ : Aside0 (Kd.R (Kd.int .i64) 3 (((w21.setCell ⟨gb517, 0, none⟩ (.bool t526)).setCell ⟨gb517, 1, none⟩ (.slice Ao23 t527.length co23)).setCell ⟨gb517, 2, none⟩ (.slice Ao25 t530.length co25)) w.heap.size (fun k_ => some k_ ≠ (.slice Ao18 x518002_1.length co18 : Value).ownBlock ∧ some k_ ≠ (.slice Ao19 t520.length co19 : Value).ownBlock ∧ some k_ ≠ (.slice Ao20 t523.length co20 : Value).ownBlock ∧ some k_ ≠ (.slice Ao23 t527.length co23 : Value).ownBlock ∧ some k_ ≠ (.slice Ao25 t530.length co25 : Value).ownBlock) (.slice Ao17 x518001_1.length co17) x518001_1) := ⟨by (with_reducible repeat (first | apply Kd.R_alloc | apply Kd.R_drewN | apply Kd.R_drew)); exact Kd.R_mono (Kd.R_far (p := ⟨gb517, 2, none⟩) (Kd.R_far (p := ⟨gb517, 1, none⟩) (Kd.R_far (p := ⟨gb517, 0, none⟩) (Kd.R_types HO_518001.out BK517.out (by decide)) (fun _ hk => hk.2) (.bool t526)) (fun _ hk => hk.2) (.slice Ao23 t527.length co23)) (fun _ hk => hk.2) (.slice Ao25 t530.length co25)) (fun _ hk => ⟨hk.1.1.1.1.1, ⟨hk.1.1.1.1.2, ⟨hk.1.1.1.2, ⟨hk.1.1.2, hk.1.2⟩⟩⟩⟩)⟩
      have n1_ : Aside0 (Kd.R (Kd.int .i64) 3 (((w21.setCell ⟨gb517, 0, none⟩ (.bool t526)).setCell ⟨gb517, 1, none⟩ (.slice Ao23 t527.length co23)).setCell ⟨gb517, 2, none⟩ (.slice Ao25 t530.length co25)) w.heap.size (fun k_ => some k_ ≠ (.slice Ao17 x518001_1.length co17 : Value).ownBlock ∧ some k_ ≠ (.slice Ao19 t520.length co19 : Value).ownBlock ∧ some k_ ≠ (.slice Ao20 t523.length co20 : Value).ownBlock ∧ some k_ ≠ (.slice Ao23 t527.length co23 : Value).ownBlock ∧ some k_ ≠ (.slice Ao25 t530.length co25 : Value).ownBlock) (.slice Ao18 x518002_1.length co18) x518002_1) := ⟨by (with_reducible repeat (first | apply Kd.R_alloc | apply Kd.R_drewN | apply Kd.R_drew)); exact Kd.R_mono (Kd.R_far (p := ⟨gb517, 2, none⟩) (Kd.R_far (p := ⟨gb517, 1, none⟩) (Kd.R_far (p := ⟨gb517, 0, none⟩) (Kd.R_types HO_518002.out BK517.out (by decide)) (fun _ hk => hk.2) (.bool t526)) (fun _ hk => hk.2) (.slice Ao23 t527.length co23)) (fun _ hk => hk.2) (.slice Ao25 t530.length co25)) (fun _ hk => ⟨hk.1.1.1.1.1, ⟨hk.1.1.1.1.2, ⟨hk.1.1.1.2, ⟨hk.1.1.2, hk.1.2⟩⟩⟩⟩)⟩
      have n2_ : Aside0 (Kd.R (Kd.int .i64) 3 (((w21.setCell ⟨gb517, 0, none⟩ (.bool t526)).setCell ⟨gb517, 1, none⟩ (.slice Ao23 t527.length co23)).setCell ⟨gb517, 2, none⟩ (.slice Ao25 t530.length co25)) w.heap.size (fun k_ => some k_ ≠ (.slice Ao17 x518001_1.length co17 : Value).ownBlock ∧ some k_ ≠ (.slice Ao18 x518002_1.length co18 : Value).ownBlock ∧ some k_ ≠ (.slice Ao20 t523.length co20 : Value).ownBlock ∧ some k_ ≠ (.slice Ao23 t527.length co23 : Value).ownBlock ∧ some k_ ≠ (.slice Ao25 t530.length co25 : Value).ownBlock) (.slice Ao19 t520.length co19) t520) := ⟨by (with_reducible repeat (first | apply Kd.R_alloc | apply Kd.R_drewN | apply Kd.R_drew)); exact Kd.R_mono (Kd.R_far (p := ⟨gb517, 2, none⟩) (Kd.R_far (p := ⟨gb517, 1, none⟩) (Kd.R_far (p := ⟨gb517, 0, none⟩) (Kd.R_types HO522.out BK517.out (by decide)) (fun _ hk => hk.2) (.bool t526)) (fun _ hk => hk.2) (.slice Ao23 t527.length co23)) (fun _ hk => hk.2) (.slice Ao25 t530.length co25)) (fun _ hk => ⟨hk.1.1.1.1.2, ⟨hk.1.1.1.2, ⟨hk.1.1.1.1.1, ⟨hk.1.1.2, hk.1.2⟩⟩⟩⟩)⟩
      have n3_ : Aside0 (Kd.R (Kd.int .i64) 3 (((w21.setCell ⟨gb517, 0, none⟩ (.bool t526)).setCell ⟨gb517, 1, none⟩ (.slice Ao23 t527.length co23)).setCell ⟨gb517, 2, none⟩ (.slice Ao25 t530.length co25)) w.heap.size (fun k_ => some k_ ≠ (.slice Ao17 x518001_1.length co17 : Value).ownBlock ∧ some k_ ≠ (.slice Ao18 x518002_1.length co18 : Value).ownBlock ∧ some k_ ≠ (.slice Ao19 t520.length co19 : Value).ownBlock ∧ some k_ ≠ (.slice Ao23 t527.length co23 : Value).ownBlock ∧ some k_ ≠ (.slice Ao25 t530.length co25 : Value).ownBlock) (.slice Ao20 t523.length co20) t523) := ⟨by (with_reducible repeat (first | apply Kd.R_alloc | apply Kd.R_drewN | apply Kd.R_drew)); exact Kd.R_mono (Kd.R_far (p := ⟨gb517, 2, none⟩) (Kd.R_far (p := ⟨gb517, 1, none⟩) (Kd.R_far (p := ⟨gb517, 0, none⟩) (Kd.R_types HO525.out BK517.out (by decide)) (fun _ hk => hk.2) (.bool t526)) (fun _ hk => hk.2) (.slice Ao23 t527.length co23)) (fun _ hk => hk.2) (.slice Ao25 t530.length co25)) (fun _ hk => ⟨hk.1.1.1.1.2, ⟨hk.1.1.1.2, ⟨hk.1.1.1.1.1, ⟨hk.1.1.2, hk.1.2⟩⟩⟩⟩)⟩
      have n4_ : Aside0 (Kd.R (Kd.int .i64) 3 (((w21.setCell ⟨gb517, 0, none⟩ (.bool t526)).setCell ⟨gb517, 1, none⟩ (.slice Ao23 t527.length co23)).setCell ⟨gb517, 2, none⟩ (.slice Ao25 t530.length co25)) w.heap.size (fun k_ => some k_ ≠ (.slice Ao17 x518001_1.length co17 : Value).ownBlock ∧ some k_ ≠ (.slice Ao18 x518002_1.length co18 : Value).ownBlock ∧ some k_ ≠ (.slice Ao19 t520.length co19 : Value).ownBlock ∧ some k_ ≠ (.slice Ao20 t523.length co20 : Value).ownBlock ∧ some k_ ≠ (.slice Ao25 t530.length co25 : Value).ownBlock) (.slice Ao23 t527.length co23) t527) := ⟨by (with_reducible repeat (first | apply Kd.R_alloc | apply Kd.R_drewN | apply Kd.R_drew)); exact Kd.R_mono (Kd.R_far (p := ⟨gb517, 2, none⟩) (Kd.R_far (p := ⟨gb517, 1, none⟩) (Kd.R_far (p := ⟨gb517, 0, none⟩) (Kd.R_types HO529.out BK517.out (by decide)) (fun _ hk => hk.2) (.bool t526)) (fun _ hk => hk.2) (.slice Ao23 t527.length co23)) (fun _ hk => hk.2) (.slice Ao25 t530.length co25)) (fun _ hk => ⟨hk.1.1.1.1.2, ⟨hk.1.1.1.2, ⟨hk.1.1.2, ⟨hk.1.2, hk.1.1.1.1.1⟩⟩⟩⟩)⟩
      have n5_ : Aside0 (Kd.R (Kd.int .i64) 3 (((w21.setCell ⟨gb517, 0, none⟩ (.bool t526)).setCell ⟨gb517, 1, none⟩ (.slice Ao23 t527.length co23)).setCell ⟨gb517, 2, none⟩ (.slice Ao25 t530.length co25)) w.heap.size (fun k_ => some k_ ≠ (.slice Ao17 x518001_1.length co17 : Value).ownBlock ∧ some k_ ≠ (.slice Ao18 x518002_1.length co18 : Value).ownBlock ∧ some k_ ≠ (.slice Ao19 t520.length co19 : Value).ownBlock ∧ some k_ ≠ (.slice Ao20 t523.length co20 : Value).ownBlock ∧ some k_ ≠ (.slice Ao23 t527.length co23 : Value).ownBlock) (.slice Ao25 t530.length co25) t530) := ⟨by (with_reducible repeat (first | apply Kd.R_alloc | apply Kd.R_drewN | apply Kd.R_drew)); exact Kd.R_mono (Kd.R_far (p := ⟨gb517, 2, none⟩) (Kd.R_far (p := ⟨gb517, 1, none⟩) (Kd.R_far (p := ⟨gb517, 0, none⟩) (Kd.R_types HO532.out BK517.out (by decide)) (fun _ hk => hk.2) (.bool t526)) (fun _ hk => hk.2) (.slice Ao23 t527.length co23)) (fun _ hk => hk.2) (.slice Ao25 t530.length co25)) (fun _ hk => ⟨hk.1.1.1.1.2, ⟨hk.1.1.1.2, ⟨hk.1.1.2, ⟨hk.1.2, hk.1.1.1.1.1⟩⟩⟩⟩)⟩
      have n6_ : Aside0 ((((w21.setCell ⟨gb517, 0, none⟩ (.bool t526)).setCell ⟨gb517, 1, none⟩ (.slice Ao23 t527.length co23)).setCell ⟨gb517, 2, none⟩ (.slice Ao25 t530.length co25)).heap[gb517]? = some (.cells #[.bool t526, .slice Ao23 t527.length co23, .slice Ao25 t530.length co25] 95 (0, 0))) := ⟨by (with_reducible repeat (first | refine blk_drewN ?_ _ | refine blk_drew ?_ | refine blk_alloc ?_ _)); refine blk_put (cs := #[.bool t526, .slice Ao23 t527.length co23, .slice Ao18 x518002_1.length co18]) ?_ 2 _ rfl; (with_reducible repeat (first | refine blk_drewN ?_ _ | refine blk_drew ?_ | refine blk_alloc ?_ _)); refine blk_put (cs := #[.bool t526, .slice Ao17 x518001_1.length co17, .slice Ao18 x518002_1.length co18]) ?_ 1 _ rfl; (with_reducible repeat (first | refine blk_drewN ?_ _ | refine blk_drew ?_ | refine blk_alloc ?_ _)); refine blk_put (cs := #[.bool x518000_1, .slice Ao17 x518001_1.length co17, .slice Ao18 x518002_1.length co18]) ?_ 0 _ rfl; (with_reducible repeat (first | refine blk_drewN ?_ _ | refine blk_drew ?_ | refine blk_alloc ?_ _)); exact BK517.out⟩; have n7_ : Aside0 (Below w.heap.size w (((w21.setCell ⟨gb517, 0, none⟩ (.bool t526)).setCell ⟨gb517, 1, none⟩ (.slice Ao23 t527.length co23)).setCell ⟨gb517, 2, none⟩ (.slice Ao25 t530.length co25))) := ⟨bz⟩
      (try clear HO_518001)
      (try clear HO_518002)
      (try clear HO522)
      (try clear HO525)
      (try clear HO529)
      (try clear HO532)
      (try clear BK517)
      (try clear HB)
      generalize (((w21.setCell ⟨gb517, 0, none⟩ (.bool t526)).setCell ⟨gb517, 1, none⟩ (.slice Ao23 t527.length co23)).setCell ⟨gb517, 2, none⟩ (.slice Ao25 t530.length co25)) = w27 at n0_ n1_ n2_ n3_ n4_ n5_ n6_ n7_ ⊢; have HO_518001 := n0_; have HO_518002 := n1_; have HO522 := n2_; have HO525 := n3_; have HO529 := n4_; have HO532 := n5_; have BK517 := n6_; have HB := n7_; clear n0_ n1_ n2_ n3_ n4_ n5_ n6_ n7_; replace HO_518001 := Aside0.mk (Kd.R_drew HO_518001.out); replace HO_518002 := Aside0.mk (Kd.R_drew HO_518002.out); replace HO522 := Aside0.mk (Kd.R_drew HO522.out); replace HO525 := Aside0.mk (Kd.R_drew HO525.out); replace HO529 := Aside0.mk (Kd.R_drew HO529.out); replace HO532 := Aside0.mk (Kd.R_drew HO532.out); replace BK517 := Aside0.mk (blk_drew BK517.out); replace HB := Aside0.mk (below_drew1 HB.out); refine start_ (n := 5) (S := fun w' => w'.cell? ⟨gb517, 0, none⟩ = some (.bool t526) ∧ w'.cell? ⟨gb517, 1, none⟩ = some (.slice Ao23 t527.length co23) ∧ w'.cell? ⟨gb517, 2, none⟩ = some (.slice Ao25 t530.length co25)) (ds := [4]) (bs 5 0) (by kernel_rfl) rfl rfl ⟨ct BK517 0, ct BK517 1, ct BK517 2⟩ (fun hHeld => ?_)
      generalize w27.drew = w28 at HO_518001 HO_518002 HO522 HO525 HO529 HO532 BK517 HB hHeld ⊢; refine pure_ (i := 1) (N := some 28) (v := ?_) (a' := ?_) (bs 5 2) rfl rfl (by kernel_rfl) (fun _ _ _ h => h) (Or.inl ⟨by rfl, ?_⟩) ?_ ?_
      rotate_left
      ·intro w'
       go_simp
       with_reducible rfl
      rotate_left
      ·simp only [Act.put, List.setIfInBounds_toArray, List.set_cons_zero, List.set_cons_succ, i64_w, i32_w]
       rfl
      refine take_ (i := 0) (N := some 27) (v := ?_) (a' := ?_) (bs 5 3) rfl rfl (by kernel_rfl) (fun _ _ _ h => h) (Or.inl ⟨by rfl, ?_⟩) hHeld ?_ ?_
      rotate_left
      ·rintro w' ⟨s0, s1, s2⟩
       go_simp
       with_reducible rfl
      rotate_left
      ·simp only [Act.put, List.setIfInBounds_toArray, List.set_cons_zero, List.set_cons_succ, i64_w, i32_w]
       rfl
      refine one_ (i := 2) (N := some 29) (bs 5 7) rfl rfl (by kernel_rfl) (by decide) (fun K hK => ?_); refine zG Try.func68 #[.int .i64 (wrap64 (((rd_T77 l0 x4_1).f0) + 1)), .int .i64 1] ?_
      with_reducible refine (dioramaref10_ratio.calls k1 (wrap64 (((rd_T77 l0 x4_1).f0) + 1)) 1 t533 t534 t537 _ A13.out).mono ?_
      rintro e w29 ⟨v535, v538, rfl, ho0, ho1, hb⟩; refine ⟨_, rfl, ?_⟩; have HO536 := Aside0.mk (Kd.R_lower (Kd.R_new' (Kd.R_new' (Kd.R_new' (Kd.R_new' (Kd.R_new' (Kd.R_new' ho0 (Kd.R_lt (rz HO_518001))) (Kd.R_lt (rz HO_518002))) (Kd.R_lt (rz HO522))) (Kd.R_lt (rz HO525))) (Kd.R_lt (rz HO529))) (Kd.R_lt (rz HO532))) sz); have HO539 := Aside0.mk (Kd.R_lower (Kd.R_new' (Kd.R_new' (Kd.R_new' (Kd.R_new' (Kd.R_new' (Kd.R_new' ho1 (Kd.R_lt (rz HO_518001))) (Kd.R_lt (rz HO_518002))) (Kd.R_lt (rz HO522))) (Kd.R_lt (rz HO525))) (Kd.R_lt (rz HO529))) (Kd.R_lt (rz HO532))) sz); replace HO_518001 := Aside0.mk (Kd.R_mono (Kd.R_told (Kd.R_told (Kd.R_old (rz HO_518001) hb) (Kd.R_base ho0)) (Kd.R_base ho1)) (fun _ h_ => h_.1)); replace HO_518002 := Aside0.mk (Kd.R_mono (Kd.R_told (Kd.R_told (Kd.R_old (rz HO_518002) hb) (Kd.R_base ho0)) (Kd.R_base ho1)) (fun _ h_ => h_.1)); replace HO522 := Aside0.mk (Kd.R_mono (Kd.R_told (Kd.R_told (Kd.R_old (rz HO522) hb) (Kd.R_base ho0)) (Kd.R_base ho1)) (fun _ h_ => h_.1)); replace HO525 := Aside0.mk (Kd.R_mono (Kd.R_told (Kd.R_told (Kd.R_old (rz HO525) hb) (Kd.R_base ho0)) (Kd.R_base ho1)) (fun _ h_ => h_.1)); replace HO529 := Aside0.mk (Kd.R_mono (Kd.R_told (Kd.R_told (Kd.R_old (rz HO529) hb) (Kd.R_base ho0)) (Kd.R_base ho1)) (fun _ h_ => h_.1)); replace HO532 := Aside0.mk (Kd.R_mono (Kd.R_told (Kd.R_told (Kd.R_old (rz HO532) hb) (Kd.R_base ho0)) (Kd.R_base ho1)) (fun _ h_ => h_.1)); replace BK517 := kb BK517 hb; replace HB := bp hb; clear hb ho0 ho1; obtain ⟨Ao30, co30, eo30⟩ := Kd.R_slice HO536.out
      (first | subst eo30 | (injection eo30 with f1_ f2_ f3_; have f4_ := f1_.symm; have f5_ := f3_.symm; clear f1_ f2_ f3_; subst f4_; subst f5_))
      obtain ⟨Ao31, co31, eo31⟩ := Kd.R_slice HO539.out
      (first | subst eo31 | (injection eo31 with f1_ f2_ f3_; have f4_ := f1_.symm; have f5_ := f3_.symm; clear f1_ f2_ f3_; subst f4_; subst f5_))
      refine hK.out _ _ ⟨ct BK517 0, ct BK517 1, ct BK517 2⟩ (fun hHeld => ?_); clear hK K; refine zM 29 ?_; refine one_ (i := 3) (N := some 30) (bs 5 15) rfl rfl (by kernel_rfl) (by decide) (fun K hK => ?_); refine zG Try.func69 #[.agg #[.bool t526, .slice Ao23 t527.length co23, .slice Ao25 t530.length co25], .agg #[.bool t533, .slice Ao30 t534.length co30, .slice Ao31 t537.length co31]] ?_
      with_reducible refine (dioramaref10_plus.calls k1 t526 _ _ t527 _ _ t530 t533 _ _ t534 _ _ t537 t540 t541 t544 _ ?side1 ?side2 ?side3 ?side4 ?side5 ?side6 ?side7 ?side8 A14.out).mono ?_
      (case side1 => exact cr HO529)
      (case side2 => exact (Kd.R_reads' HO529.out).2.1)
      (case side3 => exact cr HO532)
      (case side4 => exact (Kd.R_reads' HO532.out).2.1)
      (case side5 => exact cr HO536)
      (case side6 => exact (Kd.R_reads' HO536.out).2.1)
      (case side7 => exact cr HO539)
      (case side8 => exact (Kd.R_reads' HO539.out).2.1)
      rintro e w32 ⟨v542, v545, rfl, ho0, ho1, hb⟩; refine ⟨_, rfl, ?_⟩; have HO543 := Aside0.mk (Kd.R_lower (Kd.R_new' (Kd.R_new' (Kd.R_new' (Kd.R_new' (Kd.R_new' (Kd.R_new' (Kd.R_new' (Kd.R_new' ho0 (Kd.R_lt (rz HO_518001))) (Kd.R_lt (rz HO_518002))) (Kd.R_lt (rz HO522))) (Kd.R_lt (rz HO525))) (Kd.R_lt (rz HO529))) (Kd.R_lt (rz HO532))) (Kd.R_lt (rz HO536))) (Kd.R_lt (rz HO539))) sz); have HO546 := Aside0.mk (Kd.R_lower (Kd.R_new' (Kd.R_new' (Kd.R_new' (Kd.R_new' (Kd.R_new' (Kd.R_new' (Kd.R_new' (Kd.R_new' ho1 (Kd.R_lt (rz HO_518001))) (Kd.R_lt (rz HO_518002))) (Kd.R_lt (rz HO522))) (Kd.R_lt (rz HO525))) (Kd.R_lt (rz HO529))) (Kd.R_lt (rz HO532))) (Kd.R_lt (rz HO536))) (Kd.R_lt (rz HO539))) sz); replace HO_518001 := Aside0.mk (Kd.R_mono (Kd.R_told (Kd.R_told (Kd.R_old (rz HO_518001) hb) (Kd.R_base ho0)) (Kd.R_base ho1)) (fun _ h_ => h_.1)); replace HO_518002 := Aside0.mk (Kd.R_mono (Kd.R_told (Kd.R_told (Kd.R_old (rz HO_518002) hb) (Kd.R_base ho0)) (Kd.R_base ho1)) (fun _ h_ => h_.1)); replace HO522 := Aside0.mk (Kd.R_mono (Kd.R_told (Kd.R_told (Kd.R_old (rz HO522) hb) (Kd.R_base ho0)) (Kd.R_base ho1)) (fun _ h_ => h_.1)); replace HO525 := Aside0.mk (Kd.R_mono (Kd.R_told (Kd.R_told (Kd.R_old (rz HO525) hb) (Kd.R_base ho0)) (Kd.R_base ho1)) (fun _ h_ => h_.1)); replace HO529 := Aside0.mk (Kd.R_mono (Kd.R_told (Kd.R_told (Kd.R_old (rz HO529) hb) (Kd.R_base ho0)) (Kd.R_base ho1)) (fun _ h_ => h_.1)); replace HO532 := Aside0.mk (Kd.R_mono (Kd.R_told (Kd.R_told (Kd.R_old (rz HO532) hb) (Kd.R_base ho0)) (Kd.R_base ho1)) (fun _ h_ => h_.1)); replace HO536 := Aside0.mk (Kd.R_mono (Kd.R_told (Kd.R_told (Kd.R_old (rz HO536) hb) (Kd.R_base ho0)) (Kd.R_base ho1)) (fun _ h_ => h_.1)); replace HO539 := Aside0.mk (Kd.R_mono (Kd.R_told (Kd.R_told (Kd.R_old (rz HO539) hb) (Kd.R_base ho0)) (Kd.R_base ho1)) (fun _ h_ => h_.1)); replace BK517 := kb BK517 hb; replace HB := bp hb; clear hb ho0 ho1; obtain ⟨Ao34, co34, eo34⟩ := Kd.R_slice HO543.out
      (first | subst eo34 | (injection eo34 with f1_ f2_ f3_; have f4_ := f1_.symm; have f5_ := f3_.symm; clear f1_ f2_ f3_; subst f4_; subst f5_))
      obtain ⟨Ao36, co36, eo36⟩ := Kd.R_slice HO546.out
      (first | subst eo36 | (injection eo36 with f1_ f2_ f3_; have f4_ := f1_.symm; have f5_ := f3_.symm; clear f1_ f2_ f3_; subst f4_; subst f5_))
      refine hK.out _ _ ⟨ct BK517 0, ct BK517 1, ct BK517 2⟩ (fun hHeld => ?_); clear hK K; refine zM 30 ?_; refine last_ (i := 4) (N := none) (bs 5 31) rfl rfl (by kernel_rfl) (by decide) (fun K hK => ?_); have hs33 : w32.cell? ⟨gb517, 0, none⟩ = some (.bool t526) := ct BK517 0; have hfs33 := blk_frozen BK517.out 0; have hs35 : w32.cell? ⟨gb517, 1, none⟩ = some (.slice Ao23 t527.length co23) := ct BK517 1; have hfs35 := blk_frozen BK517.out 1; have hs37 : w32.cell? ⟨gb517, 2, none⟩ = some (.slice Ao25 t530.length co25) := ct BK517 2; have hfs37 := blk_frozen BK517.out 2; refine skip_ (w1 := ?_) (by rfl) rfl ?_ ?_
      rotate_left
      ·go_simp
       rfl
      refine hK.out _ _ ?_; clear hK K; refine done_ (by kernel_rfl) ?_
      try go_wp2
      go_roundg k1
      case measure => have := HK1.out; omega
      case rel => exact ⟨(wrap64 (x4_1 + 1)), (t540), (t541), (t544), (.slice Ao34 t541.length co34), (.slice Ao36 t544.length co36), jz, H', ⟨by have := HK1.out; omega⟩, ⟨by (with_reducible repeat (first | apply Kd.R_alloc | apply Kd.R_drewN | apply Kd.R_drew)); exact Kd.R_mono (Kd.R_far (p := ⟨gb517, 2, none⟩) (Kd.R_far (p := ⟨gb517, 1, none⟩) (Kd.R_far (p := ⟨gb517, 0, none⟩) (Kd.R_types HO543.out BK517.out (by decide)) (fun _ hk => hk.2) (.bool t540)) (fun _ hk => hk.2) (.slice Ao34 t541.length co34)) (fun _ hk => hk.2) (.slice Ao36 t544.length co36)) (fun _ hk => hk.1.1.1.1.1.1.1.1.1)⟩, ⟨by (with_reducible repeat (first | apply Kd.R_alloc | apply Kd.R_drewN | apply Kd.R_drew)); exact Kd.R_mono (Kd.R_far (p := ⟨gb517, 2, none⟩) (Kd.R_far (p := ⟨gb517, 1, none⟩) (Kd.R_far (p := ⟨gb517, 0, none⟩) (Kd.R_types HO546.out BK517.out (by decide)) (fun _ hk => hk.2) (.bool t540)) (fun _ hk => hk.2) (.slice Ao34 t541.length co34)) (fun _ hk => hk.2) (.slice Ao36 t544.length co36)) (fun _ hk => hk.1.1.1.1.1.1.1.1.1)⟩, ⟨by (with_reducible repeat (first | refine blk_drewN ?_ _ | refine blk_drew ?_ | refine blk_alloc ?_ _)); refine blk_put (cs := #[.bool t540, .slice Ao34 t541.length co34, .slice Ao25 t530.length co25]) ?_ 2 _ rfl; (with_reducible repeat (first | refine blk_drewN ?_ _ | refine blk_drew ?_ | refine blk_alloc ?_ _)); refine blk_put (cs := #[.bool t540, .slice Ao23 t527.length co23, .slice Ao25 t530.length co25]) ?_ 1 _ rfl; (with_reducible repeat (first | refine blk_drewN ?_ _ | refine blk_drew ?_ | refine blk_alloc ?_ _)); refine blk_put (cs := #[.bool t526, .slice Ao23 t527.length co23, .slice Ao25 t530.length co25]) ?_ 0 _ rfl; (with_reducible repeat (first | refine blk_drewN ?_ _ | refine blk_drew ?_ | refine blk_alloc ?_ _)); exact BK517.out⟩, ⟨bz⟩⟩
     ·rw [if_neg c10] at H; have c10b0 : decide (((rd_T77 l0 x4_1).f0) < 0) = false := decide_eq_false c10; clear c10; obtain ⟨⟨t547, t548, t551⟩, A38, H⟩ := ob H
      (try dsimp only at H)
      obtain ⟨⟨t554, t555, t558⟩, A39, H⟩ := ob H
      (try dsimp only at H)
      have H' := Aside0.mk H; clear H; have p518 : 0 ≤ (x4_1 : Int) := od; have q518 : x4_1 < (l0.length : Int) := od; obtain ⟨ad518, e518, hx518_0, hx518_1, hx518_2, hx518_3⟩ := at_T77 HR0.out x4_1 p518 q518
      cases e518
      replace hx518_0 := cl HB hx518_0; replace hx518_1 := cl HB hx518_1; replace hx518_2 := cl HB hx518_2; replace hx518_3 := cl HB hx518_3; replace p518 := eq_true p518; replace q518 := eq_true q518
      try go_wp2
      replace HO_518001 := Aside0.mk (Kd.R_drew HO_518001.out); replace HO_518002 := Aside0.mk (Kd.R_drew HO_518002.out); replace BK517 := Aside0.mk (blk_drew BK517.out); replace HB := Aside0.mk (below_drew1 HB.out); refine start_ (n := 5) (S := fun w' => w'.cell? ⟨gb517, 0, none⟩ = some (.bool x518000_1) ∧ w'.cell? ⟨gb517, 1, none⟩ = some (u518001) ∧ w'.cell? ⟨gb517, 2, none⟩ = some (u518002)) (ds := [4]) (bs 5 0) (by kernel_rfl) rfl rfl ⟨ct BK517 0, ct BK517 1, ct BK517 2⟩ (fun hHeld => ?_)
      generalize wr.drew = w40 at HO_518001 HO_518002 BK517 HB hHeld ⊢; refine pure_ (i := 1) (N := some 28) (v := ?_) (a' := ?_) (bs 5 2) rfl rfl (by kernel_rfl) (fun _ _ _ h => h) (Or.inl ⟨by rfl, ?_⟩) ?_ ?_
      rotate_left
      ·intro w'
       go_simp
       with_reducible rfl
      rotate_left
      ·simp only [Act.put, List.setIfInBounds_toArray, List.set_cons_zero, List.set_cons_succ, i64_w, i32_w]
       rfl
      refine take_ (i := 0) (N := some 27) (v := ?_) (a' := ?_) (bs 5 3) rfl rfl (by kernel_rfl) (fun _ _ _ h => h) (Or.inl ⟨by rfl, ?_⟩) hHeld ?_ ?_
      rotate_left
      ·rintro w' ⟨s0, s1, s2⟩
       go_simp
       with_reducible rfl
      rotate_left
      ·simp only [Act.put, List.setIfInBounds_toArray, List.set_cons_zero, List.set_cons_succ, i64_w, i32_w]
       rfl
      refine one_ (i := 2) (N := some 29) (bs 5 7) rfl rfl (by kernel_rfl) (by decide) (fun K hK => ?_); refine zG Try.func68 #[.int .i64 ((rd_T77 l0 x4_1).f0), .int .i64 1] ?_
      with_reducible refine (dioramaref10_ratio.calls k1 ((rd_T77 l0 x4_1).f0) 1 t547 t548 t551 _ A38.out).mono ?_
      rintro e w41 ⟨v549, v552, rfl, ho0, ho1, hb⟩; refine ⟨_, rfl, ?_⟩; have HO550 := Aside0.mk (Kd.R_lower (Kd.R_new' (Kd.R_new' ho0 (Kd.R_lt (rz HO_518001))) (Kd.R_lt (rz HO_518002))) sz); have HO553 := Aside0.mk (Kd.R_lower (Kd.R_new' (Kd.R_new' ho1 (Kd.R_lt (rz HO_518001))) (Kd.R_lt (rz HO_518002))) sz); replace HO_518001 := Aside0.mk (Kd.R_mono (Kd.R_told (Kd.R_told (Kd.R_old (rz HO_518001) hb) (Kd.R_base ho0)) (Kd.R_base ho1)) (fun _ h_ => h_.1)); replace HO_518002 := Aside0.mk (Kd.R_mono (Kd.R_told (Kd.R_told (Kd.R_old (rz HO_518002) hb) (Kd.R_base ho0)) (Kd.R_base ho1)) (fun _ h_ => h_.1)); replace BK517 := kb BK517 hb; replace HB := bp hb; clear hb ho0 ho1; obtain ⟨Ao42, co42, eo42⟩ := Kd.R_slice HO_518001.out
      (first | subst eo42 | (injection eo42 with f1_ f2_ f3_; have f4_ := f1_.symm; have f5_ := f3_.symm; clear f1_ f2_ f3_; subst f4_; subst f5_))
      obtain ⟨Ao43, co43, eo43⟩ := Kd.R_slice HO_518002.out
      (first | subst eo43 | (injection eo43 with f1_ f2_ f3_; have f4_ := f1_.symm; have f5_ := f3_.symm; clear f1_ f2_ f3_; subst f4_; subst f5_))
      obtain ⟨Ao44, co44, eo44⟩ := Kd.R_slice HO550.out
      (first | subst eo44 | (injection eo44 with f1_ f2_ f3_; have f4_ := f1_.symm; have f5_ := f3_.symm; clear f1_ f2_ f3_; subst f4_; subst f5_))
      obtain ⟨Ao45, co45, eo45⟩ := Kd.R_slice HO553.out
      (first | subst eo45 | (injection eo45 with f1_ f2_ f3_; have f4_ := f1_.symm; have f5_ := f3_.symm; clear f1_ f2_ f3_; subst f4_; subst f5_))
      refine hK.out _ _ ⟨ct BK517 0, ct BK517 1, ct BK517 2⟩ (fun hHeld => ?_); clear hK K; refine zM 29 ?_; refine one_ (i := 3) (N := some 30) (bs 5 15) rfl rfl (by kernel_rfl) (by decide) (fun K hK => ?_); refine zG Try.func69 #[.agg #[.bool x518000_1, .slice Ao42 x518001_1.length co42, .slice Ao43 x518002_1.length co43], .agg #[.bool t547, .slice Ao44 t548.length co44, .slice Ao45 t551.length co45]] ?_
      with_reducible refine (dioramaref10_plus.calls k1 x518000_1 _ _ x518001_1 _ _ x518002_1 t547 _ _ t548 _ _ t551 t554 t555 t558 _ ?side1 ?side2 ?side3 ?side4 ?side5 ?side6 ?side7 ?side8 A39.out).mono ?_
      (case side1 => exact cr HO_518001)
      (case side2 => exact (Kd.R_reads' HO_518001.out).2.1)
      (case side3 => exact cr HO_518002)
      (case side4 => exact (Kd.R_reads' HO_518002.out).2.1)
      (case side5 => exact cr HO550)
      (case side6 => exact (Kd.R_reads' HO550.out).2.1)
      (case side7 => exact cr HO553)
      (case side8 => exact (Kd.R_reads' HO553.out).2.1)
      rintro e w46 ⟨v556, v559, rfl, ho0, ho1, hb⟩; refine ⟨_, rfl, ?_⟩; have HO557 := Aside0.mk (Kd.R_lower (Kd.R_new' (Kd.R_new' (Kd.R_new' (Kd.R_new' ho0 (Kd.R_lt (rz HO_518001))) (Kd.R_lt (rz HO_518002))) (Kd.R_lt (rz HO550))) (Kd.R_lt (rz HO553))) sz); have HO560 := Aside0.mk (Kd.R_lower (Kd.R_new' (Kd.R_new' (Kd.R_new' (Kd.R_new' ho1 (Kd.R_lt (rz HO_518001))) (Kd.R_lt (rz HO_518002))) (Kd.R_lt (rz HO550))) (Kd.R_lt (rz HO553))) sz); replace HO_518001 := Aside0.mk (Kd.R_mono (Kd.R_told (Kd.R_told (Kd.R_old (rz HO_518001) hb) (Kd.R_base ho0)) (Kd.R_base ho1)) (fun _ h_ => h_.1)); replace HO_518002 := Aside0.mk (Kd.R_mono (Kd.R_told (Kd.R_told (Kd.R_old (rz HO_518002) hb) (Kd.R_base ho0)) (Kd.R_base ho1)) (fun _ h_ => h_.1)); replace HO550 := Aside0.mk (Kd.R_mono (Kd.R_told (Kd.R_told (Kd.R_old (rz HO550) hb) (Kd.R_base ho0)) (Kd.R_base ho1)) (fun _ h_ => h_.1)); replace HO553 := Aside0.mk (Kd.R_mono (Kd.R_told (Kd.R_told (Kd.R_old (rz HO553) hb) (Kd.R_base ho0)) (Kd.R_base ho1)) (fun _ h_ => h_.1)); replace BK517 := kb BK517 hb; replace HB := bp hb; clear hb ho0 ho1; obtain ⟨Ao48, co48, eo48⟩ := Kd.R_slice HO557.out
      (first | subst eo48 | (injection eo48 with f1_ f2_ f3_; have f4_ := f1_.symm; have f5_ := f3_.symm; clear f1_ f2_ f3_; subst f4_; subst f5_))
      obtain ⟨Ao50, co50, eo50⟩ := Kd.R_slice HO560.out
      (first | subst eo50 | (injection eo50 with f1_ f2_ f3_; have f4_ := f1_.symm; have f5_ := f3_.symm; clear f1_ f2_ f3_; subst f4_; subst f5_))
      refine hK.out _ _ ⟨ct BK517 0, ct BK517 1, ct BK517 2⟩ (fun hHeld => ?_); clear hK K; refine zM 30 ?_; refine last_ (i := 4) (N := none) (bs 5 31) rfl rfl (by kernel_rfl) (by decide) (fun K hK => ?_); have hs47 : w46.cell? ⟨gb517, 0, none⟩ = some (.bool x518000_1) := ct BK517 0; have hfs47 := blk_frozen BK517.out 0; have hs49 : w46.cell? ⟨gb517, 1, none⟩ = some (.slice Ao42 x518001_1.length co42) := ct BK517 1; have hfs49 := blk_frozen BK517.out 1; have hs51 : w46.cell? ⟨gb517, 2, none⟩ = some (.slice Ao43 x518002_1.length co43) := ct BK517 2; have hfs51 := blk_frozen BK517.out 2; refine skip_ (w1 := ?_) (by rfl) rfl ?_ ?_
      rotate_left
      ·go_simp
       rfl
      refine hK.out _ _ ?_; clear hK K; refine done_ (by kernel_rfl) ?_
      try go_wp2
      go_roundg k1
      case measure => have := HK1.out; omega
      case rel => exact ⟨(wrap64 (x4_1 + 1)), (t554), (t555), (t558), (.slice Ao48 t555.length co48), (.slice Ao50 t558.length co50), jz, H', ⟨by have := HK1.out; omega⟩, ⟨by (with_reducible repeat (first | apply Kd.R_alloc | apply Kd.R_drewN | apply Kd.R_drew)); exact Kd.R_mono (Kd.R_far (p := ⟨gb517, 2, none⟩) (Kd.R_far (p := ⟨gb517, 1, none⟩) (Kd.R_far (p := ⟨gb517, 0, none⟩) (Kd.R_types HO557.out BK517.out (by decide)) (fun _ hk => hk.2) (.bool t554)) (fun _ hk => hk.2) (.slice Ao48 t555.length co48)) (fun _ hk => hk.2) (.slice Ao50 t558.length co50)) (fun _ hk => hk.1.1.1.1.1)⟩, ⟨by (with_reducible repeat (first | apply Kd.R_alloc | apply Kd.R_drewN | apply Kd.R_drew)); exact Kd.R_mono (Kd.R_far (p := ⟨gb517, 2, none⟩) (Kd.R_far (p := ⟨gb517, 1, none⟩) (Kd.R_far (p := ⟨gb517, 0, none⟩) (Kd.R_types HO560.out BK517.out (by decide)) (fun _ hk => hk.2) (.bool t554)) (fun _ hk => hk.2) (.slice Ao48 t555.length co48)) (fun _ hk => hk.2) (.slice Ao50 t558.length co50)) (fun _ hk => hk.1.1.1.1.1)⟩, ⟨by (with_reducible repeat (first | refine blk_drewN ?_ _ | refine blk_drew ?_ | refine blk_alloc ?_ _)); refine blk_put (cs := #[.bool t554, .slice Ao48 t555.length co48, .slice Ao43 x518002_1.length co43]) ?_ 2 _ rfl; (with_reducible repeat (first | refine blk_drewN ?_ _ | refine blk_drew ?_ | refine blk_alloc ?_ _)); refine blk_put (cs := #[.bool t554, .slice Ao42 x518001_1.length co42, .slice Ao43 x518002_1.length co43]) ?_ 1 _ rfl; (with_reducible repeat (first | refine blk_drewN ?_ _ | refine blk_drew ?_ | refine blk_alloc ?_ _)); refine blk_put (cs := #[.bool x518000_1, .slice Ao42 x518001_1.length co42, .slice Ao43 x518002_1.length co43]) ?_ 0 _ rfl; (with_reducible repeat (first | refine blk_drewN ?_ _ | refine blk_drew ?_ | refine blk_alloc ?_ _)); exact BK517.out⟩, ⟨bz⟩⟩
    ·rw [if_neg c9] at H
     exact absurd H (by simp)
   ·rw [if_neg c8] at H; have c8b0 : decide (x4_1 < (l0.length : Int)) = false := decide_eq_false c8; clear c8; have HC52 := Aside0.mk H; clear H
    go_upto_region 10 with (fail)
    go_cut [38] (fun v38 wc => ∃ (kq : Nat) (x38_51 : Bool), v38 = .bool x38_51 ∧ Aside0 (dioramaref10_Length.j1 kq x38_51 x518000_1 x518001_1 x518002_1 = some r) ∧ Aside0 (kq ≤ k1) ∧ Aside0 (Kd.R (Kd.int .i64) 3 wc w.heap.size (fun k_ => some k_ ≠ (u518002 : Value).ownBlock) u518001 x518001_1) ∧ Aside0 (Kd.R (Kd.int .i64) 3 wc w.heap.size (fun k_ => some k_ ≠ (u518001 : Value).ownBlock) u518002 x518002_1) ∧ Aside0 (wc.heap[gb517]? = some (.cells #[.bool x518000_1, u518001, u518002] 95 (0, 0))) ∧ Aside0 (Below w.heap.size w wc))
    case first =>
     have H := HC52.out; clear HC52
     by_cases c53 : x518000_1 = true
     ·subst c53; rw [if_pos rfl] at H; have H' := Aside0.mk H; clear H; obtain ⟨hcz54_0, hcz54_1, hcz54_2, hfz54_0, hfz54_1, hfz54_2⟩ := xc3 BK517; obtain ⟨Ao55, co55, eo55⟩ := Kd.R_slice HO_518001.out; subst eo55
      go_wp2
      go_meet
      case rel => exact ⟨_, (decide ((x518001_1.length : Int) > 0)), jz, H', ⟨by have := HK1.out; first | omega | exact Nat.le_refl _⟩, ⟨rz HO_518001⟩, ⟨rz HO_518002⟩, ⟨kz⟩, ⟨bz⟩⟩
     ·obtain rfl := bf c53; rw [if_neg (show ¬ (false = true) by decide)] at H; have H' := Aside0.mk H; clear H; obtain ⟨hcz56_0, hcz56_1, hcz56_2, hfz56_0, hfz56_1, hfz56_2⟩ := xc3 BK517
      go_wp2
      go_meet
      case rel => exact ⟨_, (false), jz, H', ⟨by have := HK1.out; first | omega | exact Nat.le_refl _⟩, ⟨rz HO_518001⟩, ⟨rz HO_518002⟩, ⟨kz⟩, ⟨bz⟩⟩
    case rest =>
     clear HC52
     try clear c1
     try clear p2
     try clear c5
     try clear p5
     try clear q5
     try clear hx5
     try clear c6
     try clear p6
     try clear c8
     try clear c8b0
     try clear c9
     try clear c9b0
     try clear c10
     try clear c10b0
     try clear p51
     try clear q51
     try clear hx51
     try clear c53
     try clear hcz54_0
     try clear hcz54_1
     try clear hcz54_2
     try clear hcz56_0
     try clear hcz56_1
     try clear hcz56_2
     try clear hfz54_0
     try clear hfz54_1
     try clear hfz54_2
     try clear hfz56_0
     try clear hfz56_1
     try clear hfz56_2
     try clear hx518_0
     try clear hx518_1
     try clear hx518_2
     try clear hx518_3
     try clear p518
     try clear q518
     obtain ⟨kq, x38_51, rfl, HA, HJ51, HO_518001, HO_518002, BK517, HB⟩ := hcut
     cases kq with
     | zero => exact absurd HA.out (by simp [dioramaref10_Length.j1])
     | succ kj51 =>
      have H := HA.out; clear HA; simp only [dioramaref10_Length.j1] at H
      by_cases c57 : x38_51 = true
      ·subst c57; rw [if_pos rfl] at H; obtain rfl := Option.some.inj H
       go_wp2
       go_ret
       exact ⟨ez, bz⟩
      ·obtain rfl := bf c57; rw [if_neg (show ¬ (false = true) by decide)] at H; obtain ⟨⟨t561, t562⟩, A58, H⟩ := ob H
       (try dsimp only at H)
       by_cases c59 : t562 = true
       ·subst c59; rw [if_pos rfl] at H; obtain rfl := Option.some.inj H; obtain ⟨hcz60_0, hcz60_1, hcz60_2, hfz60_0, hfz60_1, hfz60_2⟩ := xc3 BK517; obtain ⟨Ao61, co61, eo61⟩ := Kd.R_slice HO_518001.out; subst eo61
        go_wp2_with (first | ((with_reducible refine gate_callee (f := 70) rfl ?_); refine zC 42 Try.func70 #[.slice Ao61 x518001_1.length co61, .int .i64 1099511627776] ?_; (with_reducible refine (dioramaref02_Small.calls kj51 _ _ x518001_1 1099511627776 t561 true _ ?side1 ?side2 A58.out).mono ?_); (case side1 => exact cr HO_518001); (case side2 => exact (Kd.R_reads' HO_518001.out).2.1); rintro e w62 ⟨rfl, hb⟩; refine ⟨_, rfl, ?_⟩; replace HO_518001 := Aside0.mk (Kd.R_below (rz HO_518001) hb); replace HO_518002 := Aside0.mk (Kd.R_below (rz HO_518002) hb); replace BK517 := kb BK517 hb; replace HB := bp hb; clear hb))
        go_ret
        exact ⟨ez, bz⟩
       ·obtain rfl := bf c59; rw [if_neg (show ¬ (false = true) by decide)] at H; obtain rfl := Option.some.inj H; obtain ⟨hcz63_0, hcz63_1, hcz63_2, hfz63_0, hfz63_1, hfz63_2⟩ := xc3 BK517; obtain ⟨Ao64, co64, eo64⟩ := Kd.R_slice HO_518001.out; subst eo64
        go_wp2_with (first | ((with_reducible refine gate_callee (f := 70) rfl ?_); refine zC 42 Try.func70 #[.slice Ao64 x518001_1.length co64, .int .i64 1099511627776] ?_; (with_reducible refine (dioramaref02_Small.calls kj51 _ _ x518001_1 1099511627776 t561 false _ ?side1 ?side2 A58.out).mono ?_); (case side1 => exact cr HO_518001); (case side2 => exact (Kd.R_reads' HO_518001.out).2.1); rintro e w65 ⟨rfl, hb⟩; refine ⟨_, rfl, ?_⟩; replace HO_518001 := Aside0.mk (Kd.R_below (rz HO_518001) hb); replace HO_518002 := Aside0.mk (Kd.R_below (rz HO_518002) hb); replace BK517 := kb BK517 hb; replace HB := bp hb; clear hb))
        go_ret
        exact ⟨ez, bz⟩
end Go.Proofs.Ytpbhepdgamoiaaa.E
namespace Go.Proofs.Ytpbhepdgamoiaaa.E
open Go.Proofs.Ytpbhepdgamoiaaa.Z Go.RowKit Go.Proofs.YtpbhepdgamoiaaaW.PrintWords Go.Proofs.YtpbhepdgamoiaaaW.PrintLast Go.Proofs.YtpbhepdgamoiaaaW.PrintMore
attribute [local go_sem] max2_int min2_int max_two min_two max_three min_three max_four min_four
set_option linter.unusedVariables false
set_option linter.unusedSimpArgs false
attribute [local go_sem high] eqA77
def dioramalaw10_EditChecks.f (k : Nat) (l0_0 : List (S77)) (a0_1 : Int) (a0_2 : Int) : Option (Bool) := (dioramalaw10_many.f l0_0).bind fun t564 => (if t564 = true then ((dioramalaw10_awake.f k).bind fun t565 => (some t565)) else ((edit_Normal.f k l0_0 a0_1 a0_2).bind fun bt566 => ((dioramaref10_Normal.f k l0_0 a0_1 a0_2).bind fun bt570 => ((dioramalaw10_eq.f k bt566.1 bt566.2 bt570.1 bt570.2).bind fun t574 => (if t574 = true then ((edit_Check.f k l0_0 a0_1 a0_2).bind fun t575 => ((dioramaref10_Check.f k l0_0 a0_1 a0_2).bind fun t576 => (if t575 = t576 then ((edit_Length.f l0_0).bind fun t577 => ((dioramaref10_Length.f k l0_0).bind fun t578 => (if t577 = t578 then ((dioramalaw10_awake.f k).bind fun t579 => (some t579)) else (some false)))) else (some false)))) else (some false))))))
set_option maxHeartbeats 8000000 in
set_option maxRecDepth 100000 in
theorem dioramalaw10_EditChecks.calls (k : Nat) (A0_0 : Option Addr) (c0_0 : Nat) (l0_0 : List (S77)) (a0_1 : Int) (a0_2 : Int) (r : Bool) (w : World) (hr0_0 : Kd.C k77 w A0_0 l0_0.length l0_0) (hc0_0 : l0_0.length ≤ c0_0) (h : dioramalaw10_EditChecks.f k l0_0 a0_1 a0_2 = some r) :
  Calls Try.prog 3 #[.agg #[.slice A0_0 l0_0.length c0_0, .int .i64 a0_1, .int .i64 a0_2]] w fun e w' => e = .returned (.bool r) ∧ Below w.heap.size w w' := by
 have hu24 := Try.underlying24; have HR0_0 := Aside0.mk hr0_0; have HC0_0 := Aside0.mk hc0_0; clear hr0_0 hc0_0; have HB := Aside0.mk (Below.refl w.heap.size w); have H : ((dioramalaw10_many.f l0_0).bind fun t564 => (if t564 = true then ((dioramalaw10_awake.f k).bind fun t565 => (some t565)) else ((edit_Normal.f k l0_0 a0_1 a0_2).bind fun bt566 => ((dioramaref10_Normal.f k l0_0 a0_1 a0_2).bind fun bt570 => ((dioramalaw10_eq.f k bt566.1 bt566.2 bt570.1 bt570.2).bind fun t574 => (if t574 = true then ((edit_Check.f k l0_0 a0_1 a0_2).bind fun t575 => ((dioramaref10_Check.f k l0_0 a0_1 a0_2).bind fun t576 => (if t575 = t576 then ((edit_Length.f l0_0).bind fun t577 => ((dioramaref10_Length.f k l0_0).bind fun t578 => (if t577 = t578 then ((dioramalaw10_awake.f k).bind fun t579 => (some t579)) else (some false)))) else (some false)))) else (some false))))))) = some r := h
 clear h; obtain ⟨t564, A2, H⟩ := ob H
 by_cases c3 : t564 = true
 ·subst c3; rw [if_pos rfl] at H; obtain ⟨t565, A4, H⟩ := ob H; obtain rfl := Option.some.inj H
  go_enter Try.func3, Try.ntmps3
  go_wp2_with (first | ((with_reducible refine gate_dst (N := 1) rfl ?_); refine zB 1 24 #[.slice A0_0 l0_0.length c0_0, .int .i64 a0_1, .int .i64 a0_2] ?_; intro gb563 hg w5 hbox hb; have BK563 := Aside0.mk hbox; have GW563 := gz hg; have GE563 := gz hg; replace HB := bp hb; clear hb hbox hg; obtain ⟨hcz6_0, hcz6_1, hcz6_2, hfz6_0, hfz6_1, hfz6_2⟩ := xc3 BK563) | ((with_reducible refine gate_callee (f := 19) rfl ?_); refine zC 9 Try.func19 #[.slice A0_0 l0_0.length c0_0] ?_; (with_reducible refine (dioramalaw10_many.calls _ _ l0_0 true _ ?side1 ?side2 A2.out).mono ?_); (case side1 => exact cz HR0_0); (case side2 => exact HC0_0.out); rintro e w' ⟨rfl, ⟨nd, rfl⟩⟩; refine ⟨_, rfl, ?_⟩) | ((with_reducible refine gate_callee (f := 20) rfl ?_); refine zC 10 Try.func20 #[] ?_; (with_reducible refine (dioramalaw10_awake.calls k  t565 _ A4.out).mono ?_); rintro e w7 ⟨rfl, hb⟩; refine ⟨_, rfl, ?_⟩; replace BK563 := kb BK563 hb; replace HB := bp hb; clear hb))
  go_ret
  exact ⟨ez, bz⟩
 ·obtain rfl := bf c3; rw [if_neg (show ¬ (false = true) by decide)] at H; obtain ⟨⟨t566, t567⟩, A8, H⟩ := ob H
  (try dsimp only at H)
  obtain ⟨⟨t570, t571⟩, A9, H⟩ := ob H
  (try dsimp only at H)
  obtain ⟨t574, A10, H⟩ := ob H
  by_cases c11 : t574 = true
  ·subst c11; rw [if_pos rfl] at H; obtain ⟨t575, A12, H⟩ := ob H; obtain ⟨t576, A13, H⟩ := ob H
   by_cases c14 : t575 = t576
   ·rw [if_pos c14] at H; have c14b0 : (t575 == t576) = true := beq_iff_eq.mpr c14; have c14b1 : (t575 != t576) = false := bne_eq_false_iff_eq.mpr c14; clear c14; obtain ⟨t577, A15, H⟩ := ob H; obtain ⟨t578, A16, H⟩ := ob H
    by_cases c17 : t577 = t578
    ·rw [if_pos c17] at H; have c17b0 : (t577 == t578) = true := beq_iff_eq.mpr c17; have c17b1 : (t577 != t578) = false := bne_eq_false_iff_eq.mpr c17; clear c17; obtain ⟨t579, A18, H⟩ := ob H; obtain rfl := Option.some.inj H
     go_enter Try.func3, Try.ntmps3
     try go_wp2_with (first | ((with_reducible refine gate_dst (N := 1) rfl ?_); refine zB 1 24 #[.slice A0_0 l0_0.length c0_0, .int .i64 a0_1, .int .i64 a0_2] ?_; intro gb563 hg w19 hbox hb; have BK563 := Aside0.mk hbox; have GW563 := gz hg; have GE563 := gz hg; replace HB := bp hb; clear hb hbox hg; obtain ⟨hcz20_0, hcz20_1, hcz20_2, hfz20_0, hfz20_1, hfz20_2⟩ := xc3 BK563) | ((with_reducible refine gate_callee (f := 19) rfl ?_); refine zC 9 Try.func19 #[.slice A0_0 l0_0.length c0_0] ?_; (with_reducible refine (dioramalaw10_many.calls _ _ l0_0 false _ ?side1 ?side2 A2.out).mono ?_); (case side1 => exact cz HR0_0); (case side2 => exact HC0_0.out); rintro e w' ⟨rfl, ⟨nd, rfl⟩⟩; refine ⟨_, rfl, ?_⟩) | ((with_reducible refine gate_callee (f := 21) rfl ?_); refine zC 18 Try.func21 #[.slice A0_0 l0_0.length c0_0, .int .i64 a0_1, .int .i64 a0_2] ?_; (with_reducible refine (edit_Normal.calls k _ _ l0_0 a0_1 a0_2 t566 t567 _ ?side1 ?side2 A8.out).mono ?_); (case side1 => repeat (first | exact (Kd.C_below HR0_0.out bz) | (with_reducible refine Kd.C_alloc ?_ _) | (with_reducible refine Kd.C_drewN ?_ _) | (with_reducible refine Kd.C_drew ?_))); (case side2 => exact HC0_0.out); rintro e w21 ⟨v568, rfl, ho0, hb⟩; refine ⟨_, rfl, ?_⟩; have HO569 := Aside0.mk (Kd.R_lower ho0 sz); replace BK563 := kb BK563 hb; replace HB := bp hb; clear hb ho0; obtain ⟨hcz22_0, hcz22_1, hcz22_2, hfz22_0, hfz22_1, hfz22_2⟩ := xc3 BK563) | ((with_reducible refine gate_callee (f := 22) rfl ?_); refine zC 28 Try.func22 #[.slice A0_0 l0_0.length c0_0, .int .i64 a0_1, .int .i64 a0_2] ?_; (with_reducible refine (dioramaref10_Normal.calls k _ _ l0_0 a0_1 a0_2 t570 t571 _ ?side1 ?side2 A9.out).mono ?_); (case side1 => exact cz HR0_0); (case side2 => exact HC0_0.out); rintro e w23 ⟨v572, rfl, ho0, hb⟩; refine ⟨_, rfl, ?_⟩; have HO573 := Aside0.mk (Kd.R_lower (Kd.R_new' ho0 (Kd.R_lt (rz HO569))) sz); replace HO569 := Aside0.mk (Kd.R_elder' (rz HO569) (Kd.R_base ho0) hb); replace BK563 := kb BK563 hb; replace HB := bp hb; clear hb ho0))
     replace HO569 := Aside0.mk (Kd.R_drew HO569.out); replace HO573 := Aside0.mk (Kd.R_drew HO573.out); replace BK563 := Aside0.mk (blk_drew BK563.out); replace HB := Aside0.mk (below_drew1 HB.out); obtain ⟨Ao25, co25, eo25⟩ := Kd.R_slice HO569.out
     (first | subst eo25 | (injection eo25 with f1_ f2_ f3_; have f4_ := f1_.symm; have f5_ := f3_.symm; clear f1_ f2_ f3_; subst f4_; subst f5_))
     obtain ⟨Ao26, co26, eo26⟩ := Kd.R_slice HO573.out
     (first | subst eo26 | (injection eo26 with f1_ f2_ f3_; have f4_ := f1_.symm; have f5_ := f3_.symm; clear f1_ f2_ f3_; subst f4_; subst f5_))
     refine start_ (n := 35) (S := fun w' => w'.cell? ⟨gb563, 0, none⟩ = some (.slice A0_0 l0_0.length c0_0) ∧ w'.cell? ⟨gb563, 1, none⟩ = some (.int .i64 a0_1) ∧ w'.cell? ⟨gb563, 2, none⟩ = some (.int .i64 a0_2)) (ds := []) (bs 35 0) (by kernel_rfl) rfl rfl ⟨ct BK563 0, ct BK563 1, ct BK563 2⟩ (fun hHeld => ?_)
     generalize w23.drew = w24 at HO569 HO573 BK563 HB hHeld ⊢; refine zP 0 31 35 1 ?_; refine zP 1 32 35 3 ?_; refine zP 2 33 35 7 ?_; refine zP 3 34 35 15 ?_; refine zN 4 (some 35) 35 31 (fun K hK => ?_); refine zG Try.func23 #[.slice Ao25 t566.length co25, .int .i64 t567, .slice Ao26 t570.length co26, .int .i64 t571] ?_
     with_reducible refine (dioramalaw10_eq.calls k _ _ t566 t567 _ _ t570 t571 true _ ?side1 ?side2 ?side3 ?side4 A10.out).mono ?_
     (case side1 => exact cr HO569)
     (case side2 => exact (Kd.R_reads' HO569.out).2.1)
     (case side3 => exact cr HO573)
     (case side4 => exact (Kd.R_reads' HO573.out).2.1)
     rintro e w' ⟨rfl, ⟨nd, rfl⟩⟩; refine ⟨_, rfl, ?_⟩; refine hK.out _ _ ⟨ct BK563 0, ct BK563 1, ct BK563 2⟩ (fun hHeld => ?_); clear hK K; refine zM 35 ?_; refine zP 5 36 35 63 ?_; refine zP 6 37 35 127 ?_; refine zP 8 39 35 383 ?_; refine zP 10 41 35 1407 ?_; refine zP 13 44 35 9599 ?_; refine zP 15 46 35 42367 ?_; refine zP 17 48 35 173439 ?_; refine zT 7 38 35 173567 hHeld ?_; refine zT 9 40 35 174079 hHeld ?_; refine zT 11 42 35 176127 hHeld ?_; refine zT 14 45 35 192511 hHeld ?_; refine zT 16 47 35 258047 hHeld ?_; refine zT 18 49 35 520191 hHeld ?_; refine zN 12 (some 43) 35 524287 (fun K hK => ?_); refine zG Try.func24 #[.slice A0_0 l0_0.length c0_0, .int .i64 a0_1, .int .i64 a0_2] ?_
     with_reducible refine (edit_Check.calls k _ _ l0_0 a0_1 a0_2 t575 _ ?side1 ?side2 A12.out).mono ?_
     (case side1 => repeat (first | exact (Kd.C_below HR0_0.out bz) | (with_reducible refine Kd.C_alloc ?_ _) | (with_reducible refine Kd.C_drewN ?_ _) | (with_reducible refine Kd.C_drew ?_)))
     (case side2 => exact HC0_0.out)
     rintro e w27 ⟨rfl, hb⟩; refine ⟨_, rfl, ?_⟩; replace HO569 := Aside0.mk (Kd.R_below (rz HO569) hb); replace HO573 := Aside0.mk (Kd.R_below (rz HO573) hb); replace BK563 := kb BK563 hb; replace HB := bp hb; clear hb; refine hK.out _ _ ⟨ct BK563 0, ct BK563 1, ct BK563 2⟩ (fun hHeld => ?_); clear hK K; refine zM 43 ?_; refine zN 19 (some 50) 35 1048575 (fun K hK => ?_); refine zG Try.func25 #[.slice A0_0 l0_0.length c0_0, .int .i64 a0_1, .int .i64 a0_2] ?_
     with_reducible refine (dioramaref10_Check.calls k _ _ l0_0 a0_1 a0_2 t576 _ ?side1 ?side2 A13.out).mono ?_
     (case side1 => exact cz HR0_0)
     (case side2 => exact HC0_0.out)
     rintro e w28 ⟨rfl, hb⟩; refine ⟨_, rfl, ?_⟩; replace HO569 := Aside0.mk (Kd.R_below (rz HO569) hb); replace HO573 := Aside0.mk (Kd.R_below (rz HO573) hb); replace BK563 := kb BK563 hb; replace HB := bp hb; clear hb; refine hK.out _ _ ⟨ct BK563 0, ct BK563 1, ct BK563 2⟩ (fun hHeld => ?_); clear hK K; refine zM 50 ?_; refine zP 20 51 35 2097151 ?_; refine zP 21 52 35 4194303 ?_; refine zP 22 53 35 8388607 ?_; refine zP 23 54 35 16777215 ?_; refine zP 26 57 35 83886079 ?_; refine zT 24 55 35 100663295 hHeld ?_; refine zT 27 58 35 234881023 hHeld ?_; refine zN 25 (some 56) 35 268435455 (fun K hK => ?_); refine zG Try.func26 #[.slice A0_0 l0_0.length c0_0] ?_
     with_reducible refine (edit_Length.calls _ _ l0_0 t577 _ ?side1 ?side2 A15.out).mono ?_
     (case side1 => exact cz HR0_0)
     (case side2 => exact HC0_0.out)
     rintro e w29 ⟨rfl, hb⟩; refine ⟨_, rfl, ?_⟩; replace HO569 := Aside0.mk (Kd.R_below (rz HO569) hb); replace HO573 := Aside0.mk (Kd.R_below (rz HO573) hb); replace BK563 := kb BK563 hb; replace HB := bp hb; clear hb; refine hK.out _ _ ⟨ct BK563 0, ct BK563 1, ct BK563 2⟩ (fun hHeld => ?_); clear hK K; refine zM 56 ?_; refine zN 28 (some 59) 35 536870911 (fun K hK => ?_); refine zG Try.func27 #[.slice A0_0 l0_0.length c0_0] ?_
     with_reducible refine (dioramaref10_Length.calls k _ _ l0_0 t578 _ ?side1 ?side2 A16.out).mono ?_
     (case side1 => exact cz HR0_0)
     (case side2 => exact HC0_0.out)
     rintro e w30 ⟨rfl, hb⟩; refine ⟨_, rfl, ?_⟩; replace HO569 := Aside0.mk (Kd.R_below (rz HO569) hb); replace HO573 := Aside0.mk (Kd.R_below (rz HO573) hb); replace BK563 := kb BK563 hb; replace HB := bp hb; clear hb; refine hK.out _ _ ⟨ct BK563 0, ct BK563 1, ct BK563 2⟩ (fun hHeld => ?_); clear hK K; refine zM 59 ?_; refine zP 29 60 35 1073741823 ?_; refine zP 30 61 35 2147483647 ?_; refine zP 31 62 35 4294967295 ?_; refine zN 32 (some 63) 35 8589934591 (fun K hK => ?_); refine zG Try.func20 #[] ?_
     with_reducible refine (dioramalaw10_awake.calls k  t579 _ A18.out).mono ?_
     rintro e w31 ⟨rfl, hb⟩; refine ⟨_, rfl, ?_⟩; replace HO569 := Aside0.mk (Kd.R_below (rz HO569) hb); replace HO573 := Aside0.mk (Kd.R_below (rz HO573) hb); replace BK563 := kb BK563 hb; replace HB := bp hb; clear hb; refine hK.out _ _ ⟨ct BK563 0, ct BK563 1, ct BK563 2⟩ (fun hHeld => ?_); clear hK K; refine zM 63 ?_; refine zP 33 64 35 17179869183 ?_; refine zP 34 2 35 34359738367 ?_; refine done_ (by kernel_rfl) ?_
     try go_wp2
     go_ret
     exact ⟨ez, bz⟩
    ·rw [if_neg c17] at H; have c17b0 : (t577 == t578) = false := beq_eq_false_iff_ne.mpr c17; have c17b1 : (t577 != t578) = true := bne_iff_ne.mpr c17; obtain rfl := Option.some.inj H
     go_enter Try.func3, Try.ntmps3
     try go_wp2_with (first | ((with_reducible refine gate_dst (N := 1) rfl ?_); refine zB 1 24 #[.slice A0_0 l0_0.length c0_0, .int .i64 a0_1, .int .i64 a0_2] ?_; intro gb563 hg w32 hbox hb; have BK563 := Aside0.mk hbox; have GW563 := gz hg; have GE563 := gz hg; replace HB := bp hb; clear hb hbox hg; obtain ⟨hcz33_0, hcz33_1, hcz33_2, hfz33_0, hfz33_1, hfz33_2⟩ := xc3 BK563) | ((with_reducible refine gate_callee (f := 19) rfl ?_); refine zC 9 Try.func19 #[.slice A0_0 l0_0.length c0_0] ?_; (with_reducible refine (dioramalaw10_many.calls _ _ l0_0 false _ ?side1 ?side2 A2.out).mono ?_); (case side1 => exact cz HR0_0); (case side2 => exact HC0_0.out); rintro e w' ⟨rfl, ⟨nd, rfl⟩⟩; refine ⟨_, rfl, ?_⟩) | ((with_reducible refine gate_callee (f := 21) rfl ?_); refine zC 18 Try.func21 #[.slice A0_0 l0_0.length c0_0, .int .i64 a0_1, .int .i64 a0_2] ?_; (with_reducible refine (edit_Normal.calls k _ _ l0_0 a0_1 a0_2 t566 t567 _ ?side1 ?side2 A8.out).mono ?_); (case side1 => repeat (first | exact (Kd.C_below HR0_0.out bz) | (with_reducible refine Kd.C_alloc ?_ _) | (with_reducible refine Kd.C_drewN ?_ _) | (with_reducible refine Kd.C_drew ?_))); (case side2 => exact HC0_0.out); rintro e w34 ⟨v568, rfl, ho0, hb⟩; refine ⟨_, rfl, ?_⟩; have HO569 := Aside0.mk (Kd.R_lower ho0 sz); replace BK563 := kb BK563 hb; replace HB := bp hb; clear hb ho0; obtain ⟨hcz35_0, hcz35_1, hcz35_2, hfz35_0, hfz35_1, hfz35_2⟩ := xc3 BK563) | ((with_reducible refine gate_callee (f := 22) rfl ?_); refine zC 28 Try.func22 #[.slice A0_0 l0_0.length c0_0, .int .i64 a0_1, .int .i64 a0_2] ?_; (with_reducible refine (dioramaref10_Normal.calls k _ _ l0_0 a0_1 a0_2 t570 t571 _ ?side1 ?side2 A9.out).mono ?_); (case side1 => exact cz HR0_0); (case side2 => exact HC0_0.out); rintro e w36 ⟨v572, rfl, ho0, hb⟩; refine ⟨_, rfl, ?_⟩; have HO573 := Aside0.mk (Kd.R_lower (Kd.R_new' ho0 (Kd.R_lt (rz HO569))) sz); replace HO569 := Aside0.mk (Kd.R_elder' (rz HO569) (Kd.R_base ho0) hb); replace BK563 := kb BK563 hb; replace HB := bp hb; clear hb ho0))
     replace HO569 := Aside0.mk (Kd.R_drew HO569.out); replace HO573 := Aside0.mk (Kd.R_drew HO573.out); replace BK563 := Aside0.mk (blk_drew BK563.out); replace HB := Aside0.mk (below_drew1 HB.out); obtain ⟨Ao38, co38, eo38⟩ := Kd.R_slice HO569.out
     (first | subst eo38 | (injection eo38 with f1_ f2_ f3_; have f4_ := f1_.symm; have f5_ := f3_.symm; clear f1_ f2_ f3_; subst f4_; subst f5_))
     obtain ⟨Ao39, co39, eo39⟩ := Kd.R_slice HO573.out
     (first | subst eo39 | (injection eo39 with f1_ f2_ f3_; have f4_ := f1_.symm; have f5_ := f3_.symm; clear f1_ f2_ f3_; subst f4_; subst f5_))
     refine start_ (n := 35) (S := fun w' => w'.cell? ⟨gb563, 0, none⟩ = some (.slice A0_0 l0_0.length c0_0) ∧ w'.cell? ⟨gb563, 1, none⟩ = some (.int .i64 a0_1) ∧ w'.cell? ⟨gb563, 2, none⟩ = some (.int .i64 a0_2)) (ds := []) (bs 35 0) (by kernel_rfl) rfl rfl ⟨ct BK563 0, ct BK563 1, ct BK563 2⟩ (fun hHeld => ?_)
     generalize w36.drew = w37 at HO569 HO573 BK563 HB hHeld ⊢; refine zP 0 31 35 1 ?_; refine zP 1 32 35 3 ?_; refine zP 2 33 35 7 ?_; refine zP 3 34 35 15 ?_; refine zN 4 (some 35) 35 31 (fun K hK => ?_); refine zG Try.func23 #[.slice Ao38 t566.length co38, .int .i64 t567, .slice Ao39 t570.length co39, .int .i64 t571] ?_
     with_reducible refine (dioramalaw10_eq.calls k _ _ t566 t567 _ _ t570 t571 true _ ?side1 ?side2 ?side3 ?side4 A10.out).mono ?_
     (case side1 => exact cr HO569)
     (case side2 => exact (Kd.R_reads' HO569.out).2.1)
     (case side3 => exact cr HO573)
     (case side4 => exact (Kd.R_reads' HO573.out).2.1)
     rintro e w' ⟨rfl, ⟨nd, rfl⟩⟩; refine ⟨_, rfl, ?_⟩; refine hK.out _ _ ⟨ct BK563 0, ct BK563 1, ct BK563 2⟩ (fun hHeld => ?_); clear hK K; refine zM 35 ?_; refine zP 5 36 35 63 ?_; refine zP 6 37 35 127 ?_; refine zP 8 39 35 383 ?_; refine zP 10 41 35 1407 ?_; refine zP 13 44 35 9599 ?_; refine zP 15 46 35 42367 ?_; refine zP 17 48 35 173439 ?_; refine zT 7 38 35 173567 hHeld ?_; refine zT 9 40 35 174079 hHeld ?_; refine zT 11 42 35 176127 hHeld ?_; refine zT 14 45 35 192511 hHeld ?_; refine zT 16 47 35 258047 hHeld ?_; refine zT 18 49 35 520191 hHeld ?_; refine zN 12 (some 43) 35 524287 (fun K hK => ?_); refine zG Try.func24 #[.slice A0_0 l0_0.length c0_0, .int .i64 a0_1, .int .i64 a0_2] ?_
     with_reducible refine (edit_Check.calls k _ _ l0_0 a0_1 a0_2 t575 _ ?side1 ?side2 A12.out).mono ?_
     (case side1 => repeat (first | exact (Kd.C_below HR0_0.out bz) | (with_reducible refine Kd.C_alloc ?_ _) | (with_reducible refine Kd.C_drewN ?_ _) | (with_reducible refine Kd.C_drew ?_)))
     (case side2 => exact HC0_0.out)
     rintro e w40 ⟨rfl, hb⟩; refine ⟨_, rfl, ?_⟩; replace HO569 := Aside0.mk (Kd.R_below (rz HO569) hb); replace HO573 := Aside0.mk (Kd.R_below (rz HO573) hb); replace BK563 := kb BK563 hb; replace HB := bp hb; clear hb; refine hK.out _ _ ⟨ct BK563 0, ct BK563 1, ct BK563 2⟩ (fun hHeld => ?_); clear hK K; refine zM 43 ?_; refine zN 19 (some 50) 35 1048575 (fun K hK => ?_); refine zG Try.func25 #[.slice A0_0 l0_0.length c0_0, .int .i64 a0_1, .int .i64 a0_2] ?_
     with_reducible refine (dioramaref10_Check.calls k _ _ l0_0 a0_1 a0_2 t576 _ ?side1 ?side2 A13.out).mono ?_
     (case side1 => exact cz HR0_0)
     (case side2 => exact HC0_0.out)
     rintro e w41 ⟨rfl, hb⟩; refine ⟨_, rfl, ?_⟩; replace HO569 := Aside0.mk (Kd.R_below (rz HO569) hb); replace HO573 := Aside0.mk (Kd.R_below (rz HO573) hb); replace BK563 := kb BK563 hb; replace HB := bp hb; clear hb; refine hK.out _ _ ⟨ct BK563 0, ct BK563 1, ct BK563 2⟩ (fun hHeld => ?_); clear hK K; refine zM 50 ?_; refine zP 20 51 35 2097151 ?_; refine zP 21 52 35 4194303 ?_; refine zP 22 53 35 8388607 ?_; refine zP 23 54 35 16777215 ?_; refine zP 26 57 35 83886079 ?_; refine zT 24 55 35 100663295 hHeld ?_; refine zT 27 58 35 234881023 hHeld ?_; refine zN 25 (some 56) 35 268435455 (fun K hK => ?_); refine zG Try.func26 #[.slice A0_0 l0_0.length c0_0] ?_
     with_reducible refine (edit_Length.calls _ _ l0_0 t577 _ ?side1 ?side2 A15.out).mono ?_
     (case side1 => exact cz HR0_0)
     (case side2 => exact HC0_0.out)
     rintro e w42 ⟨rfl, hb⟩; refine ⟨_, rfl, ?_⟩; replace HO569 := Aside0.mk (Kd.R_below (rz HO569) hb); replace HO573 := Aside0.mk (Kd.R_below (rz HO573) hb); replace BK563 := kb BK563 hb; replace HB := bp hb; clear hb; refine hK.out _ _ ⟨ct BK563 0, ct BK563 1, ct BK563 2⟩ (fun hHeld => ?_); clear hK K; refine zM 56 ?_; refine zN 28 (some 59) 35 536870911 (fun K hK => ?_); refine zG Try.func27 #[.slice A0_0 l0_0.length c0_0] ?_
     with_reducible refine (dioramaref10_Length.calls k _ _ l0_0 t578 _ ?side1 ?side2 A16.out).mono ?_
     (case side1 => exact cz HR0_0)
     (case side2 => exact HC0_0.out)
     rintro e w43 ⟨rfl, hb⟩; refine ⟨_, rfl, ?_⟩; replace HO569 := Aside0.mk (Kd.R_below (rz HO569) hb); replace HO573 := Aside0.mk (Kd.R_below (rz HO573) hb); replace BK563 := kb BK563 hb; replace HB := bp hb; clear hb; refine hK.out _ _ ⟨ct BK563 0, ct BK563 1, ct BK563 2⟩ (fun hHeld => ?_); clear hK K; refine zM 59 ?_; refine zP 29 60 35 1073741823 ?_; refine zP 30 61 35 2147483647 ?_; refine zP 31 62 35 4294967295 ?_; refine zO 32 63 35 8589934591 ?_; refine zP 33 64 35 17179869183 ?_; refine zP 34 2 35 34359738367 ?_; refine done_ (by kernel_rfl) ?_
     try go_wp2
     go_ret
     exact ⟨ez, bz⟩
   ·rw [if_neg c14] at H; have c14b0 : (t575 == t576) = false := beq_eq_false_iff_ne.mpr c14; have c14b1 : (t575 != t576) = true := bne_iff_ne.mpr c14; obtain rfl := Option.some.inj H
    go_enter Try.func3, Try.ntmps3
    try go_wp2_with (first | ((with_reducible refine gate_dst (N := 1) rfl ?_); refine zB 1 24 #[.slice A0_0 l0_0.length c0_0, .int .i64 a0_1, .int .i64 a0_2] ?_; intro gb563 hg w44 hbox hb; have BK563 := Aside0.mk hbox; have GW563 := gz hg; have GE563 := gz hg; replace HB := bp hb; clear hb hbox hg; obtain ⟨hcz45_0, hcz45_1, hcz45_2, hfz45_0, hfz45_1, hfz45_2⟩ := xc3 BK563) | ((with_reducible refine gate_callee (f := 19) rfl ?_); refine zC 9 Try.func19 #[.slice A0_0 l0_0.length c0_0] ?_; (with_reducible refine (dioramalaw10_many.calls _ _ l0_0 false _ ?side1 ?side2 A2.out).mono ?_); (case side1 => exact cz HR0_0); (case side2 => exact HC0_0.out); rintro e w' ⟨rfl, ⟨nd, rfl⟩⟩; refine ⟨_, rfl, ?_⟩) | ((with_reducible refine gate_callee (f := 21) rfl ?_); refine zC 18 Try.func21 #[.slice A0_0 l0_0.length c0_0, .int .i64 a0_1, .int .i64 a0_2] ?_; (with_reducible refine (edit_Normal.calls k _ _ l0_0 a0_1 a0_2 t566 t567 _ ?side1 ?side2 A8.out).mono ?_); (case side1 => repeat (first | exact (Kd.C_below HR0_0.out bz) | (with_reducible refine Kd.C_alloc ?_ _) | (with_reducible refine Kd.C_drewN ?_ _) | (with_reducible refine Kd.C_drew ?_))); (case side2 => exact HC0_0.out); rintro e w46 ⟨v568, rfl, ho0, hb⟩; refine ⟨_, rfl, ?_⟩; have HO569 := Aside0.mk (Kd.R_lower ho0 sz); replace BK563 := kb BK563 hb; replace HB := bp hb; clear hb ho0; obtain ⟨hcz47_0, hcz47_1, hcz47_2, hfz47_0, hfz47_1, hfz47_2⟩ := xc3 BK563) | ((with_reducible refine gate_callee (f := 22) rfl ?_); refine zC 28 Try.func22 #[.slice A0_0 l0_0.length c0_0, .int .i64 a0_1, .int .i64 a0_2] ?_; (with_reducible refine (dioramaref10_Normal.calls k _ _ l0_0 a0_1 a0_2 t570 t571 _ ?side1 ?side2 A9.out).mono ?_); (case side1 => exact cz HR0_0); (case side2 => exact HC0_0.out); rintro e w48 ⟨v572, rfl, ho0, hb⟩; refine ⟨_, rfl, ?_⟩; have HO573 := Aside0.mk (Kd.R_lower (Kd.R_new' ho0 (Kd.R_lt (rz HO569))) sz); replace HO569 := Aside0.mk (Kd.R_elder' (rz HO569) (Kd.R_base ho0) hb); replace BK563 := kb BK563 hb; replace HB := bp hb; clear hb ho0))
    replace HO569 := Aside0.mk (Kd.R_drew HO569.out); replace HO573 := Aside0.mk (Kd.R_drew HO573.out); replace BK563 := Aside0.mk (blk_drew BK563.out); replace HB := Aside0.mk (below_drew1 HB.out); obtain ⟨Ao50, co50, eo50⟩ := Kd.R_slice HO569.out
    (first | subst eo50 | (injection eo50 with f1_ f2_ f3_; have f4_ := f1_.symm; have f5_ := f3_.symm; clear f1_ f2_ f3_; subst f4_; subst f5_))
    obtain ⟨Ao51, co51, eo51⟩ := Kd.R_slice HO573.out
    (first | subst eo51 | (injection eo51 with f1_ f2_ f3_; have f4_ := f1_.symm; have f5_ := f3_.symm; clear f1_ f2_ f3_; subst f4_; subst f5_))
    refine start_ (n := 35) (S := fun w' => w'.cell? ⟨gb563, 0, none⟩ = some (.slice A0_0 l0_0.length c0_0) ∧ w'.cell? ⟨gb563, 1, none⟩ = some (.int .i64 a0_1) ∧ w'.cell? ⟨gb563, 2, none⟩ = some (.int .i64 a0_2)) (ds := []) (bs 35 0) (by kernel_rfl) rfl rfl ⟨ct BK563 0, ct BK563 1, ct BK563 2⟩ (fun hHeld => ?_)
    generalize w48.drew = w49 at HO569 HO573 BK563 HB hHeld ⊢; refine zP 0 31 35 1 ?_; refine zP 1 32 35 3 ?_; refine zP 2 33 35 7 ?_; refine zP 3 34 35 15 ?_; refine zN 4 (some 35) 35 31 (fun K hK => ?_); refine zG Try.func23 #[.slice Ao50 t566.length co50, .int .i64 t567, .slice Ao51 t570.length co51, .int .i64 t571] ?_
    with_reducible refine (dioramalaw10_eq.calls k _ _ t566 t567 _ _ t570 t571 true _ ?side1 ?side2 ?side3 ?side4 A10.out).mono ?_
    (case side1 => exact cr HO569)
    (case side2 => exact (Kd.R_reads' HO569.out).2.1)
    (case side3 => exact cr HO573)
    (case side4 => exact (Kd.R_reads' HO573.out).2.1)
    rintro e w' ⟨rfl, ⟨nd, rfl⟩⟩; refine ⟨_, rfl, ?_⟩; refine hK.out _ _ ⟨ct BK563 0, ct BK563 1, ct BK563 2⟩ (fun hHeld => ?_); clear hK K; refine zM 35 ?_; refine zP 5 36 35 63 ?_; refine zP 6 37 35 127 ?_; refine zP 8 39 35 383 ?_; refine zP 10 41 35 1407 ?_; refine zP 13 44 35 9599 ?_; refine zP 15 46 35 42367 ?_; refine zP 17 48 35 173439 ?_; refine zT 7 38 35 173567 hHeld ?_; refine zT 9 40 35 174079 hHeld ?_; refine zT 11 42 35 176127 hHeld ?_; refine zT 14 45 35 192511 hHeld ?_; refine zT 16 47 35 258047 hHeld ?_; refine zT 18 49 35 520191 hHeld ?_; refine zN 12 (some 43) 35 524287 (fun K hK => ?_); refine zG Try.func24 #[.slice A0_0 l0_0.length c0_0, .int .i64 a0_1, .int .i64 a0_2] ?_
    with_reducible refine (edit_Check.calls k _ _ l0_0 a0_1 a0_2 t575 _ ?side1 ?side2 A12.out).mono ?_
    (case side1 => repeat (first | exact (Kd.C_below HR0_0.out bz) | (with_reducible refine Kd.C_alloc ?_ _) | (with_reducible refine Kd.C_drewN ?_ _) | (with_reducible refine Kd.C_drew ?_)))
    (case side2 => exact HC0_0.out)
    rintro e w52 ⟨rfl, hb⟩; refine ⟨_, rfl, ?_⟩; replace HO569 := Aside0.mk (Kd.R_below (rz HO569) hb); replace HO573 := Aside0.mk (Kd.R_below (rz HO573) hb); replace BK563 := kb BK563 hb; replace HB := bp hb; clear hb; refine hK.out _ _ ⟨ct BK563 0, ct BK563 1, ct BK563 2⟩ (fun hHeld => ?_); clear hK K; refine zM 43 ?_; refine zN 19 (some 50) 35 1048575 (fun K hK => ?_); refine zG Try.func25 #[.slice A0_0 l0_0.length c0_0, .int .i64 a0_1, .int .i64 a0_2] ?_
    with_reducible refine (dioramaref10_Check.calls k _ _ l0_0 a0_1 a0_2 t576 _ ?side1 ?side2 A13.out).mono ?_
    (case side1 => exact cz HR0_0)
    (case side2 => exact HC0_0.out)
    rintro e w53 ⟨rfl, hb⟩; refine ⟨_, rfl, ?_⟩; replace HO569 := Aside0.mk (Kd.R_below (rz HO569) hb); replace HO573 := Aside0.mk (Kd.R_below (rz HO573) hb); replace BK563 := kb BK563 hb; replace HB := bp hb; clear hb; refine hK.out _ _ ⟨ct BK563 0, ct BK563 1, ct BK563 2⟩ (fun hHeld => ?_); clear hK K; refine zM 50 ?_; refine zP 20 51 35 2097151 ?_; refine zP 21 52 35 4194303 ?_; refine zP 22 53 35 8388607 ?_; refine zO 23 54 35 16777215 ?_; refine zO 24 55 35 33554431 ?_; refine zO 25 56 35 67108863 ?_; refine zO 26 57 35 134217727 ?_; refine zO 27 58 35 268435455 ?_; refine zO 28 59 35 536870911 ?_; refine zO 29 60 35 1073741823 ?_; refine zP 30 61 35 2147483647 ?_; refine zP 31 62 35 4294967295 ?_; refine zO 32 63 35 8589934591 ?_; refine zP 33 64 35 17179869183 ?_; refine zP 34 2 35 34359738367 ?_; refine done_ (by kernel_rfl) ?_
    try go_wp2
    go_ret
    exact ⟨ez, bz⟩
  ·obtain rfl := bf c11; rw [if_neg (show ¬ (false = true) by decide)] at H; obtain rfl := Option.some.inj H
   go_enter Try.func3, Try.ntmps3
   try go_wp2_with (first | ((with_reducible refine gate_dst (N := 1) rfl ?_); refine zB 1 24 #[.slice A0_0 l0_0.length c0_0, .int .i64 a0_1, .int .i64 a0_2] ?_; intro gb563 hg w54 hbox hb; have BK563 := Aside0.mk hbox; have GW563 := gz hg; have GE563 := gz hg; replace HB := bp hb; clear hb hbox hg; obtain ⟨hcz55_0, hcz55_1, hcz55_2, hfz55_0, hfz55_1, hfz55_2⟩ := xc3 BK563) | ((with_reducible refine gate_callee (f := 19) rfl ?_); refine zC 9 Try.func19 #[.slice A0_0 l0_0.length c0_0] ?_; (with_reducible refine (dioramalaw10_many.calls _ _ l0_0 false _ ?side1 ?side2 A2.out).mono ?_); (case side1 => exact cz HR0_0); (case side2 => exact HC0_0.out); rintro e w' ⟨rfl, ⟨nd, rfl⟩⟩; refine ⟨_, rfl, ?_⟩) | ((with_reducible refine gate_callee (f := 21) rfl ?_); refine zC 18 Try.func21 #[.slice A0_0 l0_0.length c0_0, .int .i64 a0_1, .int .i64 a0_2] ?_; (with_reducible refine (edit_Normal.calls k _ _ l0_0 a0_1 a0_2 t566 t567 _ ?side1 ?side2 A8.out).mono ?_); (case side1 => repeat (first | exact (Kd.C_below HR0_0.out bz) | (with_reducible refine Kd.C_alloc ?_ _) | (with_reducible refine Kd.C_drewN ?_ _) | (with_reducible refine Kd.C_drew ?_))); (case side2 => exact HC0_0.out); rintro e w56 ⟨v568, rfl, ho0, hb⟩; refine ⟨_, rfl, ?_⟩; have HO569 := Aside0.mk (Kd.R_lower ho0 sz); replace BK563 := kb BK563 hb; replace HB := bp hb; clear hb ho0; obtain ⟨hcz57_0, hcz57_1, hcz57_2, hfz57_0, hfz57_1, hfz57_2⟩ := xc3 BK563) | ((with_reducible refine gate_callee (f := 22) rfl ?_); refine zC 28 Try.func22 #[.slice A0_0 l0_0.length c0_0, .int .i64 a0_1, .int .i64 a0_2] ?_; (with_reducible refine (dioramaref10_Normal.calls k _ _ l0_0 a0_1 a0_2 t570 t571 _ ?side1 ?side2 A9.out).mono ?_); (case side1 => exact cz HR0_0); (case side2 => exact HC0_0.out); rintro e w58 ⟨v572, rfl, ho0, hb⟩; refine ⟨_, rfl, ?_⟩; have HO573 := Aside0.mk (Kd.R_lower (Kd.R_new' ho0 (Kd.R_lt (rz HO569))) sz); replace HO569 := Aside0.mk (Kd.R_elder' (rz HO569) (Kd.R_base ho0) hb); replace BK563 := kb BK563 hb; replace HB := bp hb; clear hb ho0))
   replace HO569 := Aside0.mk (Kd.R_drew HO569.out); replace HO573 := Aside0.mk (Kd.R_drew HO573.out); replace BK563 := Aside0.mk (blk_drew BK563.out); replace HB := Aside0.mk (below_drew1 HB.out); obtain ⟨Ao60, co60, eo60⟩ := Kd.R_slice HO569.out
   (first | subst eo60 | (injection eo60 with f1_ f2_ f3_; have f4_ := f1_.symm; have f5_ := f3_.symm; clear f1_ f2_ f3_; subst f4_; subst f5_))
   obtain ⟨Ao61, co61, eo61⟩ := Kd.R_slice HO573.out
   (first | subst eo61 | (injection eo61 with f1_ f2_ f3_; have f4_ := f1_.symm; have f5_ := f3_.symm; clear f1_ f2_ f3_; subst f4_; subst f5_))
   refine start_ (n := 35) (S := fun w' => True) (ds := []) (bs 35 0) (by kernel_rfl) rfl rfl trivial (fun hHeld => ?_); generalize w58.drew = w59 at HO569 HO573 BK563 HB hHeld ⊢; refine zP 0 31 35 1 ?_; refine zP 1 32 35 3 ?_; refine zP 2 33 35 7 ?_; refine zP 3 34 35 15 ?_; refine zN 4 (some 35) 35 31 (fun K hK => ?_); refine zG Try.func23 #[.slice Ao60 t566.length co60, .int .i64 t567, .slice Ao61 t570.length co61, .int .i64 t571] ?_
   with_reducible refine (dioramalaw10_eq.calls k _ _ t566 t567 _ _ t570 t571 false _ ?side1 ?side2 ?side3 ?side4 A10.out).mono ?_
   (case side1 => exact cr HO569)
   (case side2 => exact (Kd.R_reads' HO569.out).2.1)
   (case side3 => exact cr HO573)
   (case side4 => exact (Kd.R_reads' HO573.out).2.1)
   rintro e w' ⟨rfl, ⟨nd, rfl⟩⟩; refine ⟨_, rfl, ?_⟩; refine hK.out _ _ trivial (fun hHeld => ?_); clear hK K; refine zM 35 ?_; refine zP 5 36 35 63 ?_; refine zO 6 37 35 127 ?_; refine zO 7 38 35 255 ?_; refine zO 8 39 35 511 ?_; refine zO 9 40 35 1023 ?_; refine zO 10 41 35 2047 ?_; refine zO 11 42 35 4095 ?_; refine zO 12 43 35 8191 ?_; refine zO 13 44 35 16383 ?_; refine zO 14 45 35 32767 ?_; refine zO 15 46 35 65535 ?_; refine zO 16 47 35 131071 ?_; refine zO 17 48 35 262143 ?_; refine zO 18 49 35 524287 ?_; refine zO 19 50 35 1048575 ?_; refine zO 20 51 35 2097151 ?_; refine zP 21 52 35 4194303 ?_; refine zP 22 53 35 8388607 ?_; refine zO 23 54 35 16777215 ?_; refine zO 24 55 35 33554431 ?_; refine zO 25 56 35 67108863 ?_; refine zO 26 57 35 134217727 ?_; refine zO 27 58 35 268435455 ?_; refine zO 28 59 35 536870911 ?_; refine zO 29 60 35 1073741823 ?_; refine zP 30 61 35 2147483647 ?_; refine zP 31 62 35 4294967295 ?_; refine zO 32 63 35 8589934591 ?_; refine zP 33 64 35 17179869183 ?_; refine zP 34 2 35 34359738367 ?_; refine done_ (by kernel_rfl) ?_
   try go_wp2
   go_ret
   exact ⟨ez, bz⟩
def api_Edit.l0 : Nat → List (S77) → List (S77) → Int → Int → Option (Bool)
  | 0, _, _, _, _ => none
  | k + 1, x0, x1, x12, x13 => if x13 < x12 then (if 0 ≤ x13 then (if x13 < (x0.length : Int) then (if x13 < (x1.length : Int) then (if (!(((rd_T77 x0 x13).f0) == ((rd_T77 x1 x13).f0)) || (!(((rd_T77 x0 x13).f1) == ((rd_T77 x1 x13).f1)) || (!(((rd_T77 x0 x13).f2) == ((rd_T77 x1 x13).f2)) || (!(((rd_T77 x0 x13).f3) == ((rd_T77 x1 x13).f3)))))) = true then (some false) else (api_Edit.l0 k x0 x1 x12 (wrap64 (x13 + 1)))) else (none)) else (none)) else (none)) else (some true)
def api_Edit.f (k : Nat) (l0 : List (S77)) (l1 : List (S77)) : Option (Bool) := if (l0.length : Int) = (l1.length : Int) then (api_Edit.l0 k l0 l1 (l0.length : Int) 0) else (some false)
set_option maxHeartbeats 8000000 in
set_option maxRecDepth 100000 in
theorem api_Edit.calls (k : Nat) (A0 : Option Addr) (c0 : Nat) (l0 : List (S77)) (A1 : Option Addr) (c1 : Nat) (l1 : List (S77)) (r : Bool) (w : World) (hr0 : Kd.C k77 w A0 l0.length l0) (hc0 : l0.length ≤ c0) (hr1 : Kd.C k77 w A1 l1.length l1) (hc1 : l1.length ≤ c1) (h : api_Edit.f k l0 l1 = some r) :
  Calls Try.prog 90 #[.slice A0 l0.length c0, .slice A1 l1.length c1] w fun e w' => e = .returned (.bool r) ∧ Drawn0 w w' := by
 have hu77 := Try.underlying77; have HR0 := Aside0.mk hr0; have HC0 := Aside0.mk hc0; clear hr0 hc0; have HR1 := Aside0.mk hr1; have HC1 := Aside0.mk hc1; clear hr1 hc1; have H : (if (l0.length : Int) = (l1.length : Int) then (api_Edit.l0 k l0 l1 (l0.length : Int) 0) else (some false)) = some r := h; clear h
 by_cases c3 : (l0.length : Int) = (l1.length : Int)
 ·rw [if_pos c3] at H; have c3b0 : ((l0.length : Int) == (l1.length : Int)) = true := beq_iff_eq.mpr c3; have c3b1 : ((l0.length : Int) != (l1.length : Int)) = false := bne_eq_false_iff_eq.mpr c3; have c3b2 : (l0.length == l1.length) = true := by first | simpa using c3 | (simp at c3 ⊢; omega)
  clear c3; have H' := Aside0.mk H; clear H
  go_enter Try.func90, Try.ntmps90
  go_wp2
  repeat (go_quiet (fail); try go_wp2)
  go_loopg [13] k (fun kq v13 w' => ∃ (x13_1 : Int), v13 = .int .i64 x13_1 ∧ Aside0 (api_Edit.l0 kq l0 l1 (l0.length : Int) x13_1 = some r) ∧ Aside0 (kq ≤ k) ∧ Drawn0 w w')
  case atStart => exact ⟨(0), jz, H', ⟨Nat.le_refl _⟩, by repeat (first | exact Drawn0.refl _ | apply Drawn0.step)⟩
  case round =>
   clear H'
   try clear c1
   try clear p2
   try clear c3
   try clear c3b0
   try clear c3b1
   try clear c3b2
   obtain ⟨x13_1, rfl, HA, HK1, ⟨m1, rfl⟩⟩ := hrel
   cases gk with
   | zero => exact absurd HA.out (by simp [api_Edit.l0])
   | succ k1 =>
    have H := HA.out; clear HA; simp only [api_Edit.l0] at H
    by_cases c4 : x13_1 < (l0.length : Int)
    ·rw [if_pos c4] at H; have c4b0 : decide (x13_1 < (l0.length : Int)) = true := decide_eq_true c4; clear c4
     by_cases c5 : 0 ≤ x13_1
     ·rw [if_pos c5] at H; have c5b0 : decide (0 ≤ x13_1) = true := decide_eq_true c5; clear c5
      by_cases c6 : x13_1 < (l0.length : Int)
      ·rw [if_pos c6] at H; have c6b0 : decide (x13_1 < (l0.length : Int)) = true := decide_eq_true c6; clear c6
       by_cases c7 : x13_1 < (l1.length : Int)
       ·rw [if_pos c7] at H; have c7b0 : decide (x13_1 < (l1.length : Int)) = true := decide_eq_true c7; clear c7
        by_cases c8 : (!(((rd_T77 l0 x13_1).f0) == ((rd_T77 l1 x13_1).f0)) || (!(((rd_T77 l0 x13_1).f1) == ((rd_T77 l1 x13_1).f1)) || (!(((rd_T77 l0 x13_1).f2) == ((rd_T77 l1 x13_1).f2)) || (!(((rd_T77 l0 x13_1).f3) == ((rd_T77 l1 x13_1).f3)))))) = true
        ·rw [if_pos c8] at H; have c8b0 : (!(((rd_T77 l0 x13_1).f0) == ((rd_T77 l1 x13_1).f0)) || (!(((rd_T77 l0 x13_1).f1) == ((rd_T77 l1 x13_1).f1)) || (!(((rd_T77 l0 x13_1).f2) == ((rd_T77 l1 x13_1).f2)) || (!(((rd_T77 l0 x13_1).f3) == ((rd_T77 l1 x13_1).f3)))))) = true := c8; clear c8; obtain rfl := Option.some.inj H; have p580 : 0 ≤ (x13_1 : Int) := od; have q580 : x13_1 < (l0.length : Int) := od; obtain ⟨ad580, e580, hx580_0, hx580_1, hx580_2, hx580_3⟩ := at_T77 HR0.out x13_1 p580 q580
         cases e580
         replace p580 := eq_true p580; replace q580 := eq_true q580; have p581 : 0 ≤ (x13_1 : Int) := od; have q581 : x13_1 < (l1.length : Int) := od; obtain ⟨ad581, e581, hx581_0, hx581_1, hx581_2, hx581_3⟩ := at_T77 HR1.out x13_1 p581 q581
         cases e581
         replace p581 := eq_true p581; replace q581 := eq_true q581
         go_wp2
         repeat (go_quiet (fail); try go_wp2)
         go_ret
         exact ⟨by first | rfl | (simp; done) | (simp [*]; done), by repeat (first | exact Drawn0.refl _ | apply Drawn0.step)⟩
        ·rw [if_neg c8] at H; have c8b0 : (!(((rd_T77 l0 x13_1).f0) == ((rd_T77 l1 x13_1).f0)) || (!(((rd_T77 l0 x13_1).f1) == ((rd_T77 l1 x13_1).f1)) || (!(((rd_T77 l0 x13_1).f2) == ((rd_T77 l1 x13_1).f2)) || (!(((rd_T77 l0 x13_1).f3) == ((rd_T77 l1 x13_1).f3)))))) = false := by simpa using c8
         clear c8; have H' := Aside0.mk H; clear H; have p580 : 0 ≤ (x13_1 : Int) := od; have q580 : x13_1 < (l0.length : Int) := od; obtain ⟨ad580, e580, hx580_0, hx580_1, hx580_2, hx580_3⟩ := at_T77 HR0.out x13_1 p580 q580
         cases e580
         replace p580 := eq_true p580; replace q580 := eq_true q580; have p581 : 0 ≤ (x13_1 : Int) := od; have q581 : x13_1 < (l1.length : Int) := od; obtain ⟨ad581, e581, hx581_0, hx581_1, hx581_2, hx581_3⟩ := at_T77 HR1.out x13_1 p581 q581
         cases e581
         replace p581 := eq_true p581; replace q581 := eq_true q581
         go_wp2
         repeat (go_quiet (fail); try go_wp2)
         go_roundg k1
         case measure => have := HK1.out; omega
         case rel => exact ⟨(wrap64 (x13_1 + 1)), jz, H', ⟨by have := HK1.out; omega⟩, by repeat (first | exact Drawn0.refl _ | apply Drawn0.step)⟩
       ·rw [if_neg c7] at H
        exact absurd H (by simp)
      ·rw [if_neg c6] at H
       exact absurd H (by simp)
     ·rw [if_neg c5] at H
      exact absurd H (by simp)
    ·rw [if_neg c4] at H; have c4b0 : decide (x13_1 < (l0.length : Int)) = false := decide_eq_false c4; clear c4; obtain rfl := Option.some.inj H
     go_wp2
     repeat (go_quiet (fail); try go_wp2)
     go_ret
     exact ⟨by first | rfl | (simp; done) | (simp [*]; done), by repeat (first | exact Drawn0.refl _ | apply Drawn0.step)⟩
 ·rw [if_neg c3] at H; have c3b0 : ((l0.length : Int) == (l1.length : Int)) = false := beq_eq_false_iff_ne.mpr c3; have c3b1 : ((l0.length : Int) != (l1.length : Int)) = true := bne_iff_ne.mpr c3; have c3b2 : (l0.length == l1.length) = false := by first | simpa using c3 | (simp at c3 ⊢; omega)
  obtain rfl := Option.some.inj H
  go_enter Try.func90, Try.ntmps90
  go_wp2
  repeat (go_quiet (fail); try go_wp2)
  go_ret
  exact ⟨by first | rfl | (simp; done) | (simp [*]; done), by repeat (first | exact Drawn0.refl _ | apply Drawn0.step)⟩
def edit_Alike.f (k : Nat) (l0 : List (S77)) (l1 : List (S77)) (a2 : Int) (a3 : Int) : Option (Bool × Int) := (edit_Normal.f k l0 a2 a3).bind fun bt582 => (if bt582.2 = 0 then ((edit_Normal.f k l1 a2 a3).bind fun bt586 => (if bt586.2 = 0 then ((api_Edit.f k bt582.1 bt586.1).bind fun t590 => (some (t590, 0))) else (some (false, bt586.2)))) else (some (false, bt582.2)))
set_option maxHeartbeats 8000000 in
set_option maxRecDepth 100000 in
theorem edit_Alike.calls (k : Nat) (A0 : Option Addr) (c0 : Nat) (l0 : List (S77)) (A1 : Option Addr) (c1 : Nat) (l1 : List (S77)) (a2 : Int) (a3 : Int) (r1 : Bool) (r2 : Int) (w : World) (hr0 : Kd.C k77 w A0 l0.length l0) (hc0 : l0.length ≤ c0) (hr1 : Kd.C k77 w A1 l1.length l1) (hc1 : l1.length ≤ c1) (h : edit_Alike.f k l0 l1 a2 a3 = some (r1, r2)) :
  Calls Try.prog 34 #[.slice A0 l0.length c0, .slice A1 l1.length c1, .int .i64 a2, .int .i64 a3] w fun e w' => e = .returned (.tuple #[.bool r1, .int .i64 r2]) ∧ Below w.heap.size w w' := by
 have HR0 := Aside0.mk hr0; have HC0 := Aside0.mk hc0; clear hr0 hc0; have HR1 := Aside0.mk hr1; have HC1 := Aside0.mk hc1; clear hr1 hc1; have HB := Aside0.mk (Below.refl w.heap.size w); have H : ((edit_Normal.f k l0 a2 a3).bind fun bt582 => (if bt582.2 = 0 then ((edit_Normal.f k l1 a2 a3).bind fun bt586 => (if bt586.2 = 0 then ((api_Edit.f k bt582.1 bt586.1).bind fun t590 => (some (t590, 0))) else (some (false, bt586.2)))) else (some (false, bt582.2)))) = some (r1, r2) := h
 clear h; obtain ⟨⟨t582, t583⟩, A5, H⟩ := ob H
 (try dsimp only at H)
 by_cases c6 : t583 = 0
 ·rw [if_pos c6] at H; have c6b0 : (t583 == 0) = true := beq_iff_eq.mpr c6; have c6b1 : (t583 != 0) = false := bne_eq_false_iff_eq.mpr c6; clear c6; obtain ⟨⟨t586, t587⟩, A7, H⟩ := ob H
  (try dsimp only at H)
  by_cases c8 : t587 = 0
  ·rw [if_pos c8] at H; have c8b0 : (t587 == 0) = true := beq_iff_eq.mpr c8; have c8b1 : (t587 != 0) = false := bne_eq_false_iff_eq.mpr c8; clear c8; obtain ⟨t590, A9, H⟩ := ob H; simp only [Option.some.injEq, Prod.mk.injEq] at H; obtain ⟨rfl, rfl⟩ := H
   go_enter Try.func34, Try.ntmps34
   go_wp2_with (first | ((with_reducible refine gate_callee (f := 21) rfl ?_); refine zC 17 Try.func21 #[.slice A0 l0.length c0, .int .i64 a2, .int .i64 a3] ?_; (with_reducible refine (edit_Normal.calls k _ _ l0 a2 a3 t582 t583 _ ?side1 ?side2 A5.out).mono ?_); (case side1 => repeat (first | exact HR0.out | (with_reducible refine Kd.C_alloc ?_ _) | (with_reducible refine Kd.C_drewN ?_ _) | (with_reducible refine Kd.C_drew ?_))); (case side2 => exact HC0.out); rintro e w10 ⟨v584, rfl, ho0, hb⟩; refine ⟨_, rfl, ?_⟩; have HO585 := Aside0.mk (Kd.R_lower ho0 sz); replace HB := bp hb; clear hb ho0) | ((with_reducible refine gate_callee (f := 21) rfl ?_); refine zC 27 Try.func21 #[.slice A1 l1.length c1, .int .i64 a2, .int .i64 a3] ?_; (with_reducible refine (edit_Normal.calls k _ _ l1 a2 a3 t586 t587 _ ?side1 ?side2 A7.out).mono ?_); (case side1 => exact cz HR1); (case side2 => exact HC1.out); rintro e w11 ⟨v588, rfl, ho0, hb⟩; refine ⟨_, rfl, ?_⟩; have HO589 := Aside0.mk (Kd.R_lower (Kd.R_new' ho0 (Kd.R_lt (rz HO585))) sz); replace HO585 := Aside0.mk (Kd.R_elder' (rz HO585) (Kd.R_base ho0) hb); replace HB := bp hb; clear hb ho0; obtain ⟨Ao12, co12, eo12⟩ := Kd.R_slice HO585.out; subst eo12; obtain ⟨Ao13, co13, eo13⟩ := Kd.R_slice HO589.out; subst eo13) | ((with_reducible refine gate_callee (f := 90) rfl ?_); refine zC 35 Try.func90 #[.slice Ao12 t582.length co12, .slice Ao13 t586.length co13] ?_; (with_reducible refine (api_Edit.calls k _ _ t582 _ _ t586 t590 _ ?side1 ?side2 ?side3 ?side4 A9.out).mono ?_); (case side1 => exact cr HO585); (case side2 => exact (Kd.R_reads' HO585.out).2.1); (case side3 => exact cr HO589); (case side4 => exact (Kd.R_reads' HO589.out).2.1); rintro e w' ⟨rfl, ⟨nd, rfl⟩⟩; refine ⟨_, rfl, ?_⟩))
   go_ret2
   exact ⟨ez, bz⟩
  ·rw [if_neg c8] at H; have c8b0 : (t587 == 0) = false := beq_eq_false_iff_ne.mpr c8; have c8b1 : (t587 != 0) = true := bne_iff_ne.mpr c8; simp only [Option.some.injEq, Prod.mk.injEq] at H; obtain ⟨rfl, rfl⟩ := H
   go_enter Try.func34, Try.ntmps34
   go_wp2_with (first | ((with_reducible refine gate_callee (f := 21) rfl ?_); refine zC 17 Try.func21 #[.slice A0 l0.length c0, .int .i64 a2, .int .i64 a3] ?_; (with_reducible refine (edit_Normal.calls k _ _ l0 a2 a3 t582 t583 _ ?side1 ?side2 A5.out).mono ?_); (case side1 => repeat (first | exact HR0.out | (with_reducible refine Kd.C_alloc ?_ _) | (with_reducible refine Kd.C_drewN ?_ _) | (with_reducible refine Kd.C_drew ?_))); (case side2 => exact HC0.out); rintro e w14 ⟨v584, rfl, ho0, hb⟩; refine ⟨_, rfl, ?_⟩; have HO585 := Aside0.mk (Kd.R_lower ho0 sz); replace HB := bp hb; clear hb ho0) | ((with_reducible refine gate_callee (f := 21) rfl ?_); refine zC 27 Try.func21 #[.slice A1 l1.length c1, .int .i64 a2, .int .i64 a3] ?_; (with_reducible refine (edit_Normal.calls k _ _ l1 a2 a3 t586 t587 _ ?side1 ?side2 A7.out).mono ?_); (case side1 => exact cz HR1); (case side2 => exact HC1.out); rintro e w15 ⟨v588, rfl, ho0, hb⟩; refine ⟨_, rfl, ?_⟩; have HO589 := Aside0.mk (Kd.R_lower (Kd.R_new' ho0 (Kd.R_lt (rz HO585))) sz); replace HO585 := Aside0.mk (Kd.R_elder' (rz HO585) (Kd.R_base ho0) hb); replace HB := bp hb; clear hb ho0))
   go_ret2
   exact ⟨ez, bz⟩
 ·rw [if_neg c6] at H; have c6b0 : (t583 == 0) = false := beq_eq_false_iff_ne.mpr c6; have c6b1 : (t583 != 0) = true := bne_iff_ne.mpr c6; simp only [Option.some.injEq, Prod.mk.injEq] at H; obtain ⟨rfl, rfl⟩ := H
  go_enter Try.func34, Try.ntmps34
  go_wp2_with (first | ((with_reducible refine gate_callee (f := 21) rfl ?_); refine zC 17 Try.func21 #[.slice A0 l0.length c0, .int .i64 a2, .int .i64 a3] ?_; (with_reducible refine (edit_Normal.calls k _ _ l0 a2 a3 t582 t583 _ ?side1 ?side2 A5.out).mono ?_); (case side1 => repeat (first | exact HR0.out | (with_reducible refine Kd.C_alloc ?_ _) | (with_reducible refine Kd.C_drewN ?_ _) | (with_reducible refine Kd.C_drew ?_))); (case side2 => exact HC0.out); rintro e w16 ⟨v584, rfl, ho0, hb⟩; refine ⟨_, rfl, ?_⟩; have HO585 := Aside0.mk (Kd.R_lower ho0 sz); replace HB := bp hb; clear hb ho0))
  go_ret2
  exact ⟨ez, bz⟩
end Go.Proofs.Ytpbhepdgamoiaaa.E
namespace Go.Proofs.Ytpbhepdgamoiaaa.E
open Go.Proofs.Ytpbhepdgamoiaaa.Z Go.RowKit Go.Proofs.YtpbhepdgamoiaaaW.PrintWords Go.Proofs.YtpbhepdgamoiaaaW.PrintLast Go.Proofs.YtpbhepdgamoiaaaW.PrintMore
attribute [local go_sem] max2_int min2_int max_two min_two max_three min_three max_four min_four
set_option linter.unusedVariables false
set_option linter.unusedSimpArgs false
mutual
def dioramalaw10_EditEqual.j0 : Nat → List (S77) → List (S77) → List (S77) → Bool → Option (Bool)
  | 0, _, _, _, _ => none
  | k + 1, x0, x1, x2, x24 => if x24 = true then ((dioramalaw10_awake.f k).bind fun t594 => (some t594)) else ((edit_Alike.f k x0 x1 10 20).bind fun bt595 => ((edit_Alike.f k x1 x0 10 20).bind fun bt597 => ((edit_Alike.f k x1 x2 10 20).bind fun bt599 => ((edit_Alike.f k x0 x2 10 20).bind fun bt601 => (if bt595.2 = 0 then (if bt597.2 = 0 then (if bt599.2 = 0 then (dioramalaw10_EditEqual.j1 k x0 x1 bt595.1 bt597.1 bt599.1 bt601.1 (bt601.2 != 0)) else (dioramalaw10_EditEqual.j1 k x0 x1 bt595.1 bt597.1 bt599.1 bt601.1 true)) else (dioramalaw10_EditEqual.j1 k x0 x1 bt595.1 bt597.1 bt599.1 bt601.1 true)) else (dioramalaw10_EditEqual.j1 k x0 x1 bt595.1 bt597.1 bt599.1 bt601.1 true))))))
def dioramalaw10_EditEqual.j1 : Nat → List (S77) → List (S77) → Bool → Bool → Bool → Bool → Bool → Option (Bool)
  | 0, _, _, _, _, _, _, _ => none
  | k + 1, x0, x1, x7, x9, x11, x13, x63 => if x63 = true then ((dioramalaw10_awake.f k).bind fun t603 => (some t603)) else (if (x7 != x9) = true then (some false) else (if x7 = true then (if x11 = true then (if x13 = true then ((edit_Length.f x0).bind fun t604 => ((edit_Length.f x1).bind fun t605 => (if t604 = t605 then ((dioramalaw10_awake.f k).bind fun t606 => (some t606)) else (some false)))) else (some false)) else ((edit_Length.f x0).bind fun t607 => ((edit_Length.f x1).bind fun t608 => (if t607 = t608 then ((dioramalaw10_awake.f k).bind fun t609 => (some t609)) else (some false))))) else ((dioramalaw10_awake.f k).bind fun t610 => (some t610))))
end
def dioramalaw10_EditEqual.f (k : Nat) (l0 : List (S77)) (l1 : List (S77)) (l2 : List (S77)) : Option (Bool) := (dioramalaw10_many.f l0).bind fun t591 => (if t591 = true then (dioramalaw10_EditEqual.j0 k l0 l1 l2 true) else ((dioramalaw10_many.f l1).bind fun t592 => (if t592 = true then (dioramalaw10_EditEqual.j0 k l0 l1 l2 true) else ((dioramalaw10_many.f l2).bind fun t593 => (dioramalaw10_EditEqual.j0 k l0 l1 l2 t593)))))
set_option maxHeartbeats 8000000 in
set_option maxRecDepth 100000 in
theorem dioramalaw10_EditEqual.calls (k : Nat) (A0 : Option Addr) (c0 : Nat) (l0 : List (S77)) (A1 : Option Addr) (c1 : Nat) (l1 : List (S77)) (A2 : Option Addr) (c2 : Nat) (l2 : List (S77)) (r : Bool) (w : World) (hr0 : Kd.C k77 w A0 l0.length l0) (hc0 : l0.length ≤ c0) (hr1 : Kd.C k77 w A1 l1.length l1) (hc1 : l1.length ≤ c1) (hr2 : Kd.C k77 w A2 l2.length l2) (hc2 : l2.length ≤ c2) (h : dioramalaw10_EditEqual.f k l0 l1 l2 = some r) :
  Calls Try.prog 7 #[.slice A0 l0.length c0, .slice A1 l1.length c1, .slice A2 l2.length c2] w fun e w' => e = .returned (.bool r) ∧ Below w.heap.size w w' := by
 have HR0 := Aside0.mk hr0; have HC0 := Aside0.mk hc0; clear hr0 hc0; have HR1 := Aside0.mk hr1; have HC1 := Aside0.mk hc1; clear hr1 hc1; have HR2 := Aside0.mk hr2; have HC2 := Aside0.mk hc2; clear hr2 hc2; have HB := Aside0.mk (Below.refl w.heap.size w); have H : ((dioramalaw10_many.f l0).bind fun t591 => (if t591 = true then (dioramalaw10_EditEqual.j0 k l0 l1 l2 true) else ((dioramalaw10_many.f l1).bind fun t592 => (if t592 = true then (dioramalaw10_EditEqual.j0 k l0 l1 l2 true) else ((dioramalaw10_many.f l2).bind fun t593 => (dioramalaw10_EditEqual.j0 k l0 l1 l2 t593)))))) = some r := h
 clear h; have HC4 := Aside0.mk H; clear H
 go_enter Try.func7, Try.ntmps7
 go_upto_region 1 with (fail)
 go_cut [24] (fun v24 wc => ∃ (kq : Nat) (x24_3 : Bool), v24 = .bool x24_3 ∧ Aside0 (dioramalaw10_EditEqual.j0 kq l0 l1 l2 x24_3 = some r) ∧ Aside0 (kq ≤ k) ∧ Aside0 (Below w.heap.size w wc))
 case first =>
  have H := HC4.out; clear HC4; obtain ⟨t591, A5, H⟩ := ob H
  by_cases c6 : t591 = true
  ·subst c6; rw [if_pos rfl] at H; have H' := Aside0.mk H; clear H
   go_wp2_with (first | ((with_reducible refine gate_callee (f := 19) rfl ?_); refine zC 16 Try.func19 #[.slice A0 l0.length c0] ?_; (with_reducible refine (dioramalaw10_many.calls _ _ l0 true _ ?side1 ?side2 A5.out).mono ?_); (case side1 => exact cz HR0); (case side2 => exact HC0.out); rintro e w' ⟨rfl, ⟨nd, rfl⟩⟩; refine ⟨_, rfl, ?_⟩))
   go_meet
   case rel => exact ⟨_, (true), jz, H', ⟨by first | omega | exact Nat.le_refl _⟩, ⟨bz⟩⟩
  ·obtain rfl := bf c6; rw [if_neg (show ¬ (false = true) by decide)] at H; obtain ⟨t592, A7, H⟩ := ob H
   by_cases c8 : t592 = true
   ·subst c8; rw [if_pos rfl] at H; have H' := Aside0.mk H; clear H
    go_wp2_with (first | ((with_reducible refine gate_callee (f := 19) rfl ?_); refine zC 16 Try.func19 #[.slice A0 l0.length c0] ?_; (with_reducible refine (dioramalaw10_many.calls _ _ l0 false _ ?side1 ?side2 A5.out).mono ?_); (case side1 => exact cz HR0); (case side2 => exact HC0.out); rintro e w' ⟨rfl, ⟨nd, rfl⟩⟩; refine ⟨_, rfl, ?_⟩) | (go_at_call 19; (with_reducible refine (dioramalaw10_many.calls _ _ l1 true _ ?side1 ?side2 A7.out).mono ?_); (case side1 => repeat (first | exact (Kd.C_below HR1.out bz) | (with_reducible refine Kd.C_alloc ?_ _) | (with_reducible refine Kd.C_drewN ?_ _) | (with_reducible refine Kd.C_drew ?_))); (case side2 => exact HC1.out); rintro e w' ⟨rfl, ⟨nd, rfl⟩⟩))
    go_meet
    case rel => exact ⟨_, (true), jz, H', ⟨by first | omega | exact Nat.le_refl _⟩, ⟨bz⟩⟩
   ·obtain rfl := bf c8; rw [if_neg (show ¬ (false = true) by decide)] at H; obtain ⟨t593, A9, H⟩ := ob H; have H' := Aside0.mk H; clear H
    go_wp2_with (first | ((with_reducible refine gate_callee (f := 19) rfl ?_); refine zC 16 Try.func19 #[.slice A0 l0.length c0] ?_; (with_reducible refine (dioramalaw10_many.calls _ _ l0 false _ ?side1 ?side2 A5.out).mono ?_); (case side1 => exact cz HR0); (case side2 => exact HC0.out); rintro e w' ⟨rfl, ⟨nd, rfl⟩⟩; refine ⟨_, rfl, ?_⟩) | (go_at_call 19; (with_reducible refine (dioramalaw10_many.calls _ _ l1 false _ ?side1 ?side2 A7.out).mono ?_); (case side1 => repeat (first | exact (Kd.C_below HR1.out bz) | (with_reducible refine Kd.C_alloc ?_ _) | (with_reducible refine Kd.C_drewN ?_ _) | (with_reducible refine Kd.C_drew ?_))); (case side2 => exact HC1.out); rintro e w' ⟨rfl, ⟨nd, rfl⟩⟩) | (go_at_call 19; (with_reducible refine (dioramalaw10_many.calls _ _ l2 t593 _ ?side1 ?side2 A9.out).mono ?_); (case side1 => repeat (first | exact (Kd.C_below HR2.out bz) | (with_reducible refine Kd.C_alloc ?_ _) | (with_reducible refine Kd.C_drewN ?_ _) | (with_reducible refine Kd.C_drew ?_))); (case side2 => exact HC2.out); rintro e w' ⟨rfl, ⟨nd, rfl⟩⟩))
    go_meet
    case rel => exact ⟨_, (t593), jz, H', ⟨by first | omega | exact Nat.le_refl _⟩, ⟨bz⟩⟩
 case rest =>
  clear HC4
  try clear c1
  try clear c2
  try clear p2
  try clear c6
  try clear c7
  try clear c8
  obtain ⟨kq, x24_3, rfl, HA, HJ3, HB⟩ := hcut
  cases kq with
  | zero => exact absurd HA.out (by simp [dioramalaw10_EditEqual.j0])
  | succ kj3 =>
   have H := HA.out; clear HA; simp only [dioramalaw10_EditEqual.j0] at H
   by_cases c10 : x24_3 = true
   ·subst c10; rw [if_pos rfl] at H; obtain ⟨t594, A11, H⟩ := ob H; obtain rfl := Option.some.inj H
    go_wp2_with (first | ((with_reducible refine gate_callee (f := 20) rfl ?_); refine zC 25 Try.func20 #[] ?_; (with_reducible refine (dioramalaw10_awake.calls kj3  t594 _ A11.out).mono ?_); rintro e w12 ⟨rfl, hb⟩; refine ⟨_, rfl, ?_⟩; replace HB := bp hb; clear hb))
    go_ret
    exact ⟨ez, bz⟩
   ·obtain rfl := bf c10; rw [if_neg (show ¬ (false = true) by decide)] at H; obtain ⟨⟨t595, t596⟩, A13, H⟩ := ob H
    (try dsimp only at H)
    obtain ⟨⟨t597, t598⟩, A14, H⟩ := ob H
    (try dsimp only at H)
    obtain ⟨⟨t599, t600⟩, A15, H⟩ := ob H
    (try dsimp only at H)
    obtain ⟨⟨t601, t602⟩, A16, H⟩ := ob H
    (try dsimp only at H)
    have HC17 := Aside0.mk H; clear H
    go_upto_region 7 with (first | ((with_reducible refine gate_callee (f := 34) rfl ?_); refine zC 29 Try.func34 #[.slice A0 l0.length c0, .slice A1 l1.length c1, .int .i64 10, .int .i64 20] ?_; (with_reducible refine (edit_Alike.calls kj3 _ _ l0 _ _ l1 10 20 t595 t596 _ ?side1 ?side2 ?side3 ?side4 A13.out).mono ?_); (case side1 => exact cz HR0); (case side2 => exact HC0.out); (case side3 => exact cz HR1); (case side4 => exact HC1.out); rintro e w18 ⟨rfl, hb⟩; refine ⟨_, rfl, ?_⟩; replace HB := bp hb; clear hb) | ((with_reducible refine gate_callee (f := 34) rfl ?_); refine zC 35 Try.func34 #[.slice A1 l1.length c1, .slice A0 l0.length c0, .int .i64 10, .int .i64 20] ?_; (with_reducible refine (edit_Alike.calls kj3 _ _ l1 _ _ l0 10 20 t597 t598 _ ?side1 ?side2 ?side3 ?side4 A14.out).mono ?_); (case side1 => exact cz HR1); (case side2 => exact HC1.out); (case side3 => exact cz HR0); (case side4 => exact HC0.out); rintro e w19 ⟨rfl, hb⟩; refine ⟨_, rfl, ?_⟩; replace HB := bp hb; clear hb) | ((with_reducible refine gate_callee (f := 34) rfl ?_); refine zC 41 Try.func34 #[.slice A1 l1.length c1, .slice A2 l2.length c2, .int .i64 10, .int .i64 20] ?_; (with_reducible refine (edit_Alike.calls kj3 _ _ l1 _ _ l2 10 20 t599 t600 _ ?side1 ?side2 ?side3 ?side4 A15.out).mono ?_); (case side1 => exact cz HR1); (case side2 => exact HC1.out); (case side3 => exact cz HR2); (case side4 => exact HC2.out); rintro e w20 ⟨rfl, hb⟩; refine ⟨_, rfl, ?_⟩; replace HB := bp hb; clear hb) | ((with_reducible refine gate_callee (f := 34) rfl ?_); refine zC 47 Try.func34 #[.slice A0 l0.length c0, .slice A2 l2.length c2, .int .i64 10, .int .i64 20] ?_; (with_reducible refine (edit_Alike.calls kj3 _ _ l0 _ _ l2 10 20 t601 t602 _ ?side1 ?side2 ?side3 ?side4 A16.out).mono ?_); (case side1 => exact cz HR0); (case side2 => exact HC0.out); (case side3 => exact cz HR2); (case side4 => exact HC2.out); rintro e w21 ⟨rfl, hb⟩; refine ⟨_, rfl, ?_⟩; replace HB := bp hb; clear hb))
    (try simp only [Act.put, List.setIfInBounds_toArray, List.set_cons_zero, List.set_cons_succ])
    go_cut [63] (fun v63 wc => ∃ (kq : Nat) (x63_16 : Bool), v63 = .bool x63_16 ∧ Aside0 (dioramalaw10_EditEqual.j1 kq l0 l1 t595 t597 t599 t601 x63_16 = some r) ∧ Aside0 (kq ≤ kj3) ∧ Aside0 (Below w.heap.size w wc))
    case first =>
     have H := HC17.out; clear HC17
     by_cases c22 : t596 = 0
     ·rw [if_pos c22] at H; have c22b0 : (t596 == 0) = true := beq_iff_eq.mpr c22; have c22b1 : (t596 != 0) = false := bne_eq_false_iff_eq.mpr c22; clear c22
      (first | rw [c22b0] | (simp only [i64_w, i32_w]; rw [c22b0]) | skip)
      by_cases c23 : t598 = 0
      ·rw [if_pos c23] at H; have c23b0 : (t598 == 0) = true := beq_iff_eq.mpr c23; have c23b1 : (t598 != 0) = false := bne_eq_false_iff_eq.mpr c23; clear c23
       by_cases c24 : t600 = 0
       ·rw [if_pos c24] at H; have c24b0 : (t600 == 0) = true := beq_iff_eq.mpr c24; have c24b1 : (t600 != 0) = false := bne_eq_false_iff_eq.mpr c24; clear c24; have H' := Aside0.mk H; clear H
        go_wp2
        go_meet
        case rel => exact ⟨_, ((t602 != 0)), jz, H', ⟨by have := HJ3.out; first | omega | exact Nat.le_refl _⟩, ⟨bz⟩⟩
       ·rw [if_neg c24] at H; have c24b0 : (t600 == 0) = false := beq_eq_false_iff_ne.mpr c24; have c24b1 : (t600 != 0) = true := bne_iff_ne.mpr c24; have H' := Aside0.mk H; clear H
        go_wp2
        go_meet
        case rel => exact ⟨_, (true), jz, H', ⟨by have := HJ3.out; first | omega | exact Nat.le_refl _⟩, ⟨bz⟩⟩
      ·rw [if_neg c23] at H; have c23b0 : (t598 == 0) = false := beq_eq_false_iff_ne.mpr c23; have c23b1 : (t598 != 0) = true := bne_iff_ne.mpr c23; have H' := Aside0.mk H; clear H
       go_wp2
       go_meet
       case rel => exact ⟨_, (true), jz, H', ⟨by have := HJ3.out; first | omega | exact Nat.le_refl _⟩, ⟨bz⟩⟩
     ·rw [if_neg c22] at H; have c22b0 : (t596 == 0) = false := beq_eq_false_iff_ne.mpr c22; have c22b1 : (t596 != 0) = true := bne_iff_ne.mpr c22
      (first | rw [c22b0] | (simp only [i64_w, i32_w]; rw [c22b0]) | skip)
      have H' := Aside0.mk H; clear H
      go_wp2
      go_meet
      case rel => exact ⟨_, (true), jz, H', ⟨by have := HJ3.out; first | omega | exact Nat.le_refl _⟩, ⟨bz⟩⟩
    case rest =>
     clear HC17
     try clear c1
     try clear c2
     try clear p2
     try clear c3
     try clear c6
     try clear c7
     try clear c8
     try clear c10
     try clear c19
     try clear c20
     try clear c22
     try clear c22b0
     try clear c22b1
     try clear c23
     try clear c23b0
     try clear c23b1
     try clear c24
     try clear c24b0
     try clear c24b1
     try clear p2
     obtain ⟨kq, x63_16, rfl, HA, HJ16, HB⟩ := hcut
     cases kq with
     | zero => exact absurd HA.out (by simp [dioramalaw10_EditEqual.j1])
     | succ kj16 =>
      have H := HA.out; clear HA; simp only [dioramalaw10_EditEqual.j1] at H
      by_cases c25 : x63_16 = true
      ·subst c25; rw [if_pos rfl] at H; obtain ⟨t603, A26, H⟩ := ob H; obtain rfl := Option.some.inj H
       go_wp2_with (first | ((with_reducible refine gate_callee (f := 20) rfl ?_); refine zC 64 Try.func20 #[] ?_; (with_reducible refine (dioramalaw10_awake.calls kj16  t603 _ A26.out).mono ?_); rintro e w27 ⟨rfl, hb⟩; refine ⟨_, rfl, ?_⟩; replace HB := bp hb; clear hb))
       go_ret
       exact ⟨ez, bz⟩
      ·obtain rfl := bf c25; rw [if_neg (show ¬ (false = true) by decide)] at H
       by_cases c28 : (t595 != t597) = true
       ·rw [if_pos c28] at H; have c28b0 : (t595 != t597) = true := c28
        (try (have c28b1 : decide (t595 = t597) = false := by simpa using c28))
        (try (have c28b2 : (t595 == t597) = false := by simpa using c28))
        (try (have c28b3 : ¬ (t595 = t597) := by simpa using c28))
        clear c28; obtain rfl := Option.some.inj H
        go_wp2
        go_ret
        exact ⟨ez, bz⟩
       ·rw [if_neg c28] at H; have c28b0 : (t595 != t597) = false := by simpa using c28
        (try (have c28b1 : decide (t595 = t597) = true := by simpa using c28))
        (try (have c28b2 : (t595 == t597) = true := by simpa using c28))
        clear c28
        by_cases c29 : t595 = true
        ·subst c29; rw [if_pos rfl] at H
         by_cases c30 : t599 = true
         ·subst c30; rw [if_pos rfl] at H
          by_cases c31 : t601 = true
          ·subst c31; rw [if_pos rfl] at H; obtain ⟨t604, A32, H⟩ := ob H; obtain ⟨t605, A33, H⟩ := ob H
           by_cases c34 : t604 = t605
           ·rw [if_pos c34] at H; have c34b0 : (t604 == t605) = true := beq_iff_eq.mpr c34; have c34b1 : (t604 != t605) = false := bne_eq_false_iff_eq.mpr c34; clear c34; obtain ⟨t606, A35, H⟩ := ob H; obtain rfl := Option.some.inj H
            go_wp2_with (first | (go_at_call 26; (with_reducible refine (edit_Length.calls _ _ l0 t604 _ ?side1 ?side2 A32.out).mono ?_); (case side1 => exact cz HR0); (case side2 => exact HC0.out); rintro e w36 ⟨rfl, hb⟩; replace HB := bp hb; clear hb) | (go_at_call 26; (with_reducible refine (edit_Length.calls _ _ l1 t605 _ ?side1 ?side2 A33.out).mono ?_); (case side1 => exact cz HR1); (case side2 => exact HC1.out); rintro e w37 ⟨rfl, hb⟩; replace HB := bp hb; clear hb) | ((with_reducible refine gate_callee (f := 20) rfl ?_); refine zC 88 Try.func20 #[] ?_; (with_reducible refine (dioramalaw10_awake.calls kj16  t606 _ A35.out).mono ?_); rintro e w38 ⟨rfl, hb⟩; refine ⟨_, rfl, ?_⟩; replace HB := bp hb; clear hb))
            go_ret
            exact ⟨ez, bz⟩
           ·rw [if_neg c34] at H; have c34b0 : (t604 == t605) = false := beq_eq_false_iff_ne.mpr c34; have c34b1 : (t604 != t605) = true := bne_iff_ne.mpr c34; obtain rfl := Option.some.inj H
            go_wp2_with (first | (go_at_call 26; (with_reducible refine (edit_Length.calls _ _ l0 t604 _ ?side1 ?side2 A32.out).mono ?_); (case side1 => exact cz HR0); (case side2 => exact HC0.out); rintro e w39 ⟨rfl, hb⟩; replace HB := bp hb; clear hb) | (go_at_call 26; (with_reducible refine (edit_Length.calls _ _ l1 t605 _ ?side1 ?side2 A33.out).mono ?_); (case side1 => exact cz HR1); (case side2 => exact HC1.out); rintro e w40 ⟨rfl, hb⟩; replace HB := bp hb; clear hb))
            go_ret
            exact ⟨ez, bz⟩
          ·obtain rfl := bf c31; rw [if_neg (show ¬ (false = true) by decide)] at H; obtain rfl := Option.some.inj H
           go_wp2
           go_ret
           exact ⟨ez, bz⟩
         ·obtain rfl := bf c30; rw [if_neg (show ¬ (false = true) by decide)] at H; obtain ⟨t607, A41, H⟩ := ob H; obtain ⟨t608, A42, H⟩ := ob H
          by_cases c43 : t607 = t608
          ·rw [if_pos c43] at H; have c43b0 : (t607 == t608) = true := beq_iff_eq.mpr c43; have c43b1 : (t607 != t608) = false := bne_eq_false_iff_eq.mpr c43; clear c43; obtain ⟨t609, A44, H⟩ := ob H; obtain rfl := Option.some.inj H
           go_wp2_with (first | (go_at_call 26; (with_reducible refine (edit_Length.calls _ _ l0 t607 _ ?side1 ?side2 A41.out).mono ?_); (case side1 => exact cz HR0); (case side2 => exact HC0.out); rintro e w45 ⟨rfl, hb⟩; replace HB := bp hb; clear hb) | (go_at_call 26; (with_reducible refine (edit_Length.calls _ _ l1 t608 _ ?side1 ?side2 A42.out).mono ?_); (case side1 => exact cz HR1); (case side2 => exact HC1.out); rintro e w46 ⟨rfl, hb⟩; replace HB := bp hb; clear hb) | ((with_reducible refine gate_callee (f := 20) rfl ?_); refine zC 88 Try.func20 #[] ?_; (with_reducible refine (dioramalaw10_awake.calls kj16  t609 _ A44.out).mono ?_); rintro e w47 ⟨rfl, hb⟩; refine ⟨_, rfl, ?_⟩; replace HB := bp hb; clear hb))
           go_ret
           exact ⟨ez, bz⟩
          ·rw [if_neg c43] at H; have c43b0 : (t607 == t608) = false := beq_eq_false_iff_ne.mpr c43; have c43b1 : (t607 != t608) = true := bne_iff_ne.mpr c43; obtain rfl := Option.some.inj H
           go_wp2_with (first | (go_at_call 26; (with_reducible refine (edit_Length.calls _ _ l0 t607 _ ?side1 ?side2 A41.out).mono ?_); (case side1 => exact cz HR0); (case side2 => exact HC0.out); rintro e w48 ⟨rfl, hb⟩; replace HB := bp hb; clear hb) | (go_at_call 26; (with_reducible refine (edit_Length.calls _ _ l1 t608 _ ?side1 ?side2 A42.out).mono ?_); (case side1 => exact cz HR1); (case side2 => exact HC1.out); rintro e w49 ⟨rfl, hb⟩; replace HB := bp hb; clear hb))
           go_ret
           exact ⟨ez, bz⟩
        ·obtain rfl := bf c29; rw [if_neg (show ¬ (false = true) by decide)] at H; obtain ⟨t610, A50, H⟩ := ob H; obtain rfl := Option.some.inj H
         go_wp2_with (first | ((with_reducible refine gate_callee (f := 20) rfl ?_); refine zC 88 Try.func20 #[] ?_; (with_reducible refine (dioramalaw10_awake.calls kj16  t610 _ A50.out).mono ?_); rintro e w51 ⟨rfl, hb⟩; refine ⟨_, rfl, ?_⟩; replace HB := bp hb; clear hb))
         go_ret
         exact ⟨ez, bz⟩
mutual
def edit_Clock.j0 : Nat → List (S77) → Int → Int → Int → Int → Bool → Option ((List (S77)) × Int)
  | 0, _, _, _, _, _, _ => none
  | k + 1, x0, x1, x2, x3, x4, x34 => if x34 = true then (some (([] : List (S77)), 1)) else (edit_Clock.l0 k x1 x2 x3 x4 ([] : List (S77)) x0 (x0.length : Int) 0)
def edit_Clock.l0 : Nat → Int → Int → Int → Int → List (S77) → List (S77) → Int → Int → Option ((List (S77)) × Int)
  | 0, _, _, _, _, _, _, _, _ => none
  | k + 1, x1, x2, x3, x4, x13, x35, x36, x37 => if x37 < x36 then (if 0 ≤ x37 then (if x37 < (x35.length : Int) then ((edit_whole.f ((rd_T77 x35 x37).f0) x3 x1).bind fun bt621 => (if ((rd_T77 x35 x37).f1) ≥ 0 then ((edit_whole.f ((rd_T77 x35 x37).f1) x4 x2).bind fun bt623 => (edit_Clock.j2 k x1 x2 x3 x4 x13 bt621.1 bt621.2 bt623.1 bt623.2 x35 x36 x37 ((rd_T77 x35 x37).f0) ((rd_T77 x35 x37).f1) ((rd_T77 x35 x37).f2) ((rd_T77 x35 x37).f3))) else (edit_Clock.j2 k x1 x2 x3 x4 x13 bt621.1 bt621.2 ((rd_T77 x35 x37).f1) 0 x35 x36 x37 ((rd_T77 x35 x37).f0) ((rd_T77 x35 x37).f1) ((rd_T77 x35 x37).f2) ((rd_T77 x35 x37).f3)))) else (none)) else (none)) else ((edit_clocks_normal.f k x3 x4 x13).bind fun bt615 => (some (bt615.1, bt615.2)))
def edit_Clock.j2 : Nat → Int → Int → Int → Int → List (S77) → Int → Int → Int → Int → List (S77) → Int → Int → Int → Int → Int → Int → Option ((List (S77)) × Int)
  | 0, _, _, _, _, _, _, _, _, _, _, _, _, _, _, _, _ => none
  | k + 1, x1, x2, x3, x4, x13, x16, x17, x18, x19, x35, x36, x37, x621000, x621001, x621002, x621003 => if x17 = 20 then (edit_Clock.j3 k x1 x2 x3 x4 x13 x16 x17 x18 x19 x35 x36 x37 true x621000 x621001 x621002 x621003) else (edit_Clock.j3 k x1 x2 x3 x4 x13 x16 x17 x18 x19 x35 x36 x37 (x19 == 20) x621000 x621001 x621002 x621003)
def edit_Clock.j3 : Nat → Int → Int → Int → Int → List (S77) → Int → Int → Int → Int → List (S77) → Int → Int → Bool → Int → Int → Int → Int → Option ((List (S77)) × Int)
  | 0, _, _, _, _, _, _, _, _, _, _, _, _, _, _, _, _, _ => none
  | k + 1, x1, x2, x3, x4, x13, x16, x17, x18, x19, x35, x36, x37, x68, x621000, x621001, x621002, x621003 => if x68 = true then (some (([] : List (S77)), 20)) else (if x17 = 0 then (if x19 = 0 then (if x13.length < 4398046511104 then (edit_Clock.l0 k x1 x2 x3 x4 (x13 ++ [(⟨x16, x18, x621002, x621003⟩ : S77)]) x35 x36 (wrap64 (x37 + 1))) else (none)) else (some (([] : List (S77)), 2))) else (some (([] : List (S77)), 2)))
end
def edit_Clock.f (k : Nat) (l0 : List (S77)) (a1 : Int) (a2 : Int) (a3 : Int) (a4 : Int) : Option ((List (S77)) × Int) := (edit_Check.f k l0 a1 a2).bind fun t612 => (if t612 = 0 then ((edit_isScale.f a3).bind fun t613 => (if t613 = true then ((edit_isScale.f a4).bind fun t614 => (edit_Clock.j0 k l0 a1 a2 a3 a4 (!t614))) else (edit_Clock.j0 k l0 a1 a2 a3 a4 true))) else (some (([] : List (S77)), t612)))
set_option maxHeartbeats 8000000 in
set_option maxRecDepth 100000 in
theorem edit_Clock.calls (k : Nat) (A0 : Option Addr) (c0 : Nat) (l0 : List (S77)) (a1 : Int) (a2 : Int) (a3 : Int) (a4 : Int) (r1 : List (S77)) (r2 : Int) (w : World) (hr0 : Kd.C k77 w A0 l0.length l0) (hc0 : l0.length ≤ c0) (h : edit_Clock.f k l0 a1 a2 a3 a4 = some (r1, r2)) :
  Calls Try.prog 30 #[.slice A0 l0.length c0, .int .i64 a1, .int .i64 a2, .int .i64 a3, .int .i64 a4] w fun e w' => ∃ v0_ : Value, e = .returned (.tuple #[v0_, .int .i64 r2]) ∧ Kd.R k77 77 w' w.heap.size (fun _ => True) v0_ r1 ∧ Below w.heap.size w w' := by
 have hu77 := Try.underlying77; have hu79 := Try.underlying79; have HR0 := Aside0.mk hr0; have HC0 := Aside0.mk hc0; clear hr0 hc0; have HB := Aside0.mk (Below.refl w.heap.size w); have H : ((edit_Check.f k l0 a1 a2).bind fun t612 => (if t612 = 0 then ((edit_isScale.f a3).bind fun t613 => (if t613 = true then ((edit_isScale.f a4).bind fun t614 => (edit_Clock.j0 k l0 a1 a2 a3 a4 (!t614))) else (edit_Clock.j0 k l0 a1 a2 a3 a4 true))) else (some (([] : List (S77)), t612)))) = some (r1, r2) := h
 clear h; obtain ⟨t612, A6, H⟩ := ob H
 by_cases c7 : t612 = 0
 ·rw [if_pos c7] at H; have c7b0 : (t612 == 0) = true := beq_iff_eq.mpr c7; have c7b1 : (t612 != 0) = false := bne_eq_false_iff_eq.mpr c7; clear c7; have HC8 := Aside0.mk H; clear H
  go_enter Try.func30, Try.ntmps30
  go_upto_region 4 with (first | ((with_reducible refine gate_callee (f := 24) rfl ?_); refine zC 23 Try.func24 #[.slice A0 l0.length c0, .int .i64 a1, .int .i64 a2] ?_; (with_reducible refine (edit_Check.calls k _ _ l0 a1 a2 t612 _ ?side1 ?side2 A6.out).mono ?_); (case side1 => repeat (first | exact HR0.out | (with_reducible refine Kd.C_alloc ?_ _) | (with_reducible refine Kd.C_drewN ?_ _) | (with_reducible refine Kd.C_drew ?_))); (case side2 => exact HC0.out); rintro e w9 ⟨rfl, hb⟩; refine ⟨_, rfl, ?_⟩; replace HB := bp hb; clear hb))
  (try simp only [Act.put, List.setIfInBounds_toArray, List.set_cons_zero, List.set_cons_succ])
  go_cut [34] (fun v34 wc => ∃ (kq : Nat) (x34_7 : Bool), v34 = .bool x34_7 ∧ Aside0 (edit_Clock.j0 kq l0 a1 a2 a3 a4 x34_7 = some (r1, r2)) ∧ Aside0 (kq ≤ k) ∧ Aside0 (Below w.heap.size w wc))
  case first =>
   have H := HC8.out; clear HC8; obtain ⟨t613, A10, H⟩ := ob H
   by_cases c11 : t613 = true
   ·subst c11; rw [if_pos rfl] at H; obtain ⟨t614, A12, H⟩ := ob H; have H' := Aside0.mk H; clear H
    go_wp2_with (first | ((with_reducible refine gate_callee (f := 59) rfl ?_); refine zC 28 Try.func59 #[.int .i64 a3] ?_; (with_reducible refine (edit_isScale.calls a3 true _ A10.out).mono ?_); rintro e w' ⟨rfl, ⟨nd, rfl⟩⟩; refine ⟨_, rfl, ?_⟩) | (go_at_call 59; (with_reducible refine (edit_isScale.calls a4 t614 _ A12.out).mono ?_); rintro e w' ⟨rfl, ⟨nd, rfl⟩⟩))
    go_meet
    case rel => exact ⟨_, (!t614), jz, H', ⟨by first | omega | exact Nat.le_refl _⟩, ⟨bz⟩⟩
   ·obtain rfl := bf c11; rw [if_neg (show ¬ (false = true) by decide)] at H; have H' := Aside0.mk H; clear H
    go_wp2_with (first | ((with_reducible refine gate_callee (f := 59) rfl ?_); refine zC 28 Try.func59 #[.int .i64 a3] ?_; (with_reducible refine (edit_isScale.calls a3 false _ A10.out).mono ?_); rintro e w' ⟨rfl, ⟨nd, rfl⟩⟩; refine ⟨_, rfl, ?_⟩))
    go_meet
    case rel => exact ⟨_, (true), jz, H', ⟨by first | omega | exact Nat.le_refl _⟩, ⟨bz⟩⟩
  case rest =>
   clear HC8
   try clear c1
   try clear c2
   try clear p2
   try clear c3
   try clear c5
   try clear c7
   try clear c7b0
   try clear c7b1
   try clear c11
   obtain ⟨kq, x34_7, rfl, HA, HJ7, HB⟩ := hcut
   cases kq with
   | zero => exact absurd HA.out (by simp [edit_Clock.j0])
   | succ kj7 =>
    have H := HA.out; clear HA; simp only [edit_Clock.j0] at H
    by_cases c13 : x34_7 = true
    ·subst c13; rw [if_pos rfl] at H; simp only [Option.some.injEq, Prod.mk.injEq] at H; obtain ⟨rfl, rfl⟩ := H
     go_wp2
     go_ret2
     exact ⟨_, ez, by first | exact Kd.R_nil _ _ _ _ _ | exact Kd.N_nil _ _ _ _ _ | exact Kd.V_nil _ _ _ _ _ | exact Kd.Q_nil _ _ _ _ _ | exact Kd.S_nil _ _ _ _ _, bz⟩
    ·obtain rfl := bf c13; rw [if_neg (show ¬ (false = true) by decide)] at H; have H' := Aside0.mk H; clear H
     go_wp2
     go_loopg [13, 37] kj7 (fun kq v13 v37 w' => ∃ (x13_2 : List (S77)) (x37_2 : Int), v37 = .int .i64 x37_2 ∧ Aside0 (edit_Clock.l0 kq a1 a2 a3 a4 x13_2 l0 (l0.length : Int) x37_2 = some (r1, r2)) ∧ Aside0 (kq ≤ kj7) ∧ Aside0 (Kd.R k77 77 w' w.heap.size (fun _ => True) v13 x13_2) ∧ Aside0 (Below w.heap.size w w'))
     case atStart => exact ⟨(([] : List (S77))), (0), jz, H', ⟨Nat.le_refl _⟩, ⟨by first | exact Kd.R_nil _ _ _ _ _ | exact Kd.N_nil _ _ _ _ _ | exact Kd.V_nil _ _ _ _ _ | exact Kd.Q_nil _ _ _ _ _ | exact Kd.S_nil _ _ _ _ _⟩, ⟨bz⟩⟩
     case round =>
      clear H'
      try clear c1
      try clear c2
      try clear p2
      try clear c3
      try clear c5
      try clear c7
      try clear c7b0
      try clear c7b1
      try clear c11
      try clear c13
      try clear p2
      obtain ⟨x13_2, x37_2, rfl, HA, HK2, HO_13, HB⟩ := hrel
      cases gk with
      | zero => exact absurd HA.out (by simp [edit_Clock.l0])
      | succ k2 =>
       have H := HA.out; clear HA; simp only [edit_Clock.l0] at H
       by_cases c14 : x37_2 < (l0.length : Int)
       ·rw [if_pos c14] at H; have c14b0 : decide (x37_2 < (l0.length : Int)) = true := decide_eq_true c14; clear c14
        by_cases c15 : 0 ≤ x37_2
        ·rw [if_pos c15] at H; have c15b0 : decide (0 ≤ x37_2) = true := decide_eq_true c15; clear c15
         by_cases c16 : x37_2 < (l0.length : Int)
         ·rw [if_pos c16] at H; have c16b0 : decide (x37_2 < (l0.length : Int)) = true := decide_eq_true c16; clear c16; obtain ⟨⟨t621, t622⟩, A17, H⟩ := ob H
          (try dsimp only at H)
          have HC18 := Aside0.mk H; clear H; have p619 : 0 ≤ (x37_2 : Int) := od; have q619 : x37_2 < (l0.length : Int) := od; obtain ⟨ad619, e619, hx619_0, hx619_1, hx619_2, hx619_3⟩ := at_T77 HR0.out x37_2 p619 q619
          cases e619
          replace hx619_0 := cl HB hx619_0; replace hx619_1 := cl HB hx619_1; replace hx619_2 := cl HB hx619_2; replace hx619_3 := cl HB hx619_3; replace p619 := eq_true p619; replace q619 := eq_true q619
          go_upto_if 56 with (first | ((with_reducible refine gate_dst (N := 15) rfl ?_); refine zB 15 77 #[.int .i64 0, .int .i64 0, .int .i64 0, .int .i64 0] ?_; intro gb620 hg w19 hbox hb; replace HO_13 := Aside0.mk (Kd.R_below (Kd.R_elderB (rz HO_13) gb620 (Nat.le_of_eq hg.symm)) hb); have BK620 := Aside0.mk hbox; have GW620 := gz hg; have GE620 := gz hg; replace HB := bp hb; clear hb hbox hg; obtain ⟨hcz20_0, hcz20_1, hcz20_2, hcz20_3, hfz20_0, hfz20_1, hfz20_2, hfz20_3⟩ := xc4 BK620) | ((with_reducible refine gate_callee (f := 78) rfl ?_); refine zC 45 Try.func78 #[.int .i64 ((rd_T77 l0 x37_2).f0), .int .i64 a1] ?_; (with_reducible refine (wk1 A17.out _).mono ?_); rintro e w21a ⟨gq1, rfl, hs_⟩; refine ⟨_, rfl, ?_⟩; have HS1 := Aside0.mk hs_; clear hs_) | ((with_reducible refine gate_callee (f := 78) rfl ?_); refine zC 47 Try.func78 #[.int .i64 a3, .int .i64 1] ?_; (with_reducible refine (wk2 A17.out HS1.out).mono ?_); rintro e w21b ⟨gq2, rfl, hs_⟩; refine ⟨_, rfl, ?_⟩; have HS2 := Aside0.mk hs_; clear hs_) | ((with_reducible refine gate_callee (f := 77) rfl ?_); refine zC 48 Try.func77 #[.pointer (some ⟨gq1, 0, none⟩), .pointer (some ⟨gq2, 0, none⟩)] ?_; (with_reducible refine (wk3 HS2.out).mono ?_); rintro e w21c ⟨gq3, rfl, hs_⟩; refine ⟨_, rfl, ?_⟩; have HS3 := Aside0.mk hs_; clear hs_) | ((with_reducible refine gate_callee (f := 76) rfl ?_); refine zC 49 Try.func76 #[.pointer (some ⟨gq3, 0, none⟩)] ?_; (with_reducible refine (wk4 A17.out HS3.out).mono ?_); rintro e w21 ⟨rfl, hb⟩; refine ⟨_, rfl, ?_⟩; clear HS1 HS2 HS3; replace HO_13 := Aside0.mk (Kd.R_below (by (with_reducible repeat (first | apply Kd.R_alloc | apply Kd.R_drewN | apply Kd.R_drew)); exact (Kd.R_mono (Kd.R_far (p := ⟨gb620, 3, none⟩) (Kd.R_far (p := ⟨gb620, 2, none⟩) (Kd.R_far (p := ⟨gb620, 1, none⟩) (Kd.R_far (p := ⟨gb620, 0, none⟩) (Kd.R_mono HO_13.out (fun k_ hk => (⟨hk, hk.2⟩ : _ ∧ k_ ≠ gb620))) (fun _ hk => hk.2) (.int .i64 ((rd_T77 l0 x37_2).f0))) (fun _ hk => hk.2) (.int .i64 ((rd_T77 l0 x37_2).f1))) (fun _ hk => hk.2) (.int .i64 ((rd_T77 l0 x37_2).f2))) (fun _ hk => hk.2) (.int .i64 ((rd_T77 l0 x37_2).f3))) (fun _ h_ => h_.1))) hb); replace BK620 := Aside0.mk (blk_below (g := gb620) (o := .cells #[.int .i64 ((rd_T77 l0 x37_2).f0), .int .i64 ((rd_T77 l0 x37_2).f1), .int .i64 ((rd_T77 l0 x37_2).f2), .int .i64 ((rd_T77 l0 x37_2).f3)] 77 (0, 0)) (by (with_reducible repeat (first | refine blk_drewN ?_ _ | refine blk_drew ?_ | refine blk_alloc ?_ _)); refine blk_put (cs := #[.int .i64 ((rd_T77 l0 x37_2).f0), .int .i64 ((rd_T77 l0 x37_2).f1), .int .i64 ((rd_T77 l0 x37_2).f2), .int .i64 0]) ?_ 3 _ rfl; (with_reducible repeat (first | refine blk_drewN ?_ _ | refine blk_drew ?_ | refine blk_alloc ?_ _)); refine blk_put (cs := #[.int .i64 ((rd_T77 l0 x37_2).f0), .int .i64 ((rd_T77 l0 x37_2).f1), .int .i64 0, .int .i64 0]) ?_ 2 _ rfl; (with_reducible repeat (first | refine blk_drewN ?_ _ | refine blk_drew ?_ | refine blk_alloc ?_ _)); refine blk_put (cs := #[.int .i64 ((rd_T77 l0 x37_2).f0), .int .i64 0, .int .i64 0, .int .i64 0]) ?_ 1 _ rfl; (with_reducible repeat (first | refine blk_drewN ?_ _ | refine blk_drew ?_ | refine blk_alloc ?_ _)); refine blk_put (cs := #[.int .i64 0, .int .i64 0, .int .i64 0, .int .i64 0]) ?_ 0 _ rfl; (with_reducible repeat (first | refine blk_drewN ?_ _ | refine blk_drew ?_ | refine blk_alloc ?_ _)); exact BK620.out) hb); replace HB := bp hb; clear hb; obtain ⟨hcz22_0, hcz22_1, hcz22_2, hcz22_3, hfz22_0, hfz22_1, hfz22_2, hfz22_3⟩ := xc4 BK620))
          (try simp only [Act.put, List.setIfInBounds_toArray, List.set_cons_zero, List.set_cons_succ])
          go_cut [18, 19] (fun v18 v19 wc => ∃ (kq : Nat) (x18_17 : Int) (x19_17 : Int), v18 = .int .i64 x18_17 ∧ v19 = .int .i64 x19_17 ∧ Aside0 (edit_Clock.j2 kq a1 a2 a3 a4 x13_2 t621 t622 x18_17 x19_17 l0 (l0.length : Int) x37_2 ((rd_T77 l0 x37_2).f0) ((rd_T77 l0 x37_2).f1) ((rd_T77 l0 x37_2).f2) ((rd_T77 l0 x37_2).f3) = some (r1, r2)) ∧ Aside0 (kq ≤ k2) ∧ Aside0 (Kd.R k77 77 wc w.heap.size (fun k_ => k_ ≠ gb620) u13 x13_2) ∧ Aside0 (wc.heap[gb620]? = some (.cells #[.int .i64 ((rd_T77 l0 x37_2).f0), .int .i64 ((rd_T77 l0 x37_2).f1), .int .i64 ((rd_T77 l0 x37_2).f2), .int .i64 ((rd_T77 l0 x37_2).f3)] 77 (0, 0))) ∧ Aside0 (Below w.heap.size w wc))
          case first =>
           have H := HC18.out; clear HC18
           by_cases c23 : ((rd_T77 l0 x37_2).f1) ≥ 0
           ·rw [if_pos c23] at H; have c23b0 : decide (0 ≤ ((rd_T77 l0 x37_2).f1)) = true := decide_eq_true c23; clear c23
            (first | rw [c23b0] | (simp only [i64_w, i32_w]; rw [c23b0]) | skip)
            obtain ⟨⟨t623, t624⟩, A24, H⟩ := ob H
            (try dsimp only at H)
            have H' := Aside0.mk H; clear H; obtain ⟨hcz25_0, hcz25_1, hcz25_2, hcz25_3, hfz25_0, hfz25_1, hfz25_2, hfz25_3⟩ := xc4 BK620
            go_wp2_with (first | ((with_reducible refine gate_callee (f := 78) rfl ?_); refine zC 61 Try.func78 #[.int .i64 ((rd_T77 l0 x37_2).f1), .int .i64 a2] ?_; (with_reducible refine (wk1 A24.out _).mono ?_); rintro e w26a ⟨gq1, rfl, hs_⟩; refine ⟨_, rfl, ?_⟩; have HS1 := Aside0.mk hs_; clear hs_) | ((with_reducible refine gate_callee (f := 78) rfl ?_); refine zC 63 Try.func78 #[.int .i64 a4, .int .i64 1] ?_; (with_reducible refine (wk2 A24.out HS1.out).mono ?_); rintro e w26b ⟨gq2, rfl, hs_⟩; refine ⟨_, rfl, ?_⟩; have HS2 := Aside0.mk hs_; clear hs_) | ((with_reducible refine gate_callee (f := 77) rfl ?_); refine zC 64 Try.func77 #[.pointer (some ⟨gq1, 0, none⟩), .pointer (some ⟨gq2, 0, none⟩)] ?_; (with_reducible refine (wk3 HS2.out).mono ?_); rintro e w26c ⟨gq3, rfl, hs_⟩; refine ⟨_, rfl, ?_⟩; have HS3 := Aside0.mk hs_; clear hs_) | ((with_reducible refine gate_callee (f := 76) rfl ?_); refine zC 65 Try.func76 #[.pointer (some ⟨gq3, 0, none⟩)] ?_; (with_reducible refine (wk4 A24.out HS3.out).mono ?_); rintro e w26 ⟨rfl, hb⟩; refine ⟨_, rfl, ?_⟩; clear HS1 HS2 HS3; replace HO_13 := Aside0.mk (Kd.R_below (rz HO_13) hb); replace BK620 := kb BK620 hb; replace HB := bp hb; clear hb))
            go_meet
            case rel => exact ⟨_, (t623), (t624), jz, jz, H', ⟨by have := HJ7.out; have := HK2.out; first | omega | exact Nat.le_refl _⟩, ⟨by (with_reducible repeat (first | apply Kd.R_alloc | apply Kd.R_drewN | apply Kd.R_drew)); exact Kd.R_mono HO_13.out (fun _ hk => hk.2)⟩, ⟨kz⟩, ⟨bz⟩⟩
           ·rw [if_neg c23] at H; have c23b0 : decide (0 ≤ ((rd_T77 l0 x37_2).f1)) = false := decide_eq_false c23; clear c23
            (first | rw [c23b0] | (simp only [i64_w, i32_w]; rw [c23b0]) | skip)
            have H' := Aside0.mk H; clear H
            go_wp2
            go_meet
            case rel => exact ⟨_, ((rd_T77 l0 x37_2).f1), (0), jz, jz, H', ⟨by have := HJ7.out; have := HK2.out; first | omega | exact Nat.le_refl _⟩, ⟨by (with_reducible repeat (first | apply Kd.R_alloc | apply Kd.R_drewN | apply Kd.R_drew)); exact Kd.R_mono HO_13.out (fun _ hk => hk.2)⟩, ⟨kz⟩, ⟨bz⟩⟩
          case rest =>
           clear HC18
           try clear c1
           try clear c2
           try clear p2
           try clear c3
           try clear c5
           try clear p6
           try clear q6
           try clear hx6
           try clear c7
           try clear c7b0
           try clear c7b1
           try clear c11
           try clear c13
           try clear c14
           try clear c14b0
           try clear c15
           try clear c15b0
           try clear c16
           try clear c16b0
           try clear c23
           try clear c23b0
           try clear c24
           try clear hcz20_0
           try clear hcz20_1
           try clear hcz20_2
           try clear hcz20_3
           try clear hcz22_0
           try clear hcz22_1
           try clear hcz22_2
           try clear hcz22_3
           try clear hcz25_0
           try clear hcz25_1
           try clear hcz25_2
           try clear hcz25_3
           try clear hfz20_0
           try clear hfz20_1
           try clear hfz20_2
           try clear hfz20_3
           try clear hfz22_0
           try clear hfz22_1
           try clear hfz22_2
           try clear hfz22_3
           try clear hfz25_0
           try clear hfz25_1
           try clear hfz25_2
           try clear hfz25_3
           try clear hx619_0
           try clear hx619_1
           try clear hx619_2
           try clear hx619_3
           try clear p2
           try clear p619
           try clear q619
           obtain ⟨kq, x18_17, x19_17, rfl, rfl, HA, HJ17, HO_13, BK620, HB⟩ := hcut
           cases kq with
           | zero => exact absurd HA.out (by simp [edit_Clock.j2])
           | succ kj17 =>
            have H := HA.out; clear HA; simp only [edit_Clock.j2] at H; have HC27 := Aside0.mk H; clear H
            go_upto_region 14 with (fail)
            go_cut [68] (fun v68 wc => ∃ (kq : Nat) (x68_26 : Bool), v68 = .bool x68_26 ∧ Aside0 (edit_Clock.j3 kq a1 a2 a3 a4 x13_2 t621 t622 x18_17 x19_17 l0 (l0.length : Int) x37_2 x68_26 ((rd_T77 l0 x37_2).f0) ((rd_T77 l0 x37_2).f1) ((rd_T77 l0 x37_2).f2) ((rd_T77 l0 x37_2).f3) = some (r1, r2)) ∧ Aside0 (kq ≤ kj17) ∧ Aside0 (Kd.R k77 77 wc w.heap.size (fun k_ => k_ ≠ gb620) u13 x13_2) ∧ Aside0 (wc.heap[gb620]? = some (.cells #[.int .i64 ((rd_T77 l0 x37_2).f0), .int .i64 ((rd_T77 l0 x37_2).f1), .int .i64 ((rd_T77 l0 x37_2).f2), .int .i64 ((rd_T77 l0 x37_2).f3)] 77 (0, 0))) ∧ Aside0 (Below w.heap.size w wc))
            case first =>
             have H := HC27.out; clear HC27
             by_cases c28 : t622 = 20
             ·rw [if_pos c28] at H; have c28b0 : (t622 == 20) = true := beq_iff_eq.mpr c28; have c28b1 : (t622 != 20) = false := bne_eq_false_iff_eq.mpr c28; clear c28
              (first | rw [c28b0] | (simp only [i64_w, i32_w]; rw [c28b0]) | skip)
              have H' := Aside0.mk H; clear H
              go_wp2
              go_meet
              case rel => exact ⟨_, (true), jz, H', ⟨by have := HJ7.out; have := HK2.out; have := HJ17.out; first | omega | exact Nat.le_refl _⟩, ⟨rz HO_13⟩, ⟨kz⟩, ⟨bz⟩⟩
             ·rw [if_neg c28] at H; have c28b0 : (t622 == 20) = false := beq_eq_false_iff_ne.mpr c28; have c28b1 : (t622 != 20) = true := bne_iff_ne.mpr c28
              (first | rw [c28b0] | (simp only [i64_w, i32_w]; rw [c28b0]) | skip)
              have H' := Aside0.mk H; clear H
              go_wp2
              go_meet
              case rel => exact ⟨_, ((x19_17 == 20)), jz, H', ⟨by have := HJ7.out; have := HK2.out; have := HJ17.out; first | omega | exact Nat.le_refl _⟩, ⟨rz HO_13⟩, ⟨kz⟩, ⟨bz⟩⟩
            case rest =>
             clear HC27
             try clear c1
             try clear c2
             try clear p2
             try clear c3
             try clear c5
             try clear p6
             try clear q6
             try clear hx6
             try clear c7
             try clear c7b0
             try clear c7b1
             try clear c11
             try clear c13
             try clear c14
             try clear c14b0
             try clear c15
             try clear c15b0
             try clear c16
             try clear c16b0
             try clear c23
             try clear c23b0
             try clear c24
             try clear c28
             try clear c28b0
             try clear c28b1
             try clear hcz20_0
             try clear hcz20_1
             try clear hcz20_2
             try clear hcz20_3
             try clear hcz22_0
             try clear hcz22_1
             try clear hcz22_2
             try clear hcz22_3
             try clear hcz25_0
             try clear hcz25_1
             try clear hcz25_2
             try clear hcz25_3
             try clear hfz20_0
             try clear hfz20_1
             try clear hfz20_2
             try clear hfz20_3
             try clear hfz22_0
             try clear hfz22_1
             try clear hfz22_2
             try clear hfz22_3
             try clear hfz25_0
             try clear hfz25_1
             try clear hfz25_2
             try clear hfz25_3
             try clear hx619_0
             try clear hx619_1
             try clear hx619_2
             try clear hx619_3
             try clear p2
             try clear p6
             try clear p619
             try clear q6
             try clear q619
             obtain ⟨kq, x68_26, rfl, HA, HJ26, HO_13, BK620, HB⟩ := hcut
             cases kq with
             | zero => exact absurd HA.out (by simp [edit_Clock.j3])
             | succ kj26 =>
              have H := HA.out; clear HA; simp only [edit_Clock.j3] at H
              by_cases c29 : x68_26 = true
              ·subst c29; rw [if_pos rfl] at H; simp only [Option.some.injEq, Prod.mk.injEq] at H; obtain ⟨rfl, rfl⟩ := H
               go_wp2
               go_ret2
               exact ⟨_, ez, by first | exact Kd.R_nil _ _ _ _ _ | exact Kd.N_nil _ _ _ _ _ | exact Kd.V_nil _ _ _ _ _ | exact Kd.Q_nil _ _ _ _ _ | exact Kd.S_nil _ _ _ _ _, bz⟩
              ·obtain rfl := bf c29; rw [if_neg (show ¬ (false = true) by decide)] at H
               by_cases c30 : t622 = 0
               ·rw [if_pos c30] at H; have c30b0 : (t622 == 0) = true := beq_iff_eq.mpr c30; have c30b1 : (t622 != 0) = false := bne_eq_false_iff_eq.mpr c30; clear c30
                by_cases c31 : x19_17 = 0
                ·rw [if_pos c31] at H; have c31b0 : (x19_17 == 0) = true := beq_iff_eq.mpr c31; have c31b1 : (x19_17 != 0) = false := bne_eq_false_iff_eq.mpr c31; clear c31
                 by_cases c32 : x13_2.length < 4398046511104
                 ·rw [if_pos c32] at H; have LMc32 := Aside0.mk c32; clear c32; obtain ⟨y625, hy625⟩ : ∃ y_ : List (S77), y_ = (x13_2 ++ [(⟨t621, x18_17, ((rd_T77 l0 x37_2).f2), ((rd_T77 l0 x37_2).f3)⟩ : S77)]) := ⟨_, rfl⟩; replace H : (edit_Clock.l0 kj26 a1 a2 a3 a4 y625 l0 (l0.length : Int) (wrap64 (x37_2 + 1))) = some (r1, r2) := by first | (rw [hy625]; with_reducible exact H) | (have H2_ := (Option.bind_some _ _).symm.trans H; rw [hy625]; with_reducible exact H2_) | (have H2_ := (Option.bind_some _ _).symm.trans H; with_reducible exact H2_) | with_reducible exact H | (rw [hy625]; exact H) | exact H
                  have Ny625 := Aside0.mk hy625; clear hy625; have H' := Aside0.mk H; clear H; obtain ⟨hcz33_0, hcz33_1, hcz33_2, hcz33_3, hfz33_0, hfz33_1, hfz33_2, hfz33_3⟩ := xc4 BK620
                  go_wp2_with (first | ((with_reducible refine gate_builtin (b := .append) (xs := #[.tmp 86, .tmp 88]) rfl ?_); at_builtin; refine Kd.R_append k77 (w0 := w) w.heap.size rfl (.tmp 86) (.tmp 88) 22 77 (.agg #[(.int .i64 0), (.int .i64 0), (.int .i64 0), (.int .i64 0)]) 32 rfl Try.underlying22 info77 rfl (by decide) (by omega) u13 x13_2 (⟨t621, x18_17, ((rd_T77 l0 x37_2).f2), ((rd_T77 l0 x37_2).f3)⟩ : S77) [.int .i64 t621, .int .i64 x18_17, .int .i64 ((rd_T77 l0 x37_2).f2), .int .i64 ((rd_T77 l0 x37_2).f3)] (fun k_ => k_ ≠ gb620) (fun _ => False) rfl (by first | (go_simp; done) | (go_simp; rfl)) ?aP (fun _ hk => hk.elim) ?aF ?aO ?aB ?aS ?aL ?_; (case aP => exact k77_mkM _ _ _ (⟨t621, x18_17, ((rd_T77 l0 x37_2).f2), ((rd_T77 l0 x37_2).f3)⟩ : S77)); (case aB => exact bz); (case aF => exact (fun k_ hk => Kd.freshB (g := gb620) (o := .cells #[.int .i64 t621, .int .i64 x18_17, .int .i64 ((rd_T77 l0 x37_2).f2), .int .i64 ((rd_T77 l0 x37_2).f3)] 77 (0, 0)) (by (with_reducible repeat (first | refine blk_drewN ?_ _ | refine blk_drew ?_ | refine blk_alloc ?_ _)); refine blk_put (cs := #[.int .i64 t621, .int .i64 ((rd_T77 l0 x37_2).f1), .int .i64 ((rd_T77 l0 x37_2).f2), .int .i64 ((rd_T77 l0 x37_2).f3)]) ?_ 1 _ rfl; (with_reducible repeat (first | refine blk_drewN ?_ _ | refine blk_drew ?_ | refine blk_alloc ?_ _)); refine blk_put (cs := #[.int .i64 ((rd_T77 l0 x37_2).f0), .int .i64 ((rd_T77 l0 x37_2).f1), .int .i64 ((rd_T77 l0 x37_2).f2), .int .i64 ((rd_T77 l0 x37_2).f3)]) ?_ 0 _ rfl; (with_reducible repeat (first | refine blk_drewN ?_ _ | refine blk_drew ?_ | refine blk_alloc ?_ _)); exact BK620.out) k_ hk)); (case aO => exact (by (with_reducible repeat (first | apply Kd.R_alloc | apply Kd.R_drewN | apply Kd.R_drew)); exact Kd.R_mono (Kd.R_far (p := ⟨gb620, 1, none⟩) (Kd.R_far (p := ⟨gb620, 0, none⟩) (Kd.R_mono HO_13.out (fun k_ hk => (⟨hk, hk⟩ : _ ∧ k_ ≠ gb620))) (fun _ hk => hk.2) (.int .i64 t621)) (fun _ hk => hk.2) (.int .i64 x18_17)) (fun _ hk => hk.1))); (case aS => exact sz); (case aL => have := LMc32.out; omega); intro v626 w34 ho hb hg hat; rw [← Ny625.out] at ho; replace BK620 := Aside0.mk (blk_grown (g := gb620) (o := .cells #[.int .i64 t621, .int .i64 x18_17, .int .i64 ((rd_T77 l0 x37_2).f2), .int .i64 ((rd_T77 l0 x37_2).f3)] 77 (0, 0)) (by (with_reducible repeat (first | refine blk_drewN ?_ _ | refine blk_drew ?_ | refine blk_alloc ?_ _)); refine blk_put (cs := #[.int .i64 t621, .int .i64 ((rd_T77 l0 x37_2).f1), .int .i64 ((rd_T77 l0 x37_2).f2), .int .i64 ((rd_T77 l0 x37_2).f3)]) ?_ 1 _ rfl; (with_reducible repeat (first | refine blk_drewN ?_ _ | refine blk_drew ?_ | refine blk_alloc ?_ _)); refine blk_put (cs := #[.int .i64 ((rd_T77 l0 x37_2).f0), .int .i64 ((rd_T77 l0 x37_2).f1), .int .i64 ((rd_T77 l0 x37_2).f2), .int .i64 ((rd_T77 l0 x37_2).f3)]) ?_ 0 _ rfl; (with_reducible repeat (first | refine blk_drewN ?_ _ | refine blk_drew ?_ | refine blk_alloc ?_ _)); exact BK620.out) hg (Kd.R_away HO_13.out (fun _ hk => hk))); replace HB := Aside0.mk (hb); have HO627 := Aside0.mk (ho); clear HO_13; clear ho hb hg hat))
                  go_roundg kj26
                  case measure => have := HJ7.out; have := HK2.out; have := HJ17.out; have := HJ26.out; omega
                  case rel => exact ⟨(y625), (wrap64 (x37_2 + 1)), jz, H', ⟨by have := HJ7.out; have := HK2.out; have := HJ17.out; have := HJ26.out; omega⟩, ⟨by (with_reducible repeat (first | apply Kd.R_alloc | apply Kd.R_drewN | apply Kd.R_drew)); exact Kd.R_mono HO627.out (fun _ hk => trivial)⟩, ⟨bz⟩⟩
                 ·rw [if_neg c32] at H
                  exact absurd H (by simp)
                ·rw [if_neg c31] at H; have c31b0 : (x19_17 == 0) = false := beq_eq_false_iff_ne.mpr c31; have c31b1 : (x19_17 != 0) = true := bne_iff_ne.mpr c31; simp only [Option.some.injEq, Prod.mk.injEq] at H; obtain ⟨rfl, rfl⟩ := H
                 go_wp2
                 go_ret2
                 exact ⟨_, ez, by first | exact Kd.R_nil _ _ _ _ _ | exact Kd.N_nil _ _ _ _ _ | exact Kd.V_nil _ _ _ _ _ | exact Kd.Q_nil _ _ _ _ _ | exact Kd.S_nil _ _ _ _ _, bz⟩
               ·rw [if_neg c30] at H; have c30b0 : (t622 == 0) = false := beq_eq_false_iff_ne.mpr c30; have c30b1 : (t622 != 0) = true := bne_iff_ne.mpr c30; simp only [Option.some.injEq, Prod.mk.injEq] at H; obtain ⟨rfl, rfl⟩ := H
                go_wp2
                go_ret2
                exact ⟨_, ez, by first | exact Kd.R_nil _ _ _ _ _ | exact Kd.N_nil _ _ _ _ _ | exact Kd.V_nil _ _ _ _ _ | exact Kd.Q_nil _ _ _ _ _ | exact Kd.S_nil _ _ _ _ _, bz⟩
         ·rw [if_neg c16] at H
          exact absurd H (by simp)
        ·rw [if_neg c15] at H
         exact absurd H (by simp)
       ·rw [if_neg c14] at H; have c14b0 : decide (x37_2 < (l0.length : Int)) = false := decide_eq_false c14; clear c14; obtain ⟨⟨t615, t618⟩, A35, H⟩ := ob H
        (try dsimp only at H)
        simp only [Option.some.injEq, Prod.mk.injEq] at H; obtain ⟨rfl, rfl⟩ := H; obtain ⟨Ao36, co36, eo36⟩ := Kd.R_slice HO_13.out; subst eo36
        go_wp2_with (first | ((with_reducible refine gate_callee (f := 57) rfl ?_); refine zC 95 Try.func57 #[.agg #[.int .i64 a3, .int .i64 a4], .slice Ao36 x13_2.length co36] ?_; (with_reducible refine (edit_clocks_normal.calls k2 a3 a4 _ _ x13_2 t615 t618 _ ?side1 ?side2 A35.out).mono ?_); (case side1 => exact cr HO_13); (case side2 => exact (Kd.R_reads' HO_13.out).2.1); rintro e w37 ⟨v616, rfl, ho0, hb⟩; refine ⟨_, rfl, ?_⟩; have HO617 := Aside0.mk (Kd.R_lower (Kd.R_new' ho0 (Kd.R_lt (rz HO_13))) sz); replace HO_13 := Aside0.mk (Kd.R_elder' (rz HO_13) (Kd.R_base ho0) hb); replace HB := bp hb; clear hb ho0))
        go_ret2
        exact ⟨_, ez, by (with_reducible repeat (first | apply Kd.R_alloc | apply Kd.R_drewN | apply Kd.R_drew)); exact Kd.R_mono HO617.out (fun _ hk => trivial), bz⟩
 ·rw [if_neg c7] at H; have c7b0 : (t612 == 0) = false := beq_eq_false_iff_ne.mpr c7; have c7b1 : (t612 != 0) = true := bne_iff_ne.mpr c7; simp only [Option.some.injEq, Prod.mk.injEq] at H; obtain ⟨rfl, rfl⟩ := H
  go_enter Try.func30, Try.ntmps30
  go_wp2_with (first | ((with_reducible refine gate_callee (f := 24) rfl ?_); refine zC 23 Try.func24 #[.slice A0 l0.length c0, .int .i64 a1, .int .i64 a2] ?_; (with_reducible refine (edit_Check.calls k _ _ l0 a1 a2 t612 _ ?side1 ?side2 A6.out).mono ?_); (case side1 => repeat (first | exact HR0.out | (with_reducible refine Kd.C_alloc ?_ _) | (with_reducible refine Kd.C_drewN ?_ _) | (with_reducible refine Kd.C_drew ?_))); (case side2 => exact HC0.out); rintro e w38 ⟨rfl, hb⟩; refine ⟨_, rfl, ?_⟩; replace HB := bp hb; clear hb))
  go_ret2
  exact ⟨_, ez, by first | exact Kd.R_nil _ _ _ _ _ | exact Kd.N_nil _ _ _ _ _ | exact Kd.V_nil _ _ _ _ _ | exact Kd.Q_nil _ _ _ _ _ | exact Kd.S_nil _ _ _ _ _, bz⟩
mutual
def dioramaref10_Clock.j0 : Nat → List (S77) → Int → Int → Int → Int → Bool → Option ((List (S77)) × Int)
  | 0, _, _, _, _, _, _ => none
  | k + 1, x0, x1, x2, x3, x4, x34 => if x34 = true then (some (([] : List (S77)), 1)) else (dioramaref10_Clock.l0 k x0 x1 x2 x3 x4 ([] : List (S77)) 0)
def dioramaref10_Clock.l0 : Nat → List (S77) → Int → Int → Int → Int → List (S77) → Int → Option ((List (S77)) × Int)
  | 0, _, _, _, _, _, _, _ => none
  | k + 1, x0, x1, x2, x3, x4, x13, x14 => if x14 < (x0.length : Int) then (if 0 ≤ x14 then ((dioramaref10_ratio.f k ((rd_T77 x0 x14).f0) 1).bind fun bt637 => ((dioramaref10_ratio.f k x3 x1).bind fun bt644 => ((dioramaref10_times.f k bt637.1 bt637.2.1 bt637.2.2 bt644.1 bt644.2.1 bt644.2.2).bind fun bt651 => ((dioramaref10_whole.f k bt651.1 bt651.2.1 bt651.2.2).bind fun bt658 => ((dioramaref10_isEmpty.f ((rd_T77 x0 x14).f0) ((rd_T77 x0 x14).f1) ((rd_T77 x0 x14).f2) ((rd_T77 x0 x14).f3)).bind fun t660 => (if t660 = true then (dioramaref10_Clock.j2 k x0 x1 x2 x3 x4 x13 x14 bt658.1 bt658.2 0 ((rd_T77 x0 x14).f0) ((rd_T77 x0 x14).f1) ((rd_T77 x0 x14).f2) ((rd_T77 x0 x14).f3)) else ((dioramaref10_ratio.f k ((rd_T77 x0 x14).f1) 1).bind fun bt661 => ((dioramaref10_ratio.f k x4 x2).bind fun bt668 => ((dioramaref10_times.f k bt661.1 bt661.2.1 bt661.2.2 bt668.1 bt668.2.1 bt668.2.2).bind fun bt675 => ((dioramaref10_whole.f k bt675.1 bt675.2.1 bt675.2.2).bind fun bt682 => (dioramaref10_Clock.j2 k x0 x1 x2 x3 x4 x13 x14 bt658.1 bt658.2 bt682.2 ((rd_T77 x0 x14).f0) bt682.1 ((rd_T77 x0 x14).f2) ((rd_T77 x0 x14).f3)))))))))))) else (none)) else ((dioramaref10_told.f k x13 x3 x4).bind fun bt631 => (some (bt631.1, bt631.2)))
def dioramaref10_Clock.j2 : Nat → List (S77) → Int → Int → Int → Int → List (S77) → Int → Int → Int → Int → Int → Int → Int → Int → Option ((List (S77)) × Int)
  | 0, _, _, _, _, _, _, _, _, _, _, _, _, _, _ => none
  | k + 1, x0, x1, x2, x3, x4, x13, x14, x16, x17, x19, x637000, x637001, x637002, x637003 => if x17 = 20 then (dioramaref10_Clock.j3 k x0 x1 x2 x3 x4 x13 x14 x17 x19 true x16 x637001 x637002 x637003) else (dioramaref10_Clock.j3 k x0 x1 x2 x3 x4 x13 x14 x17 x19 (x19 == 20) x16 x637001 x637002 x637003)
def dioramaref10_Clock.j3 : Nat → List (S77) → Int → Int → Int → Int → List (S77) → Int → Int → Int → Bool → Int → Int → Int → Int → Option ((List (S77)) × Int)
  | 0, _, _, _, _, _, _, _, _, _, _, _, _, _, _ => none
  | k + 1, x0, x1, x2, x3, x4, x13, x14, x17, x19, x79, x637000, x637001, x637002, x637003 => if x79 = true then (some (([] : List (S77)), 20)) else (if x17 = 0 then (if x19 = 0 then (if x13.length < 4398046511104 then (dioramaref10_Clock.l0 k x0 x1 x2 x3 x4 (x13 ++ [(⟨x637000, x637001, x637002, x637003⟩ : S77)]) (wrap64 (x14 + 1))) else (none)) else (some (([] : List (S77)), 2))) else (some (([] : List (S77)), 2)))
end
def dioramaref10_Clock.f (k : Nat) (l0 : List (S77)) (a1 : Int) (a2 : Int) (a3 : Int) (a4 : Int) : Option ((List (S77)) × Int) := (dioramaref10_Check.f k l0 a1 a2).bind fun t628 => (if t628 = 0 then ((dioramaref10_isScale.f a3).bind fun t629 => (if t629 = true then ((dioramaref10_isScale.f a4).bind fun t630 => (dioramaref10_Clock.j0 k l0 a1 a2 a3 a4 (!t630))) else (dioramaref10_Clock.j0 k l0 a1 a2 a3 a4 true))) else (some (([] : List (S77)), t628)))
set_option maxHeartbeats 8000000 in
set_option maxRecDepth 100000 in
theorem dioramaref10_Clock.calls (k : Nat) (A0 : Option Addr) (c0 : Nat) (l0 : List (S77)) (a1 : Int) (a2 : Int) (a3 : Int) (a4 : Int) (r1 : List (S77)) (r2 : Int) (w : World) (hr0 : Kd.C k77 w A0 l0.length l0) (hc0 : l0.length ≤ c0) (h : dioramaref10_Clock.f k l0 a1 a2 a3 a4 = some (r1, r2)) :
  Calls Try.prog 31 #[.slice A0 l0.length c0, .int .i64 a1, .int .i64 a2, .int .i64 a3, .int .i64 a4] w fun e w' => ∃ v0_ : Value, e = .returned (.tuple #[v0_, .int .i64 r2]) ∧ Kd.R k77 77 w' w.heap.size (fun _ => True) v0_ r1 ∧ Below w.heap.size w w' := by
 have hu77 := Try.underlying77; have HR0 := Aside0.mk hr0; have HC0 := Aside0.mk hc0; clear hr0 hc0; have HB := Aside0.mk (Below.refl w.heap.size w); have H : ((dioramaref10_Check.f k l0 a1 a2).bind fun t628 => (if t628 = 0 then ((dioramaref10_isScale.f a3).bind fun t629 => (if t629 = true then ((dioramaref10_isScale.f a4).bind fun t630 => (dioramaref10_Clock.j0 k l0 a1 a2 a3 a4 (!t630))) else (dioramaref10_Clock.j0 k l0 a1 a2 a3 a4 true))) else (some (([] : List (S77)), t628)))) = some (r1, r2) := h
 clear h; obtain ⟨t628, A6, H⟩ := ob H
 by_cases c7 : t628 = 0
 ·rw [if_pos c7] at H; have c7b0 : (t628 == 0) = true := beq_iff_eq.mpr c7; have c7b1 : (t628 != 0) = false := bne_eq_false_iff_eq.mpr c7; clear c7; have HC8 := Aside0.mk H; clear H
  go_enter Try.func31, Try.ntmps31
  go_upto_region 4 with (first | ((with_reducible refine gate_callee (f := 25) rfl ?_); refine zC 23 Try.func25 #[.slice A0 l0.length c0, .int .i64 a1, .int .i64 a2] ?_; (with_reducible refine (dioramaref10_Check.calls k _ _ l0 a1 a2 t628 _ ?side1 ?side2 A6.out).mono ?_); (case side1 => repeat (first | exact HR0.out | (with_reducible refine Kd.C_alloc ?_ _) | (with_reducible refine Kd.C_drewN ?_ _) | (with_reducible refine Kd.C_drew ?_))); (case side2 => exact HC0.out); rintro e w9 ⟨rfl, hb⟩; refine ⟨_, rfl, ?_⟩; replace HB := bp hb; clear hb))
  (try simp only [Act.put, List.setIfInBounds_toArray, List.set_cons_zero, List.set_cons_succ])
  go_cut [34] (fun v34 wc => ∃ (kq : Nat) (x34_7 : Bool), v34 = .bool x34_7 ∧ Aside0 (dioramaref10_Clock.j0 kq l0 a1 a2 a3 a4 x34_7 = some (r1, r2)) ∧ Aside0 (kq ≤ k) ∧ Aside0 (Below w.heap.size w wc))
  case first =>
   have H := HC8.out; clear HC8; obtain ⟨t629, A10, H⟩ := ob H
   by_cases c11 : t629 = true
   ·subst c11; rw [if_pos rfl] at H; obtain ⟨t630, A12, H⟩ := ob H; have H' := Aside0.mk H; clear H
    go_wp2_with (first | ((with_reducible refine gate_callee (f := 61) rfl ?_); refine zC 28 Try.func61 #[.int .i64 a3] ?_; (with_reducible refine (dioramaref10_isScale.calls a3 true _ A10.out).mono ?_); rintro e w' ⟨rfl, ⟨nd, rfl⟩⟩; refine ⟨_, rfl, ?_⟩) | (go_at_call 61; (with_reducible refine (dioramaref10_isScale.calls a4 t630 _ A12.out).mono ?_); rintro e w' ⟨rfl, ⟨nd, rfl⟩⟩))
    go_meet
    case rel => exact ⟨_, (!t630), jz, H', ⟨by first | omega | exact Nat.le_refl _⟩, ⟨bz⟩⟩
   ·obtain rfl := bf c11; rw [if_neg (show ¬ (false = true) by decide)] at H; have H' := Aside0.mk H; clear H
    go_wp2_with (first | ((with_reducible refine gate_callee (f := 61) rfl ?_); refine zC 28 Try.func61 #[.int .i64 a3] ?_; (with_reducible refine (dioramaref10_isScale.calls a3 false _ A10.out).mono ?_); rintro e w' ⟨rfl, ⟨nd, rfl⟩⟩; refine ⟨_, rfl, ?_⟩))
    go_meet
    case rel => exact ⟨_, (true), jz, H', ⟨by first | omega | exact Nat.le_refl _⟩, ⟨bz⟩⟩
  case rest =>
   clear HC8
   try clear c1
   try clear c2
   try clear p2
   try clear c3
   try clear c6
   try clear c7
   try clear c7b0
   try clear c7b1
   try clear c11
   obtain ⟨kq, x34_7, rfl, HA, HJ7, HB⟩ := hcut
   cases kq with
   | zero => exact absurd HA.out (by simp [dioramaref10_Clock.j0])
   | succ kj7 =>
    have H := HA.out; clear HA; simp only [dioramaref10_Clock.j0] at H
    by_cases c13 : x34_7 = true
    ·subst c13; rw [if_pos rfl] at H; simp only [Option.some.injEq, Prod.mk.injEq] at H; obtain ⟨rfl, rfl⟩ := H
     go_wp2
     go_ret2
     exact ⟨_, ez, by first | exact Kd.R_nil _ _ _ _ _ | exact Kd.N_nil _ _ _ _ _ | exact Kd.V_nil _ _ _ _ _ | exact Kd.Q_nil _ _ _ _ _ | exact Kd.S_nil _ _ _ _ _, bz⟩
    ·obtain rfl := bf c13; rw [if_neg (show ¬ (false = true) by decide)] at H; have H' := Aside0.mk H; clear H
     go_wp2
     go_loopg [13, 14] kj7 (fun kq v13 v14 w' => ∃ (x13_2 : List (S77)) (x14_2 : Int), v14 = .int .i64 x14_2 ∧ Aside0 (dioramaref10_Clock.l0 kq l0 a1 a2 a3 a4 x13_2 x14_2 = some (r1, r2)) ∧ Aside0 (kq ≤ kj7) ∧ Aside0 (Kd.R k77 77 w' w.heap.size (fun _ => True) v13 x13_2) ∧ Aside0 (Below w.heap.size w w'))
     case atStart => exact ⟨(([] : List (S77))), (0), jz, H', ⟨Nat.le_refl _⟩, ⟨by first | exact Kd.R_nil _ _ _ _ _ | exact Kd.N_nil _ _ _ _ _ | exact Kd.V_nil _ _ _ _ _ | exact Kd.Q_nil _ _ _ _ _ | exact Kd.S_nil _ _ _ _ _⟩, ⟨bz⟩⟩
     case round =>
      clear H'
      try clear c1
      try clear c2
      try clear p2
      try clear c3
      try clear c6
      try clear c7
      try clear c7b0
      try clear c7b1
      try clear c11
      try clear c13
      try clear p2
      obtain ⟨x13_2, x14_2, rfl, HA, HK2, HO_13, HB⟩ := hrel
      cases gk with
      | zero => exact absurd HA.out (by simp [dioramaref10_Clock.l0])
      | succ k2 =>
       have H := HA.out; clear HA; simp only [dioramaref10_Clock.l0] at H
       by_cases c14 : x14_2 < (l0.length : Int)
       ·rw [if_pos c14] at H; have c14b0 : decide (x14_2 < (l0.length : Int)) = true := decide_eq_true c14; clear c14
        by_cases c15 : 0 ≤ x14_2
        ·rw [if_pos c15] at H; have c15b0 : decide (0 ≤ x14_2) = true := decide_eq_true c15; clear c15; obtain ⟨⟨t637, t638, t641⟩, A16, H⟩ := ob H
         (try dsimp only at H)
         obtain ⟨⟨t644, t645, t648⟩, A17, H⟩ := ob H
         (try dsimp only at H)
         obtain ⟨⟨t651, t652, t655⟩, A18, H⟩ := ob H
         (try dsimp only at H)
         obtain ⟨⟨t658, t659⟩, A19, H⟩ := ob H
         (try dsimp only at H)
         obtain ⟨t660, A20, H⟩ := ob H; have HC21 := Aside0.mk H; clear H; have p635 : 0 ≤ (x14_2 : Int) := od; have q635 : x14_2 < (l0.length : Int) := od; obtain ⟨ad635, e635, hx635_0, hx635_1, hx635_2, hx635_3⟩ := at_T77 HR0.out x14_2 p635 q635
         cases e635
         replace hx635_0 := cl HB hx635_0; replace hx635_1 := cl HB hx635_1; replace hx635_2 := cl HB hx635_2; replace hx635_3 := cl HB hx635_3; replace p635 := eq_true p635; replace q635 := eq_true q635
         go_upto_if 58 with (first | ((with_reducible refine gate_dst (N := 15) rfl ?_); refine zB 15 77 #[.int .i64 0, .int .i64 0, .int .i64 0, .int .i64 0] ?_; intro gb636 hg w22 hbox hb; replace HO_13 := Aside0.mk (Kd.R_below (Kd.R_elderB (rz HO_13) gb636 (Nat.le_of_eq hg.symm)) hb); have BK636 := Aside0.mk hbox; have GW636 := gz hg; have GE636 := gz hg; replace HB := bp hb; clear hb hbox hg; obtain ⟨hcz23_0, hcz23_1, hcz23_2, hcz23_3, hfz23_0, hfz23_1, hfz23_2, hfz23_3⟩ := xc4 BK636) | ((with_reducible refine gate_callee (f := 68) rfl ?_); refine zC 48 Try.func68 #[.int .i64 ((rd_T77 l0 x14_2).f0), .int .i64 1] ?_; (with_reducible refine (dioramaref10_ratio.calls k2 ((rd_T77 l0 x14_2).f0) 1 t637 t638 t641 _ A16.out).mono ?_); rintro e w24 ⟨v639, v642, rfl, ho0, ho1, hb⟩; refine ⟨_, rfl, ?_⟩; replace HO_13 := Aside0.mk (Kd.R_below (by (with_reducible repeat (first | apply Kd.R_alloc | apply Kd.R_drewN | apply Kd.R_drew)); exact (Kd.R_mono (Kd.R_far (p := ⟨gb636, 3, none⟩) (Kd.R_far (p := ⟨gb636, 2, none⟩) (Kd.R_far (p := ⟨gb636, 1, none⟩) (Kd.R_far (p := ⟨gb636, 0, none⟩) (Kd.R_mono HO_13.out (fun k_ hk => (⟨hk, hk.2⟩ : _ ∧ k_ ≠ gb636))) (fun _ hk => hk.2) (.int .i64 ((rd_T77 l0 x14_2).f0))) (fun _ hk => hk.2) (.int .i64 ((rd_T77 l0 x14_2).f1))) (fun _ hk => hk.2) (.int .i64 ((rd_T77 l0 x14_2).f2))) (fun _ hk => hk.2) (.int .i64 ((rd_T77 l0 x14_2).f3))) (fun _ h_ => h_.1))) hb); have HO640 := Aside0.mk (Kd.R_lower ho0 sz); have HO643 := Aside0.mk (Kd.R_lower ho1 sz); replace BK636 := Aside0.mk (blk_below (g := gb636) (o := .cells #[.int .i64 ((rd_T77 l0 x14_2).f0), .int .i64 ((rd_T77 l0 x14_2).f1), .int .i64 ((rd_T77 l0 x14_2).f2), .int .i64 ((rd_T77 l0 x14_2).f3)] 77 (0, 0)) (by (with_reducible repeat (first | refine blk_drewN ?_ _ | refine blk_drew ?_ | refine blk_alloc ?_ _)); refine blk_put (cs := #[.int .i64 ((rd_T77 l0 x14_2).f0), .int .i64 ((rd_T77 l0 x14_2).f1), .int .i64 ((rd_T77 l0 x14_2).f2), .int .i64 0]) ?_ 3 _ rfl; (with_reducible repeat (first | refine blk_drewN ?_ _ | refine blk_drew ?_ | refine blk_alloc ?_ _)); refine blk_put (cs := #[.int .i64 ((rd_T77 l0 x14_2).f0), .int .i64 ((rd_T77 l0 x14_2).f1), .int .i64 0, .int .i64 0]) ?_ 2 _ rfl; (with_reducible repeat (first | refine blk_drewN ?_ _ | refine blk_drew ?_ | refine blk_alloc ?_ _)); refine blk_put (cs := #[.int .i64 ((rd_T77 l0 x14_2).f0), .int .i64 0, .int .i64 0, .int .i64 0]) ?_ 1 _ rfl; (with_reducible repeat (first | refine blk_drewN ?_ _ | refine blk_drew ?_ | refine blk_alloc ?_ _)); refine blk_put (cs := #[.int .i64 0, .int .i64 0, .int .i64 0, .int .i64 0]) ?_ 0 _ rfl; (with_reducible repeat (first | refine blk_drewN ?_ _ | refine blk_drew ?_ | refine blk_alloc ?_ _)); exact BK636.out) hb); replace HB := bp hb; clear hb ho0 ho1) | ((with_reducible refine gate_callee (f := 68) rfl ?_); refine zC 51 Try.func68 #[.int .i64 a3, .int .i64 a1] ?_; (with_reducible refine (dioramaref10_ratio.calls k2 a3 a1 t644 t645 t648 _ A17.out).mono ?_); rintro e w25 ⟨v646, v649, rfl, ho0, ho1, hb⟩; refine ⟨_, rfl, ?_⟩; replace HO_13 := Aside0.mk (Kd.R_below (rz HO_13) hb); have HO647 := Aside0.mk (Kd.R_lower (Kd.R_new' (Kd.R_new' ho0 (Kd.R_lt (rz HO640))) (Kd.R_lt (rz HO643))) sz); have HO650 := Aside0.mk (Kd.R_lower (Kd.R_new' (Kd.R_new' ho1 (Kd.R_lt (rz HO640))) (Kd.R_lt (rz HO643))) sz); replace HO640 := Aside0.mk (Kd.R_mono (Kd.R_told (Kd.R_told (Kd.R_old (rz HO640) hb) (Kd.R_base ho0)) (Kd.R_base ho1)) (fun _ h_ => h_.1)); replace HO643 := Aside0.mk (Kd.R_mono (Kd.R_told (Kd.R_told (Kd.R_old (rz HO643) hb) (Kd.R_base ho0)) (Kd.R_base ho1)) (fun _ h_ => h_.1)); replace BK636 := kb BK636 hb; replace HB := bp hb; clear hb ho0 ho1; obtain ⟨Ao26, co26, eo26⟩ := Kd.R_slice HO640.out; subst eo26; obtain ⟨Ao27, co27, eo27⟩ := Kd.R_slice HO643.out; subst eo27; obtain ⟨Ao28, co28, eo28⟩ := Kd.R_slice HO647.out; subst eo28; obtain ⟨Ao29, co29, eo29⟩ := Kd.R_slice HO650.out; subst eo29) | ((with_reducible refine gate_callee (f := 73) rfl ?_); refine zC 52 Try.func73 #[.agg #[.bool t637, .slice Ao26 t638.length co26, .slice Ao27 t641.length co27], .agg #[.bool t644, .slice Ao28 t645.length co28, .slice Ao29 t648.length co29]] ?_; (with_reducible refine (dioramaref10_times.calls k2 t637 _ _ t638 _ _ t641 t644 _ _ t645 _ _ t648 t651 t652 t655 _ ?side1 ?side2 ?side3 ?side4 ?side5 ?side6 ?side7 ?side8 A18.out).mono ?_); (case side1 => exact cr HO640); (case side2 => exact (Kd.R_reads' HO640.out).2.1); (case side3 => exact cr HO643); (case side4 => exact (Kd.R_reads' HO643.out).2.1); (case side5 => exact cr HO647); (case side6 => exact (Kd.R_reads' HO647.out).2.1); (case side7 => exact cr HO650); (case side8 => exact (Kd.R_reads' HO650.out).2.1); rintro e w30 ⟨v653, v656, rfl, ho0, ho1, hb⟩; refine ⟨_, rfl, ?_⟩; replace HO_13 := Aside0.mk (Kd.R_below (rz HO_13) hb); have HO654 := Aside0.mk (Kd.R_lower (Kd.R_new' (Kd.R_new' (Kd.R_new' (Kd.R_new' ho0 (Kd.R_lt (rz HO640))) (Kd.R_lt (rz HO643))) (Kd.R_lt (rz HO647))) (Kd.R_lt (rz HO650))) sz); have HO657 := Aside0.mk (Kd.R_lower (Kd.R_new' (Kd.R_new' (Kd.R_new' (Kd.R_new' ho1 (Kd.R_lt (rz HO640))) (Kd.R_lt (rz HO643))) (Kd.R_lt (rz HO647))) (Kd.R_lt (rz HO650))) sz); replace HO640 := Aside0.mk (Kd.R_mono (Kd.R_told (Kd.R_told (Kd.R_old (rz HO640) hb) (Kd.R_base ho0)) (Kd.R_base ho1)) (fun _ h_ => h_.1)); replace HO643 := Aside0.mk (Kd.R_mono (Kd.R_told (Kd.R_told (Kd.R_old (rz HO643) hb) (Kd.R_base ho0)) (Kd.R_base ho1)) (fun _ h_ => h_.1)); replace HO647 := Aside0.mk (Kd.R_mono (Kd.R_told (Kd.R_told (Kd.R_old (rz HO647) hb) (Kd.R_base ho0)) (Kd.R_base ho1)) (fun _ h_ => h_.1)); replace HO650 := Aside0.mk (Kd.R_mono (Kd.R_told (Kd.R_told (Kd.R_old (rz HO650) hb) (Kd.R_base ho0)) (Kd.R_base ho1)) (fun _ h_ => h_.1)); replace BK636 := kb BK636 hb; replace HB := bp hb; clear hb ho0 ho1; obtain ⟨Ao31, co31, eo31⟩ := Kd.R_slice HO654.out; subst eo31; obtain ⟨Ao32, co32, eo32⟩ := Kd.R_slice HO657.out; subst eo32) | ((with_reducible refine gate_callee (f := 72) rfl ?_); refine zC 53 Try.func72 #[.agg #[.bool t651, .slice Ao31 t652.length co31, .slice Ao32 t655.length co32]] ?_; (with_reducible refine (dioramaref10_whole.calls k2 t651 _ _ t652 _ _ t655 t658 t659 _ ?side1 ?side2 ?side3 ?side4 A19.out).mono ?_); (case side1 => exact cr HO654); (case side2 => exact (Kd.R_reads' HO654.out).2.1); (case side3 => exact cr HO657); (case side4 => exact (Kd.R_reads' HO657.out).2.1); rintro e w33 ⟨rfl, hb⟩; refine ⟨_, rfl, ?_⟩; replace HO_13 := Aside0.mk (Kd.R_below (rz HO_13) hb); replace HO640 := Aside0.mk (Kd.R_below (rz HO640) hb); replace HO643 := Aside0.mk (Kd.R_below (rz HO643) hb); replace HO647 := Aside0.mk (Kd.R_below (rz HO647) hb); replace HO650 := Aside0.mk (Kd.R_below (rz HO650) hb); replace HO654 := Aside0.mk (Kd.R_below (rz HO654) hb); replace HO657 := Aside0.mk (Kd.R_below (rz HO657) hb); replace BK636 := kb BK636 hb; replace HB := bp hb; clear hb; obtain ⟨hcz34_0, hcz34_1, hcz34_2, hcz34_3, hfz34_0, hfz34_1, hfz34_2, hfz34_3⟩ := xc4 BK636) | ((with_reducible refine gate_callee (f := 74) rfl ?_); refine zC 57 Try.func74 #[.agg #[.int .i64 ((rd_T77 l0 x14_2).f0), .int .i64 ((rd_T77 l0 x14_2).f1), .int .i64 ((rd_T77 l0 x14_2).f2), .int .i64 ((rd_T77 l0 x14_2).f3)]] ?_; (with_reducible refine (dioramaref10_isEmpty.calls ((rd_T77 l0 x14_2).f0) ((rd_T77 l0 x14_2).f1) ((rd_T77 l0 x14_2).f2) ((rd_T77 l0 x14_2).f3) t660 _ A20.out).mono ?_); rintro e w35 ⟨rfl, hb⟩; refine ⟨_, rfl, ?_⟩; replace HO_13 := Aside0.mk (Kd.R_below (rz HO_13) hb); replace HO640 := Aside0.mk (Kd.R_below (rz HO640) hb); replace HO643 := Aside0.mk (Kd.R_below (rz HO643) hb); replace HO647 := Aside0.mk (Kd.R_below (rz HO647) hb); replace HO650 := Aside0.mk (Kd.R_below (rz HO650) hb); replace HO654 := Aside0.mk (Kd.R_below (rz HO654) hb); replace HO657 := Aside0.mk (Kd.R_below (rz HO657) hb); replace BK636 := kb BK636 hb; replace HB := bp hb; clear hb))
         (try simp only [Act.put, List.setIfInBounds_toArray, List.set_cons_zero, List.set_cons_succ])
         go_cut [19] (fun v19 wc => ∃ (kq : Nat) (x19_20 : Int) (x637001_20 : Int), v19 = .int .i64 x19_20 ∧ Aside0 (dioramaref10_Clock.j2 kq l0 a1 a2 a3 a4 x13_2 x14_2 t658 t659 x19_20 ((rd_T77 l0 x14_2).f0) x637001_20 ((rd_T77 l0 x14_2).f2) ((rd_T77 l0 x14_2).f3) = some (r1, r2)) ∧ Aside0 (kq ≤ k2) ∧ Aside0 (Kd.R k77 77 wc w.heap.size (fun k_ => k_ ≠ gb636) u13 x13_2) ∧ Aside0 (wc.heap[gb636]? = some (.cells #[.int .i64 ((rd_T77 l0 x14_2).f0), .int .i64 x637001_20, .int .i64 ((rd_T77 l0 x14_2).f2), .int .i64 ((rd_T77 l0 x14_2).f3)] 77 (0, 0))) ∧ Aside0 (Below w.heap.size w wc))
         case first =>
          have H := HC21.out; clear HC21
          by_cases c36 : t660 = true
          ·subst c36; rw [if_pos rfl] at H; have H' := Aside0.mk H; clear H
           go_wp2
           go_meet
           case rel => exact ⟨_, (0), ((rd_T77 l0 x14_2).f1), jz, H', ⟨by have := HJ7.out; have := HK2.out; first | omega | exact Nat.le_refl _⟩, ⟨by (with_reducible repeat (first | apply Kd.R_alloc | apply Kd.R_drewN | apply Kd.R_drew)); exact Kd.R_mono HO_13.out (fun _ hk => hk.2)⟩, ⟨kz⟩, ⟨bz⟩⟩
          ·obtain rfl := bf c36; rw [if_neg (show ¬ (false = true) by decide)] at H; obtain ⟨⟨t661, t662, t665⟩, A37, H⟩ := ob H
           (try dsimp only at H)
           obtain ⟨⟨t668, t669, t672⟩, A38, H⟩ := ob H
           (try dsimp only at H)
           obtain ⟨⟨t675, t676, t679⟩, A39, H⟩ := ob H
           (try dsimp only at H)
           obtain ⟨⟨t682, t683⟩, A40, H⟩ := ob H
           (try dsimp only at H)
           have H' := Aside0.mk H; clear H; obtain ⟨hcz41_0, hcz41_1, hcz41_2, hcz41_3, hfz41_0, hfz41_1, hfz41_2, hfz41_3⟩ := xc4 BK636
           go_wp2_with (first | ((with_reducible refine gate_callee (f := 68) rfl ?_); refine zC 62 Try.func68 #[.int .i64 ((rd_T77 l0 x14_2).f1), .int .i64 1] ?_; (with_reducible refine (dioramaref10_ratio.calls k2 ((rd_T77 l0 x14_2).f1) 1 t661 t662 t665 _ A37.out).mono ?_); rintro e w42 ⟨v663, v666, rfl, ho0, ho1, hb⟩; refine ⟨_, rfl, ?_⟩; replace HO_13 := Aside0.mk (Kd.R_below (rz HO_13) hb); have HO664 := Aside0.mk (Kd.R_lower (Kd.R_new' (Kd.R_new' (Kd.R_new' (Kd.R_new' (Kd.R_new' (Kd.R_new' ho0 (Kd.R_lt (rz HO640))) (Kd.R_lt (rz HO643))) (Kd.R_lt (rz HO647))) (Kd.R_lt (rz HO650))) (Kd.R_lt (rz HO654))) (Kd.R_lt (rz HO657))) sz); have HO667 := Aside0.mk (Kd.R_lower (Kd.R_new' (Kd.R_new' (Kd.R_new' (Kd.R_new' (Kd.R_new' (Kd.R_new' ho1 (Kd.R_lt (rz HO640))) (Kd.R_lt (rz HO643))) (Kd.R_lt (rz HO647))) (Kd.R_lt (rz HO650))) (Kd.R_lt (rz HO654))) (Kd.R_lt (rz HO657))) sz); replace HO640 := Aside0.mk (Kd.R_mono (Kd.R_told (Kd.R_told (Kd.R_old (rz HO640) hb) (Kd.R_base ho0)) (Kd.R_base ho1)) (fun _ h_ => h_.1)); replace HO643 := Aside0.mk (Kd.R_mono (Kd.R_told (Kd.R_told (Kd.R_old (rz HO643) hb) (Kd.R_base ho0)) (Kd.R_base ho1)) (fun _ h_ => h_.1)); replace HO647 := Aside0.mk (Kd.R_mono (Kd.R_told (Kd.R_told (Kd.R_old (rz HO647) hb) (Kd.R_base ho0)) (Kd.R_base ho1)) (fun _ h_ => h_.1)); replace HO650 := Aside0.mk (Kd.R_mono (Kd.R_told (Kd.R_told (Kd.R_old (rz HO650) hb) (Kd.R_base ho0)) (Kd.R_base ho1)) (fun _ h_ => h_.1)); replace HO654 := Aside0.mk (Kd.R_mono (Kd.R_told (Kd.R_told (Kd.R_old (rz HO654) hb) (Kd.R_base ho0)) (Kd.R_base ho1)) (fun _ h_ => h_.1)); replace HO657 := Aside0.mk (Kd.R_mono (Kd.R_told (Kd.R_told (Kd.R_old (rz HO657) hb) (Kd.R_base ho0)) (Kd.R_base ho1)) (fun _ h_ => h_.1)); replace BK636 := kb BK636 hb; replace HB := bp hb; clear hb ho0 ho1) | ((with_reducible refine gate_callee (f := 68) rfl ?_); refine zC 65 Try.func68 #[.int .i64 a4, .int .i64 a2] ?_; (with_reducible refine (dioramaref10_ratio.calls k2 a4 a2 t668 t669 t672 _ A38.out).mono ?_); rintro e w43 ⟨v670, v673, rfl, ho0, ho1, hb⟩; refine ⟨_, rfl, ?_⟩; replace HO_13 := Aside0.mk (Kd.R_below (rz HO_13) hb); have HO671 := Aside0.mk (Kd.R_lower (Kd.R_new' (Kd.R_new' (Kd.R_new' (Kd.R_new' (Kd.R_new' (Kd.R_new' (Kd.R_new' (Kd.R_new' ho0 (Kd.R_lt (rz HO640))) (Kd.R_lt (rz HO643))) (Kd.R_lt (rz HO647))) (Kd.R_lt (rz HO650))) (Kd.R_lt (rz HO654))) (Kd.R_lt (rz HO657))) (Kd.R_lt (rz HO664))) (Kd.R_lt (rz HO667))) sz); have HO674 := Aside0.mk (Kd.R_lower (Kd.R_new' (Kd.R_new' (Kd.R_new' (Kd.R_new' (Kd.R_new' (Kd.R_new' (Kd.R_new' (Kd.R_new' ho1 (Kd.R_lt (rz HO640))) (Kd.R_lt (rz HO643))) (Kd.R_lt (rz HO647))) (Kd.R_lt (rz HO650))) (Kd.R_lt (rz HO654))) (Kd.R_lt (rz HO657))) (Kd.R_lt (rz HO664))) (Kd.R_lt (rz HO667))) sz); replace HO640 := Aside0.mk (Kd.R_mono (Kd.R_told (Kd.R_told (Kd.R_old (rz HO640) hb) (Kd.R_base ho0)) (Kd.R_base ho1)) (fun _ h_ => h_.1)); replace HO643 := Aside0.mk (Kd.R_mono (Kd.R_told (Kd.R_told (Kd.R_old (rz HO643) hb) (Kd.R_base ho0)) (Kd.R_base ho1)) (fun _ h_ => h_.1)); replace HO647 := Aside0.mk (Kd.R_mono (Kd.R_told (Kd.R_told (Kd.R_old (rz HO647) hb) (Kd.R_base ho0)) (Kd.R_base ho1)) (fun _ h_ => h_.1)); replace HO650 := Aside0.mk (Kd.R_mono (Kd.R_told (Kd.R_told (Kd.R_old (rz HO650) hb) (Kd.R_base ho0)) (Kd.R_base ho1)) (fun _ h_ => h_.1)); replace HO654 := Aside0.mk (Kd.R_mono (Kd.R_told (Kd.R_told (Kd.R_old (rz HO654) hb) (Kd.R_base ho0)) (Kd.R_base ho1)) (fun _ h_ => h_.1)); replace HO657 := Aside0.mk (Kd.R_mono (Kd.R_told (Kd.R_told (Kd.R_old (rz HO657) hb) (Kd.R_base ho0)) (Kd.R_base ho1)) (fun _ h_ => h_.1)); replace HO664 := Aside0.mk (Kd.R_mono (Kd.R_told (Kd.R_told (Kd.R_old (rz HO664) hb) (Kd.R_base ho0)) (Kd.R_base ho1)) (fun _ h_ => h_.1)); replace HO667 := Aside0.mk (Kd.R_mono (Kd.R_told (Kd.R_told (Kd.R_old (rz HO667) hb) (Kd.R_base ho0)) (Kd.R_base ho1)) (fun _ h_ => h_.1)); replace BK636 := kb BK636 hb; replace HB := bp hb; clear hb ho0 ho1; obtain ⟨Ao44, co44, eo44⟩ := Kd.R_slice HO664.out; subst eo44; obtain ⟨Ao45, co45, eo45⟩ := Kd.R_slice HO667.out; subst eo45; obtain ⟨Ao46, co46, eo46⟩ := Kd.R_slice HO671.out; subst eo46; obtain ⟨Ao47, co47, eo47⟩ := Kd.R_slice HO674.out; subst eo47) | ((with_reducible refine gate_callee (f := 73) rfl ?_); refine zC 66 Try.func73 #[.agg #[.bool t661, .slice Ao44 t662.length co44, .slice Ao45 t665.length co45], .agg #[.bool t668, .slice Ao46 t669.length co46, .slice Ao47 t672.length co47]] ?_; (with_reducible refine (dioramaref10_times.calls k2 t661 _ _ t662 _ _ t665 t668 _ _ t669 _ _ t672 t675 t676 t679 _ ?side1 ?side2 ?side3 ?side4 ?side5 ?side6 ?side7 ?side8 A39.out).mono ?_); (case side1 => exact cr HO664); (case side2 => exact (Kd.R_reads' HO664.out).2.1); (case side3 => exact cr HO667); (case side4 => exact (Kd.R_reads' HO667.out).2.1); (case side5 => exact cr HO671); (case side6 => exact (Kd.R_reads' HO671.out).2.1); (case side7 => exact cr HO674); (case side8 => exact (Kd.R_reads' HO674.out).2.1); rintro e w48 ⟨v677, v680, rfl, ho0, ho1, hb⟩; refine ⟨_, rfl, ?_⟩; replace HO_13 := Aside0.mk (Kd.R_below (rz HO_13) hb); have HO678 := Aside0.mk (Kd.R_lower (Kd.R_new' (Kd.R_new' (Kd.R_new' (Kd.R_new' (Kd.R_new' (Kd.R_new' (Kd.R_new' (Kd.R_new' (Kd.R_new' (Kd.R_new' ho0 (Kd.R_lt (rz HO640))) (Kd.R_lt (rz HO643))) (Kd.R_lt (rz HO647))) (Kd.R_lt (rz HO650))) (Kd.R_lt (rz HO654))) (Kd.R_lt (rz HO657))) (Kd.R_lt (rz HO664))) (Kd.R_lt (rz HO667))) (Kd.R_lt (rz HO671))) (Kd.R_lt (rz HO674))) sz); have HO681 := Aside0.mk (Kd.R_lower (Kd.R_new' (Kd.R_new' (Kd.R_new' (Kd.R_new' (Kd.R_new' (Kd.R_new' (Kd.R_new' (Kd.R_new' (Kd.R_new' (Kd.R_new' ho1 (Kd.R_lt (rz HO640))) (Kd.R_lt (rz HO643))) (Kd.R_lt (rz HO647))) (Kd.R_lt (rz HO650))) (Kd.R_lt (rz HO654))) (Kd.R_lt (rz HO657))) (Kd.R_lt (rz HO664))) (Kd.R_lt (rz HO667))) (Kd.R_lt (rz HO671))) (Kd.R_lt (rz HO674))) sz); replace HO640 := Aside0.mk (Kd.R_mono (Kd.R_told (Kd.R_told (Kd.R_old (rz HO640) hb) (Kd.R_base ho0)) (Kd.R_base ho1)) (fun _ h_ => h_.1)); replace HO643 := Aside0.mk (Kd.R_mono (Kd.R_told (Kd.R_told (Kd.R_old (rz HO643) hb) (Kd.R_base ho0)) (Kd.R_base ho1)) (fun _ h_ => h_.1)); replace HO647 := Aside0.mk (Kd.R_mono (Kd.R_told (Kd.R_told (Kd.R_old (rz HO647) hb) (Kd.R_base ho0)) (Kd.R_base ho1)) (fun _ h_ => h_.1)); replace HO650 := Aside0.mk (Kd.R_mono (Kd.R_told (Kd.R_told (Kd.R_old (rz HO650) hb) (Kd.R_base ho0)) (Kd.R_base ho1)) (fun _ h_ => h_.1)); replace HO654 := Aside0.mk (Kd.R_mono (Kd.R_told (Kd.R_told (Kd.R_old (rz HO654) hb) (Kd.R_base ho0)) (Kd.R_base ho1)) (fun _ h_ => h_.1)); replace HO657 := Aside0.mk (Kd.R_mono (Kd.R_told (Kd.R_told (Kd.R_old (rz HO657) hb) (Kd.R_base ho0)) (Kd.R_base ho1)) (fun _ h_ => h_.1)); replace HO664 := Aside0.mk (Kd.R_mono (Kd.R_told (Kd.R_told (Kd.R_old (rz HO664) hb) (Kd.R_base ho0)) (Kd.R_base ho1)) (fun _ h_ => h_.1)); replace HO667 := Aside0.mk (Kd.R_mono (Kd.R_told (Kd.R_told (Kd.R_old (rz HO667) hb) (Kd.R_base ho0)) (Kd.R_base ho1)) (fun _ h_ => h_.1)); replace HO671 := Aside0.mk (Kd.R_mono (Kd.R_told (Kd.R_told (Kd.R_old (rz HO671) hb) (Kd.R_base ho0)) (Kd.R_base ho1)) (fun _ h_ => h_.1)); replace HO674 := Aside0.mk (Kd.R_mono (Kd.R_told (Kd.R_told (Kd.R_old (rz HO674) hb) (Kd.R_base ho0)) (Kd.R_base ho1)) (fun _ h_ => h_.1)); replace BK636 := kb BK636 hb; replace HB := bp hb; clear hb ho0 ho1; obtain ⟨Ao49, co49, eo49⟩ := Kd.R_slice HO678.out; subst eo49; obtain ⟨Ao50, co50, eo50⟩ := Kd.R_slice HO681.out; subst eo50) | ((with_reducible refine gate_callee (f := 72) rfl ?_); refine zC 67 Try.func72 #[.agg #[.bool t675, .slice Ao49 t676.length co49, .slice Ao50 t679.length co50]] ?_; (with_reducible refine (dioramaref10_whole.calls k2 t675 _ _ t676 _ _ t679 t682 t683 _ ?side1 ?side2 ?side3 ?side4 A40.out).mono ?_); (case side1 => exact cr HO678); (case side2 => exact (Kd.R_reads' HO678.out).2.1); (case side3 => exact cr HO681); (case side4 => exact (Kd.R_reads' HO681.out).2.1); rintro e w51 ⟨rfl, hb⟩; refine ⟨_, rfl, ?_⟩; replace HO_13 := Aside0.mk (Kd.R_below (rz HO_13) hb); replace HO640 := Aside0.mk (Kd.R_below (rz HO640) hb); replace HO643 := Aside0.mk (Kd.R_below (rz HO643) hb); replace HO647 := Aside0.mk (Kd.R_below (rz HO647) hb); replace HO650 := Aside0.mk (Kd.R_below (rz HO650) hb); replace HO654 := Aside0.mk (Kd.R_below (rz HO654) hb); replace HO657 := Aside0.mk (Kd.R_below (rz HO657) hb); replace HO664 := Aside0.mk (Kd.R_below (rz HO664) hb); replace HO667 := Aside0.mk (Kd.R_below (rz HO667) hb); replace HO671 := Aside0.mk (Kd.R_below (rz HO671) hb); replace HO674 := Aside0.mk (Kd.R_below (rz HO674) hb); replace HO678 := Aside0.mk (Kd.R_below (rz HO678) hb); replace HO681 := Aside0.mk (Kd.R_below (rz HO681) hb); replace BK636 := kb BK636 hb; replace HB := bp hb; clear hb; obtain ⟨hcz52_0, hcz52_1, hcz52_2, hcz52_3, hfz52_0, hfz52_1, hfz52_2, hfz52_3⟩ := xc4 BK636))
           go_meet
           case rel => exact ⟨_, (t683), (t682), jz, H', ⟨by have := HJ7.out; have := HK2.out; first | omega | exact Nat.le_refl _⟩, ⟨by (with_reducible repeat (first | apply Kd.R_alloc | apply Kd.R_drewN | apply Kd.R_drew)); exact Kd.R_mono (Kd.R_far (p := ⟨gb636, 1, none⟩) (Kd.R_mono HO_13.out (fun k_ hk => (⟨hk, hk.2⟩ : _ ∧ k_ ≠ gb636))) (fun _ hk => hk.2) (.int .i64 t682)) (fun _ hk => hk.1.2)⟩, ⟨by (with_reducible repeat (first | refine blk_drewN ?_ _ | refine blk_drew ?_ | refine blk_alloc ?_ _)); refine blk_put (cs := #[.int .i64 ((rd_T77 l0 x14_2).f0), .int .i64 ((rd_T77 l0 x14_2).f1), .int .i64 ((rd_T77 l0 x14_2).f2), .int .i64 ((rd_T77 l0 x14_2).f3)]) ?_ 1 _ rfl; (with_reducible repeat (first | refine blk_drewN ?_ _ | refine blk_drew ?_ | refine blk_alloc ?_ _)); exact BK636.out⟩, ⟨bz⟩⟩
         case rest =>
          clear HC21
          try clear c1
          try clear c2
          try clear p2
          try clear c3
          try clear c6
          try clear p6
          try clear q6
          try clear hx6
          try clear c7
          try clear c7b0
          try clear c7b1
          try clear c11
          try clear c13
          try clear c14
          try clear c14b0
          try clear c15
          try clear c15b0
          try clear c25
          try clear c31
          try clear c36
          try clear hcz23_0
          try clear hcz23_1
          try clear hcz23_2
          try clear hcz23_3
          try clear hcz34_0
          try clear hcz34_1
          try clear hcz34_2
          try clear hcz34_3
          try clear hcz41_0
          try clear hcz41_1
          try clear hcz41_2
          try clear hcz41_3
          try clear hcz52_0
          try clear hcz52_1
          try clear hcz52_2
          try clear hcz52_3
          try clear hfz23_0
          try clear hfz23_1
          try clear hfz23_2
          try clear hfz23_3
          try clear hfz34_0
          try clear hfz34_1
          try clear hfz34_2
          try clear hfz34_3
          try clear hfz41_0
          try clear hfz41_1
          try clear hfz41_2
          try clear hfz41_3
          try clear hfz52_0
          try clear hfz52_1
          try clear hfz52_2
          try clear hfz52_3
          try clear hx635_0
          try clear hx635_1
          try clear hx635_2
          try clear hx635_3
          try clear p2
          try clear p635
          try clear q635
          obtain ⟨kq, x19_20, x637001_20, rfl, HA, HJ20, HO_13, BK636, HB⟩ := hcut
          cases kq with
          | zero => exact absurd HA.out (by simp [dioramaref10_Clock.j2])
          | succ kj20 =>
           have H := HA.out; clear HA; simp only [dioramaref10_Clock.j2] at H; have HC53 := Aside0.mk H; clear H; obtain ⟨hcz54_0, hcz54_1, hcz54_2, hcz54_3, hfz54_0, hfz54_1, hfz54_2, hfz54_3⟩ := xc4 BK636
           go_upto_region 17 with (fail)
           go_cut [79] (fun v79 wc => ∃ (kq : Nat) (x79_52 : Bool), v79 = .bool x79_52 ∧ Aside0 (dioramaref10_Clock.j3 kq l0 a1 a2 a3 a4 x13_2 x14_2 t659 x19_20 x79_52 t658 x637001_20 ((rd_T77 l0 x14_2).f2) ((rd_T77 l0 x14_2).f3) = some (r1, r2)) ∧ Aside0 (kq ≤ kj20) ∧ Aside0 (Kd.R k77 77 wc w.heap.size (fun k_ => k_ ≠ gb636) u13 x13_2) ∧ Aside0 (wc.heap[gb636]? = some (.cells #[.int .i64 t658, .int .i64 x637001_20, .int .i64 ((rd_T77 l0 x14_2).f2), .int .i64 ((rd_T77 l0 x14_2).f3)] 77 (0, 0))) ∧ Aside0 (Below w.heap.size w wc))
           case first =>
            have H := HC53.out; clear HC53
            by_cases c55 : t659 = 20
            ·rw [if_pos c55] at H; have c55b0 : (t659 == 20) = true := beq_iff_eq.mpr c55; have c55b1 : (t659 != 20) = false := bne_eq_false_iff_eq.mpr c55; clear c55
             (first | rw [c55b0] | (simp only [i64_w, i32_w]; rw [c55b0]) | skip)
             have H' := Aside0.mk H; clear H
             go_wp2
             go_meet
             case rel => exact ⟨_, (true), jz, H', ⟨by have := HJ7.out; have := HK2.out; have := HJ20.out; first | omega | exact Nat.le_refl _⟩, ⟨by (with_reducible repeat (first | apply Kd.R_alloc | apply Kd.R_drewN | apply Kd.R_drew)); exact Kd.R_mono (Kd.R_far (p := ⟨gb636, 0, none⟩) (Kd.R_mono HO_13.out (fun k_ hk => (⟨hk, hk⟩ : _ ∧ k_ ≠ gb636))) (fun _ hk => hk.2) (.int .i64 t658)) (fun _ hk => hk.1)⟩, ⟨by (with_reducible repeat (first | refine blk_drewN ?_ _ | refine blk_drew ?_ | refine blk_alloc ?_ _)); refine blk_put (cs := #[.int .i64 ((rd_T77 l0 x14_2).f0), .int .i64 x637001_20, .int .i64 ((rd_T77 l0 x14_2).f2), .int .i64 ((rd_T77 l0 x14_2).f3)]) ?_ 0 _ rfl; (with_reducible repeat (first | refine blk_drewN ?_ _ | refine blk_drew ?_ | refine blk_alloc ?_ _)); exact BK636.out⟩, ⟨bz⟩⟩
            ·rw [if_neg c55] at H; have c55b0 : (t659 == 20) = false := beq_eq_false_iff_ne.mpr c55; have c55b1 : (t659 != 20) = true := bne_iff_ne.mpr c55
             (first | rw [c55b0] | (simp only [i64_w, i32_w]; rw [c55b0]) | skip)
             have H' := Aside0.mk H; clear H
             go_wp2
             go_meet
             case rel => exact ⟨_, ((x19_20 == 20)), jz, H', ⟨by have := HJ7.out; have := HK2.out; have := HJ20.out; first | omega | exact Nat.le_refl _⟩, ⟨by (with_reducible repeat (first | apply Kd.R_alloc | apply Kd.R_drewN | apply Kd.R_drew)); exact Kd.R_mono (Kd.R_far (p := ⟨gb636, 0, none⟩) (Kd.R_mono HO_13.out (fun k_ hk => (⟨hk, hk⟩ : _ ∧ k_ ≠ gb636))) (fun _ hk => hk.2) (.int .i64 t658)) (fun _ hk => hk.1)⟩, ⟨by (with_reducible repeat (first | refine blk_drewN ?_ _ | refine blk_drew ?_ | refine blk_alloc ?_ _)); refine blk_put (cs := #[.int .i64 ((rd_T77 l0 x14_2).f0), .int .i64 x637001_20, .int .i64 ((rd_T77 l0 x14_2).f2), .int .i64 ((rd_T77 l0 x14_2).f3)]) ?_ 0 _ rfl; (with_reducible repeat (first | refine blk_drewN ?_ _ | refine blk_drew ?_ | refine blk_alloc ?_ _)); exact BK636.out⟩, ⟨bz⟩⟩
           case rest =>
            clear HC53
            try clear c1
            try clear c2
            try clear p2
            try clear c3
            try clear c5
            try clear c6
            try clear p6
            try clear q6
            try clear hx6
            try clear c7
            try clear c7b0
            try clear c7b1
            try clear c11
            try clear c13
            try clear c14
            try clear c14b0
            try clear c15
            try clear c15b0
            try clear c25
            try clear c31
            try clear c36
            try clear c55
            try clear c55b0
            try clear c55b1
            try clear hcz23_0
            try clear hcz23_1
            try clear hcz23_2
            try clear hcz23_3
            try clear hcz34_0
            try clear hcz34_1
            try clear hcz34_2
            try clear hcz34_3
            try clear hcz41_0
            try clear hcz41_1
            try clear hcz41_2
            try clear hcz41_3
            try clear hcz52_0
            try clear hcz52_1
            try clear hcz52_2
            try clear hcz52_3
            try clear hcz54_0
            try clear hcz54_1
            try clear hcz54_2
            try clear hcz54_3
            try clear hfz23_0
            try clear hfz23_1
            try clear hfz23_2
            try clear hfz23_3
            try clear hfz34_0
            try clear hfz34_1
            try clear hfz34_2
            try clear hfz34_3
            try clear hfz41_0
            try clear hfz41_1
            try clear hfz41_2
            try clear hfz41_3
            try clear hfz52_0
            try clear hfz52_1
            try clear hfz52_2
            try clear hfz52_3
            try clear hfz54_0
            try clear hfz54_1
            try clear hfz54_2
            try clear hfz54_3
            try clear hx635_0
            try clear hx635_1
            try clear hx635_2
            try clear hx635_3
            try clear p2
            try clear p6
            try clear p635
            try clear q6
            try clear q635
            obtain ⟨kq, x79_52, rfl, HA, HJ52, HO_13, BK636, HB⟩ := hcut
            cases kq with
            | zero => exact absurd HA.out (by simp [dioramaref10_Clock.j3])
            | succ kj52 =>
             have H := HA.out; clear HA; simp only [dioramaref10_Clock.j3] at H
             by_cases c56 : x79_52 = true
             ·subst c56; rw [if_pos rfl] at H; simp only [Option.some.injEq, Prod.mk.injEq] at H; obtain ⟨rfl, rfl⟩ := H
              go_wp2
              go_ret2
              exact ⟨_, ez, by first | exact Kd.R_nil _ _ _ _ _ | exact Kd.N_nil _ _ _ _ _ | exact Kd.V_nil _ _ _ _ _ | exact Kd.Q_nil _ _ _ _ _ | exact Kd.S_nil _ _ _ _ _, bz⟩
             ·obtain rfl := bf c56; rw [if_neg (show ¬ (false = true) by decide)] at H
              by_cases c57 : t659 = 0
              ·rw [if_pos c57] at H; have c57b0 : (t659 == 0) = true := beq_iff_eq.mpr c57; have c57b1 : (t659 != 0) = false := bne_eq_false_iff_eq.mpr c57; clear c57
               by_cases c58 : x19_20 = 0
               ·rw [if_pos c58] at H; have c58b0 : (x19_20 == 0) = true := beq_iff_eq.mpr c58; have c58b1 : (x19_20 != 0) = false := bne_eq_false_iff_eq.mpr c58; clear c58
                by_cases c59 : x13_2.length < 4398046511104
                ·rw [if_pos c59] at H; have LMc59 := Aside0.mk c59; clear c59; obtain ⟨y684, hy684⟩ : ∃ y_ : List (S77), y_ = (x13_2 ++ [(⟨t658, x637001_20, ((rd_T77 l0 x14_2).f2), ((rd_T77 l0 x14_2).f3)⟩ : S77)]) := ⟨_, rfl⟩; replace H : (dioramaref10_Clock.l0 kj52 l0 a1 a2 a3 a4 y684 (wrap64 (x14_2 + 1))) = some (r1, r2) := by first | (rw [hy684]; with_reducible exact H) | (have H2_ := (Option.bind_some _ _).symm.trans H; rw [hy684]; with_reducible exact H2_) | (have H2_ := (Option.bind_some _ _).symm.trans H; with_reducible exact H2_) | with_reducible exact H | (rw [hy684]; exact H) | exact H
                 have Ny684 := Aside0.mk hy684; clear hy684; have H' := Aside0.mk H; clear H; obtain ⟨hcz60_0, hcz60_1, hcz60_2, hcz60_3, hfz60_0, hfz60_1, hfz60_2, hfz60_3⟩ := xc4 BK636
                 go_wp2_with (first | ((with_reducible refine gate_builtin (b := .append) (xs := #[.tmp 86, .tmp 88]) rfl ?_); at_builtin; refine Kd.R_append k77 (w0 := w) w.heap.size rfl (.tmp 86) (.tmp 88) 22 77 (.agg #[(.int .i64 0), (.int .i64 0), (.int .i64 0), (.int .i64 0)]) 32 rfl Try.underlying22 info77 rfl (by decide) (by omega) u13 x13_2 (⟨t658, x637001_20, ((rd_T77 l0 x14_2).f2), ((rd_T77 l0 x14_2).f3)⟩ : S77) [.int .i64 t658, .int .i64 x637001_20, .int .i64 ((rd_T77 l0 x14_2).f2), .int .i64 ((rd_T77 l0 x14_2).f3)] (fun k_ => k_ ≠ gb636) (fun _ => False) rfl rfl ?aP (fun _ hk => hk.elim) ?aF ?aO ?aB ?aS ?aL ?_; (case aP => exact k77_mkM _ _ _ (⟨t658, x637001_20, ((rd_T77 l0 x14_2).f2), ((rd_T77 l0 x14_2).f3)⟩ : S77)); (case aB => exact bz); (case aF => exact (fun k_ hk => Kd.freshB (g := gb636) (o := .cells #[.int .i64 t658, .int .i64 x637001_20, .int .i64 ((rd_T77 l0 x14_2).f2), .int .i64 ((rd_T77 l0 x14_2).f3)] 77 (0, 0)) kz k_ hk)); (case aO => exact (rz HO_13)); (case aS => exact sz); (case aL => have := LMc59.out; omega); intro v685 w61 ho hb hg hat; rw [← Ny684.out] at ho; replace BK636 := Aside0.mk (blk_grown (g := gb636) (o := .cells #[.int .i64 t658, .int .i64 x637001_20, .int .i64 ((rd_T77 l0 x14_2).f2), .int .i64 ((rd_T77 l0 x14_2).f3)] 77 (0, 0)) kz hg (Kd.R_away HO_13.out (fun _ hk => hk))); replace HB := Aside0.mk (hb); have HO686 := Aside0.mk (ho); clear HO_13; clear ho hb hg hat))
                 go_roundg kj52
                 case measure => have := HJ7.out; have := HK2.out; have := HJ20.out; have := HJ52.out; omega
                 case rel => exact ⟨(y684), (wrap64 (x14_2 + 1)), jz, H', ⟨by have := HJ7.out; have := HK2.out; have := HJ20.out; have := HJ52.out; omega⟩, ⟨by (with_reducible repeat (first | apply Kd.R_alloc | apply Kd.R_drewN | apply Kd.R_drew)); exact Kd.R_mono HO686.out (fun _ hk => trivial)⟩, ⟨bz⟩⟩
                ·rw [if_neg c59] at H
                 exact absurd H (by simp)
               ·rw [if_neg c58] at H; have c58b0 : (x19_20 == 0) = false := beq_eq_false_iff_ne.mpr c58; have c58b1 : (x19_20 != 0) = true := bne_iff_ne.mpr c58; simp only [Option.some.injEq, Prod.mk.injEq] at H; obtain ⟨rfl, rfl⟩ := H
                go_wp2
                go_ret2
                exact ⟨_, ez, by first | exact Kd.R_nil _ _ _ _ _ | exact Kd.N_nil _ _ _ _ _ | exact Kd.V_nil _ _ _ _ _ | exact Kd.Q_nil _ _ _ _ _ | exact Kd.S_nil _ _ _ _ _, bz⟩
              ·rw [if_neg c57] at H; have c57b0 : (t659 == 0) = false := beq_eq_false_iff_ne.mpr c57; have c57b1 : (t659 != 0) = true := bne_iff_ne.mpr c57; simp only [Option.some.injEq, Prod.mk.injEq] at H; obtain ⟨rfl, rfl⟩ := H
               go_wp2
               go_ret2
               exact ⟨_, ez, by first | exact Kd.R_nil _ _ _ _ _ | exact Kd.N_nil _ _ _ _ _ | exact Kd.V_nil _ _ _ _ _ | exact Kd.Q_nil _ _ _ _ _ | exact Kd.S_nil _ _ _ _ _, bz⟩
        ·rw [if_neg c15] at H
         exact absurd H (by simp)
       ·rw [if_neg c14] at H; have c14b0 : decide (x14_2 < (l0.length : Int)) = false := decide_eq_false c14; clear c14; obtain ⟨⟨t631, t632⟩, A62, H⟩ := ob H
        (try dsimp only at H)
        simp only [Option.some.injEq, Prod.mk.injEq] at H; obtain ⟨rfl, rfl⟩ := H; obtain ⟨Ao63, co63, eo63⟩ := Kd.R_slice HO_13.out; subst eo63
        go_wp2_with (first | ((with_reducible refine gate_callee (f := 58) rfl ?_); refine zC 93 Try.func58 #[.slice Ao63 x13_2.length co63, .int .i64 a3, .int .i64 a4] ?_; (with_reducible refine (dioramaref10_told.calls k2 _ _ x13_2 a3 a4 t631 t632 _ ?side1 ?side2 A62.out).mono ?_); (case side1 => exact cr HO_13); (case side2 => exact (Kd.R_reads' HO_13.out).2.1); rintro e w64 ⟨v633, rfl, ho0, hb⟩; refine ⟨_, rfl, ?_⟩; have HO634 := Aside0.mk (Kd.R_lower (Kd.R_new' ho0 (Kd.R_lt (rz HO_13))) sz); replace HO_13 := Aside0.mk (Kd.R_elder' (rz HO_13) (Kd.R_base ho0) hb); replace HB := bp hb; clear hb ho0))
        go_ret2
        exact ⟨_, ez, by (with_reducible repeat (first | apply Kd.R_alloc | apply Kd.R_drewN | apply Kd.R_drew)); exact Kd.R_mono HO634.out (fun _ hk => trivial), bz⟩
 ·rw [if_neg c7] at H; have c7b0 : (t628 == 0) = false := beq_eq_false_iff_ne.mpr c7; have c7b1 : (t628 != 0) = true := bne_iff_ne.mpr c7; simp only [Option.some.injEq, Prod.mk.injEq] at H; obtain ⟨rfl, rfl⟩ := H
  go_enter Try.func31, Try.ntmps31
  go_wp2_with (first | ((with_reducible refine gate_callee (f := 25) rfl ?_); refine zC 23 Try.func25 #[.slice A0 l0.length c0, .int .i64 a1, .int .i64 a2] ?_; (with_reducible refine (dioramaref10_Check.calls k _ _ l0 a1 a2 t628 _ ?side1 ?side2 A6.out).mono ?_); (case side1 => repeat (first | exact HR0.out | (with_reducible refine Kd.C_alloc ?_ _) | (with_reducible refine Kd.C_drewN ?_ _) | (with_reducible refine Kd.C_drew ?_))); (case side2 => exact HC0.out); rintro e w65 ⟨rfl, hb⟩; refine ⟨_, rfl, ?_⟩; replace HB := bp hb; clear hb))
  go_ret2
  exact ⟨_, ez, by first | exact Kd.R_nil _ _ _ _ _ | exact Kd.N_nil _ _ _ _ _ | exact Kd.V_nil _ _ _ _ _ | exact Kd.Q_nil _ _ _ _ _ | exact Kd.S_nil _ _ _ _ _, bz⟩
def dioramalaw10_EditClocks.f (k : Nat) (l0_0 : List (S77)) (a0_1 : Int) (a0_2 : Int) (a1 : Int) (a2 : Int) : Option (Bool) := (dioramalaw10_many.f l0_0).bind fun t688 => (if t688 = true then ((dioramalaw10_awake.f k).bind fun t689 => (some t689)) else ((edit_Clock.f k l0_0 a0_1 a0_2 a1 a2).bind fun bt690 => ((dioramaref10_Clock.f k l0_0 a0_1 a0_2 a1 a2).bind fun bt694 => ((dioramalaw10_eq.f k bt690.1 bt690.2 bt694.1 bt694.2).bind fun t698 => (if t698 = true then ((dioramalaw10_awake.f k).bind fun t699 => (some t699)) else (some false))))))
set_option maxHeartbeats 8000000 in
set_option maxRecDepth 100000 in
theorem dioramalaw10_EditClocks.calls (k : Nat) (A0_0 : Option Addr) (c0_0 : Nat) (l0_0 : List (S77)) (a0_1 : Int) (a0_2 : Int) (a1 : Int) (a2 : Int) (r : Bool) (w : World) (hr0_0 : Kd.C k77 w A0_0 l0_0.length l0_0) (hc0_0 : l0_0.length ≤ c0_0) (h : dioramalaw10_EditClocks.f k l0_0 a0_1 a0_2 a1 a2 = some r) :
  Calls Try.prog 5 #[.agg #[.slice A0_0 l0_0.length c0_0, .int .i64 a0_1, .int .i64 a0_2], .int .i64 a1, .int .i64 a2] w fun e w' => e = .returned (.bool r) ∧ Below w.heap.size w w' := by
 have hu24 := Try.underlying24; have HR0_0 := Aside0.mk hr0_0; have HC0_0 := Aside0.mk hc0_0; clear hr0_0 hc0_0; have HB := Aside0.mk (Below.refl w.heap.size w); have H : ((dioramalaw10_many.f l0_0).bind fun t688 => (if t688 = true then ((dioramalaw10_awake.f k).bind fun t689 => (some t689)) else ((edit_Clock.f k l0_0 a0_1 a0_2 a1 a2).bind fun bt690 => ((dioramaref10_Clock.f k l0_0 a0_1 a0_2 a1 a2).bind fun bt694 => ((dioramalaw10_eq.f k bt690.1 bt690.2 bt694.1 bt694.2).bind fun t698 => (if t698 = true then ((dioramalaw10_awake.f k).bind fun t699 => (some t699)) else (some false))))))) = some r := h
 clear h; obtain ⟨t688, A4, H⟩ := ob H
 by_cases c5 : t688 = true
 ·subst c5; rw [if_pos rfl] at H; obtain ⟨t689, A6, H⟩ := ob H; obtain rfl := Option.some.inj H
  go_enter Try.func5, Try.ntmps5
  go_wp2_with (first | ((with_reducible refine gate_dst (N := 3) rfl ?_); refine zB 3 24 #[.slice A0_0 l0_0.length c0_0, .int .i64 a0_1, .int .i64 a0_2] ?_; intro gb687 hg w7 hbox hb; have BK687 := Aside0.mk hbox; have GW687 := gz hg; have GE687 := gz hg; replace HB := bp hb; clear hb hbox hg; obtain ⟨hcz8_0, hcz8_1, hcz8_2, hfz8_0, hfz8_1, hfz8_2⟩ := xc3 BK687) | ((with_reducible refine gate_callee (f := 19) rfl ?_); refine zC 13 Try.func19 #[.slice A0_0 l0_0.length c0_0] ?_; (with_reducible refine (dioramalaw10_many.calls _ _ l0_0 true _ ?side1 ?side2 A4.out).mono ?_); (case side1 => exact cz HR0_0); (case side2 => exact HC0_0.out); rintro e w' ⟨rfl, ⟨nd, rfl⟩⟩; refine ⟨_, rfl, ?_⟩) | ((with_reducible refine gate_callee (f := 20) rfl ?_); refine zC 14 Try.func20 #[] ?_; (with_reducible refine (dioramalaw10_awake.calls k  t689 _ A6.out).mono ?_); rintro e w9 ⟨rfl, hb⟩; refine ⟨_, rfl, ?_⟩; replace BK687 := kb BK687 hb; replace HB := bp hb; clear hb))
  go_ret
  exact ⟨ez, bz⟩
 ·obtain rfl := bf c5; rw [if_neg (show ¬ (false = true) by decide)] at H; obtain ⟨⟨t690, t691⟩, A10, H⟩ := ob H
  (try dsimp only at H)
  obtain ⟨⟨t694, t695⟩, A11, H⟩ := ob H
  (try dsimp only at H)
  obtain ⟨t698, A12, H⟩ := ob H
  by_cases c13 : t698 = true
  ·subst c13; rw [if_pos rfl] at H; obtain ⟨t699, A14, H⟩ := ob H; obtain rfl := Option.some.inj H
   go_enter Try.func5, Try.ntmps5
   go_wp2_with (first | ((with_reducible refine gate_dst (N := 3) rfl ?_); refine zB 3 24 #[.slice A0_0 l0_0.length c0_0, .int .i64 a0_1, .int .i64 a0_2] ?_; intro gb687 hg w15 hbox hb; have BK687 := Aside0.mk hbox; have GW687 := gz hg; have GE687 := gz hg; replace HB := bp hb; clear hb hbox hg; obtain ⟨hcz16_0, hcz16_1, hcz16_2, hfz16_0, hfz16_1, hfz16_2⟩ := xc3 BK687) | ((with_reducible refine gate_callee (f := 19) rfl ?_); refine zC 13 Try.func19 #[.slice A0_0 l0_0.length c0_0] ?_; (with_reducible refine (dioramalaw10_many.calls _ _ l0_0 false _ ?side1 ?side2 A4.out).mono ?_); (case side1 => exact cz HR0_0); (case side2 => exact HC0_0.out); rintro e w' ⟨rfl, ⟨nd, rfl⟩⟩; refine ⟨_, rfl, ?_⟩) | ((with_reducible refine gate_callee (f := 30) rfl ?_); refine zC 24 Try.func30 #[.slice A0_0 l0_0.length c0_0, .int .i64 a0_1, .int .i64 a0_2, .int .i64 a1, .int .i64 a2] ?_; (with_reducible refine (edit_Clock.calls k _ _ l0_0 a0_1 a0_2 a1 a2 t690 t691 _ ?side1 ?side2 A10.out).mono ?_); (case side1 => repeat (first | exact (Kd.C_below HR0_0.out bz) | (with_reducible refine Kd.C_alloc ?_ _) | (with_reducible refine Kd.C_drewN ?_ _) | (with_reducible refine Kd.C_drew ?_))); (case side2 => exact HC0_0.out); rintro e w17 ⟨v692, rfl, ho0, hb⟩; refine ⟨_, rfl, ?_⟩; have HO693 := Aside0.mk (Kd.R_lower ho0 sz); replace BK687 := kb BK687 hb; replace HB := bp hb; clear hb ho0; obtain ⟨hcz18_0, hcz18_1, hcz18_2, hfz18_0, hfz18_1, hfz18_2⟩ := xc3 BK687) | ((with_reducible refine gate_callee (f := 31) rfl ?_); refine zC 36 Try.func31 #[.slice A0_0 l0_0.length c0_0, .int .i64 a0_1, .int .i64 a0_2, .int .i64 a1, .int .i64 a2] ?_; (with_reducible refine (dioramaref10_Clock.calls k _ _ l0_0 a0_1 a0_2 a1 a2 t694 t695 _ ?side1 ?side2 A11.out).mono ?_); (case side1 => exact cz HR0_0); (case side2 => exact HC0_0.out); rintro e w19 ⟨v696, rfl, ho0, hb⟩; refine ⟨_, rfl, ?_⟩; have HO697 := Aside0.mk (Kd.R_lower (Kd.R_new' ho0 (Kd.R_lt (rz HO693))) sz); replace HO693 := Aside0.mk (Kd.R_elder' (rz HO693) (Kd.R_base ho0) hb); replace BK687 := kb BK687 hb; replace HB := bp hb; clear hb ho0; obtain ⟨Ao20, co20, eo20⟩ := Kd.R_slice HO693.out; subst eo20; obtain ⟨Ao21, co21, eo21⟩ := Kd.R_slice HO697.out; subst eo21) | ((with_reducible refine gate_callee (f := 23) rfl ?_); refine zC 43 Try.func23 #[.slice Ao20 t690.length co20, .int .i64 t691, .slice Ao21 t694.length co21, .int .i64 t695] ?_; (with_reducible refine (dioramalaw10_eq.calls k _ _ t690 t691 _ _ t694 t695 true _ ?side1 ?side2 ?side3 ?side4 A12.out).mono ?_); (case side1 => exact cr HO693); (case side2 => exact (Kd.R_reads' HO693.out).2.1); (case side3 => exact cr HO697); (case side4 => exact (Kd.R_reads' HO697.out).2.1); rintro e w' ⟨rfl, ⟨nd, rfl⟩⟩; refine ⟨_, rfl, ?_⟩) | (go_at_call 20; (with_reducible refine (dioramalaw10_awake.calls k  t699 _ A14.out).mono ?_); rintro e w22 ⟨rfl, hb⟩; replace HO693 := Aside0.mk (Kd.R_below (rz HO693) hb); replace HO697 := Aside0.mk (Kd.R_below (rz HO697) hb); replace BK687 := kb BK687 hb; replace HB := bp hb; clear hb))
   go_ret
   exact ⟨ez, bz⟩
  ·obtain rfl := bf c13; rw [if_neg (show ¬ (false = true) by decide)] at H; obtain rfl := Option.some.inj H
   go_enter Try.func5, Try.ntmps5
   go_wp2_with (first | ((with_reducible refine gate_dst (N := 3) rfl ?_); refine zB 3 24 #[.slice A0_0 l0_0.length c0_0, .int .i64 a0_1, .int .i64 a0_2] ?_; intro gb687 hg w23 hbox hb; have BK687 := Aside0.mk hbox; have GW687 := gz hg; have GE687 := gz hg; replace HB := bp hb; clear hb hbox hg; obtain ⟨hcz24_0, hcz24_1, hcz24_2, hfz24_0, hfz24_1, hfz24_2⟩ := xc3 BK687) | ((with_reducible refine gate_callee (f := 19) rfl ?_); refine zC 13 Try.func19 #[.slice A0_0 l0_0.length c0_0] ?_; (with_reducible refine (dioramalaw10_many.calls _ _ l0_0 false _ ?side1 ?side2 A4.out).mono ?_); (case side1 => exact cz HR0_0); (case side2 => exact HC0_0.out); rintro e w' ⟨rfl, ⟨nd, rfl⟩⟩; refine ⟨_, rfl, ?_⟩) | ((with_reducible refine gate_callee (f := 30) rfl ?_); refine zC 24 Try.func30 #[.slice A0_0 l0_0.length c0_0, .int .i64 a0_1, .int .i64 a0_2, .int .i64 a1, .int .i64 a2] ?_; (with_reducible refine (edit_Clock.calls k _ _ l0_0 a0_1 a0_2 a1 a2 t690 t691 _ ?side1 ?side2 A10.out).mono ?_); (case side1 => repeat (first | exact (Kd.C_below HR0_0.out bz) | (with_reducible refine Kd.C_alloc ?_ _) | (with_reducible refine Kd.C_drewN ?_ _) | (with_reducible refine Kd.C_drew ?_))); (case side2 => exact HC0_0.out); rintro e w25 ⟨v692, rfl, ho0, hb⟩; refine ⟨_, rfl, ?_⟩; have HO693 := Aside0.mk (Kd.R_lower ho0 sz); replace BK687 := kb BK687 hb; replace HB := bp hb; clear hb ho0; obtain ⟨hcz26_0, hcz26_1, hcz26_2, hfz26_0, hfz26_1, hfz26_2⟩ := xc3 BK687) | ((with_reducible refine gate_callee (f := 31) rfl ?_); refine zC 36 Try.func31 #[.slice A0_0 l0_0.length c0_0, .int .i64 a0_1, .int .i64 a0_2, .int .i64 a1, .int .i64 a2] ?_; (with_reducible refine (dioramaref10_Clock.calls k _ _ l0_0 a0_1 a0_2 a1 a2 t694 t695 _ ?side1 ?side2 A11.out).mono ?_); (case side1 => exact cz HR0_0); (case side2 => exact HC0_0.out); rintro e w27 ⟨v696, rfl, ho0, hb⟩; refine ⟨_, rfl, ?_⟩; have HO697 := Aside0.mk (Kd.R_lower (Kd.R_new' ho0 (Kd.R_lt (rz HO693))) sz); replace HO693 := Aside0.mk (Kd.R_elder' (rz HO693) (Kd.R_base ho0) hb); replace BK687 := kb BK687 hb; replace HB := bp hb; clear hb ho0; obtain ⟨Ao28, co28, eo28⟩ := Kd.R_slice HO693.out; subst eo28; obtain ⟨Ao29, co29, eo29⟩ := Kd.R_slice HO697.out; subst eo29) | ((with_reducible refine gate_callee (f := 23) rfl ?_); refine zC 43 Try.func23 #[.slice Ao28 t690.length co28, .int .i64 t691, .slice Ao29 t694.length co29, .int .i64 t695] ?_; (with_reducible refine (dioramalaw10_eq.calls k _ _ t690 t691 _ _ t694 t695 false _ ?side1 ?side2 ?side3 ?side4 A12.out).mono ?_); (case side1 => exact cr HO693); (case side2 => exact (Kd.R_reads' HO693.out).2.1); (case side3 => exact cr HO697); (case side4 => exact (Kd.R_reads' HO697.out).2.1); rintro e w' ⟨rfl, ⟨nd, rfl⟩⟩; refine ⟨_, rfl, ?_⟩))
   go_ret
   exact ⟨ez, bz⟩
end Go.Proofs.Ytpbhepdgamoiaaa.E
namespace Go.Proofs.Ytpbhepdgamoiaaa.Pa
open Go.RowKit Go.Proofs.Ytpbhepdgamoiaaa.P Go.Proofs.Ytpbhepdgamoiaaa.E Go.Proofs.YtpbhepdgamoiaaaW.PrintWords Go.Proofs.YtpbhepdgamoiaaaW.PrintLast Go.Proofs.Ytpbhepdgamoiaaa.Ml Go.Proofs.Ytpbhepdgamoiaaa.Mn
set_option linter.unusedVariables false
set_option linter.unusedSimpArgs false
abbrev Bd : Int := 1000000000
abbrev Nn (l : List Int) : Prop := Cn 1000000000 l
theorem top_cons {x : Int} {l : List Int} (h : Top l) (hx : l = [] → x ≠ 0) : Top (x :: l) := by
 intro hne
 cases l with
 | nil => simpa using hx rfl
 | cons y t =>
  rw [List.getLast_cons (by simp)]
  exact h (by simp)
theorem digit_f (l : List Int) (i : Nat) : dioramaref02_digit.f l (i : Int) = some (l.getD i 0) := by
 unfold dioramaref02_digit.f
 by_cases h : i < l.length
 ·rw [if_pos (by omega), if_pos (by omega), rd_nat]
 ·rw [if_neg (by omega), getD_ge (by omega)]
theorem tmodB {x : Int} (h : 0 ≤ x) : Int.tmod x 1000000000 = x % 1000000000 := Int.tmod_eq_emod_of_nonneg h
theorem tdivB {x : Int} (h : 0 ≤ x) : Int.tdiv x 1000000000 = x / 1000000000 := Int.tdiv_eq_ediv_of_nonneg h
theorem of_l (m : Nat) : ∀ (x : Int) (acc : List Int), 0 ≤ x → x < pw 1000000000 m → x ≤ 9223372036854775807 → acc.length + m ≤ 1000 → ∃ r, Ev (fun k => dioramaref02_Of.l0 k x acc) (acc ++ r) ∧ Nn r ∧ dv 1000000000 r = x ∧ r.length ≤ m := by
 induction m with
 | zero =>
  intro x acc h0 h1 _ _
  have hx : x = 0 := by simp [pw] at h1; omega
  subst hx
  exact ⟨[], Ev.step (f := fun _ => some (acc ++ [])) (fun k => by simp [dioramaref02_Of.l0]) (Ev.now _), Cn.nil _, rfl, Nat.le_refl _⟩
 | succ m ih =>
  intro x acc h0 h1 h2 hl
  by_cases hx : x = 0
  ·subst hx
   exact ⟨[], Ev.step (f := fun _ => some (acc ++ [])) (fun k => by simp [dioramaref02_Of.l0]) (Ev.now _), Cn.nil _, rfl, Nat.zero_le _⟩
  ·have hd : x / 1000000000 < pw 1000000000 m := by
    rw [pw_succ] at h1
    omega
   obtain ⟨r, he, hc, hv, hr⟩ := ih (x / 1000000000) (acc ++ [x % 1000000000]) (by omega) hd (by omega) (by simp; omega)
   refine ⟨x % 1000000000 :: r, ?_, ⟨Dg.cons (by omega) (by omega) hc.dg, top_cons hc.top (fun h => ?_)⟩, ?_, by simp; omega⟩
   ·rw [List.append_assoc, List.singleton_append] at he
    refine Ev.step (fun k => ?_) he
    simp only [dioramaref02_Of.l0]
    rw [if_pos (by omega), if_pos (by omega), tdivB h0, tmodB h0, w64 (by omega) (by omega)]
   ·subst h
    simp only [dv] at hv
    omega
   ·simp only [dv] at hv ⊢
    rw [hv]
    omega
theorem of_f (x : Int) (h0 : 0 ≤ x) (h1 : x ≤ 9223372036854775807) : ∃ r, Ev (fun k => dioramaref02_Of.f k x) r ∧ Nn r ∧ dv 1000000000 r = x ∧ r.length ≤ 3 := by
 obtain ⟨r, he, h⟩ := of_l 3 x [] h0 (by simp [pw]; omega) h1 (by simp)
 exact ⟨r, he, h⟩
theorem trimmed_l (l : List Int) (hd : Dg 1000000000 l) (hl : l.length ≤ 1000000) : ∀ n : Nat, n ≤ l.length → dv 1000000000 (l.take n) = dv 1000000000 l → ∃ r, Ev (fun k => dioramaref02_trimmed.l0 k l (n : Int)) r ∧ Nn r ∧ dv 1000000000 r = dv 1000000000 l ∧ r.length ≤ n := by
 intro n
 induction n with
 | zero =>
  intro _ hv
  refine ⟨[], Ev.step (f := fun _ => some []) (fun k => ?_) (Ev.now _), Cn.nil _, by rw [← hv]; rfl, Nat.le_refl _⟩
  simp [dioramaref02_trimmed.l0]
 | succ n ih =>
  intro hn hv
  have hw : wrap64 (((n + 1 : Nat) : Int) - 1) = (n : Int) := by rw [w64 (by omega) (by omega)]; omega
  by_cases hz : l.getD n 0 = 0
  ·obtain ⟨r, he, hc, hr, hlr⟩ := ih (by omega) (by rw [← hv] ; rw [dv_take_succ', hz]; omega)
   refine ⟨r, Ev.step (fun k => ?_) he, hc, hr, by omega⟩
   simp only [dioramaref02_trimmed.l0, hw, rd_nat]
   rw [if_pos (by omega), if_pos (by omega), if_pos (by omega), if_pos hz]
  ·refine ⟨l.take (n + 1), Ev.step (f := fun _ => some (l.take (n + 1))) (fun k => ?_) (Ev.now _), ⟨hd.take _, top_of_getD ?_⟩, hv, by simp; omega⟩
   ·simp only [dioramaref02_trimmed.l0, hw, rd_nat]
    rw [if_pos (by omega), if_pos (by omega), if_pos (by omega), if_neg hz, if_pos (by omega), if_pos (by omega), Int.toNat_natCast]
   ·rw [List.length_take, Nat.min_eq_left (by omega)]
    simp only [Nat.add_sub_cancel]
    rw [List.getD_eq_getElem?_getD, List.getElem?_take_of_lt (by omega), ← List.getD_eq_getElem?_getD]
    exact hz
theorem trimmed_f (l : List Int) (hd : Dg 1000000000 l) (hl : l.length ≤ 1000000) : ∃ r, Ev (fun k => dioramaref02_trimmed.f k l) r ∧ Nn r ∧ dv 1000000000 r = dv 1000000000 l ∧ r.length ≤ l.length :=
 trimmed_l l hd hl l.length (Nat.le_refl _) (by rw [List.take_length])
theorem cmp1 {x y : Int} (h : x < y) : Nd.cmpI x y = -1 := by unfold Nd.cmpI; rw [if_pos h]
theorem cmp2 {x y : Int} (h : y < x) : Nd.cmpI x y = 1 := by unfold Nd.cmpI; rw [if_neg (by omega), if_pos h]
theorem cmp0 {x y : Int} (h : x = y) : Nd.cmpI x y = 0 := by unfold Nd.cmpI; rw [if_neg (by omega), if_neg (by omega)]
theorem compare_l (a b : List Int) (ha : Dg 1000000000 a) (hb : Dg 1000000000 b) (hl : a.length = b.length) (hn : a.length ≤ 1000000) : ∀ i : Nat, i ≤ a.length → dv 1000000000 (a.drop i) = dv 1000000000 (b.drop i) →
  Ev (fun k => dioramaref02_Compare.l0 k a b ((i : Int) - 1)) (Nd.cmpI (dv 1000000000 a) (dv 1000000000 b)) := by
 intro i
 induction i with
 | zero =>
  intro _ h
  refine Ev.step (f := fun _ => some 0) (fun k => ?_) (by rw [cmp0 (by simpa using h)]; exact Ev.now _)
  simp [dioramaref02_Compare.l0]
 | succ i ih =>
  intro hi h
  have e : (((i + 1 : Nat) : Int) - 1) = (i : Int) := by omega
  have hw : wrap64 ((i : Int) - 1) = (i : Int) - 1 := w64 (by omega) (by omega)
  rw [e]
  rcases Int.lt_trichotomy (a.getD i 0) (b.getD i 0) with h1 | h1 | h1
  ·rw [cmp1 (dv_less (by decide) ha hb hl i (by omega) h h1)]
   refine Ev.step (f := fun _ => some (-1)) (fun k => ?_) (Ev.now _)
   simp only [dioramaref02_Compare.l0, rd_nat]
   rw [if_pos (by omega), if_pos (by omega), if_pos (by omega), if_pos (by omega), if_pos h1]
  ·refine Ev.step (fun k => ?_) (ih (by omega) (by rw [dv_drop _ a i (by omega), dv_drop _ b i (by omega), h1, h]))
   simp only [dioramaref02_Compare.l0, rd_nat, hw]
   rw [if_pos (by omega), if_pos (by omega), if_pos (by omega), if_pos (by omega), if_neg (by omega), if_neg (by omega)]
  ·rw [cmp2 (dv_less (by decide) hb ha hl.symm i (by omega) h.symm h1)]
   refine Ev.step (f := fun _ => some 1) (fun k => ?_) (Ev.now _)
   simp only [dioramaref02_Compare.l0, rd_nat]
   rw [if_pos (by omega), if_pos (by omega), if_pos (by omega), if_pos (by omega), if_neg (by omega), if_pos h1]
theorem compare_f (a b : List Int) (ha : Nn a) (hb : Nn b) (hn : a.length ≤ 1000000) (hm : b.length ≤ 1000000) : Ev (fun k => dioramaref02_Compare.f k a b) (Nd.cmpI (dv 1000000000 a) (dv 1000000000 b)) := by
 by_cases hl : a.length = b.length
 ·have h := compare_l a b ha.dg hb.dg hl hn a.length (Nat.le_refl _) (by rw [List.drop_of_length_le (Nat.le_refl _), List.drop_of_length_le (by omega)])
  refine Ev.congr (fun k => ?_) h
  simp only [dioramaref02_Compare.f]
  rw [if_pos (by omega), w64 (by omega) (by omega)]
 ·by_cases h1 : a.length < b.length
  ·rw [cmp1 (dv_len (by decide) ha.dg hb h1)]
   refine Ev.congr (f := fun _ => some (-1)) (fun k => ?_) (Ev.now _)
   simp only [dioramaref02_Compare.f]
   rw [if_neg (by omega), if_pos (by omega)]
  ·rw [cmp2 (dv_len (by decide) hb.dg ha (by omega))]
   refine Ev.congr (f := fun _ => some 1) (fun k => ?_) (Ev.now _)
   simp only [dioramaref02_Compare.f]
   rw [if_neg (by omega), if_neg (by omega)]
end Go.Proofs.Ytpbhepdgamoiaaa.Pa

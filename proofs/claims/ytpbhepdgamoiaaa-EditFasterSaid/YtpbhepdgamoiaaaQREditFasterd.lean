/-
  The reference's natural numbers, in digits of nine decimal places: what its printed functions compute. The reference's natural numbers: sums, differences, products, quotients, small ones. The reference divides. Lists of edits as plain values: the first error, the normal list, the length; and that the code tells them. The normal list of a list of edits as a plain value, and that the code tells it. The reference's rational numbers as rational numbers. Whether lists are equal, alike; the first example of the chapter. The reference's normal list is the same. What the reference tells of a list: its normal list, its first error, its length. The reference's whole number of a rational number.
-/
import Derived.Test.YtpbhepdgamoiaaaQREditFastera
import Derived.Test.YtpbhepdgamoiaaaQREditFasterb
import Derived.Test.YtpbhepdgamoiaaaQREditFasterc
namespace Go.Proofs.Ytpbhepdgamoiaaa.E
open Go.Proofs.Ytpbhepdgamoiaaa.Z Go.RowKit Go.Proofs.YtpbhepdgamoiaaaW.PrintWords Go.Proofs.YtpbhepdgamoiaaaW.PrintLast Go.Proofs.YtpbhepdgamoiaaaW.PrintMore
attribute [local go_sem] max2_int min2_int max_two min_two max_three min_three max_four min_four
set_option linter.unusedVariables false
set_option linter.unusedSimpArgs false
mutual
def dioramaref10_Faster.j0 : Nat → List (S77) → Int → Int → Int → Int → Bool → Option ((List (S77)) × Int)
  | 0, _, _, _, _, _, _ => none
  | k + 1, x0, x1, x2, x3, x4, x36 => if x36 = true then (some (([] : List (S77)), 1)) else (dioramaref10_Faster.l0 k x0 x1 x2 x3 x4 ([] : List (S77)) 0)
def dioramaref10_Faster.l0 : Nat → List (S77) → Int → Int → Int → Int → List (S77) → Int → Option ((List (S77)) × Int)
  | 0, _, _, _, _, _, _, _ => none
  | k + 1, x0, x1, x2, x3, x4, x13, x14 => if x14 < (x0.length : Int) then (if 0 ≤ x14 then ((dioramaref10_ratio.f k ((rd_T77 x0 x14).f0) 1).bind fun bt457 => ((dioramaref10_ratio.f k x4 x3).bind fun bt464 => ((dioramaref10_times.f k bt457.1 bt457.2.1 bt457.2.2 bt464.1 bt464.2.1 bt464.2.2).bind fun bt471 => ((dioramaref10_whole.f k bt471.1 bt471.2.1 bt471.2.2).bind fun bt478 => (if bt478.2 = 20 then (some (([] : List (S77)), bt478.2)) else ((dioramaref10_isEmpty.f bt478.1 ((rd_T77 x0 x14).f1) ((rd_T77 x0 x14).f2) ((rd_T77 x0 x14).f3)).bind fun t480 => (if t480 = true then (dioramaref10_Faster.j2 k x0 x1 x2 x3 x4 bt478.2 x13 x14 false bt478.1 ((rd_T77 x0 x14).f1) ((rd_T77 x0 x14).f2) ((rd_T77 x0 x14).f3)) else (dioramaref10_Faster.j2 k x0 x1 x2 x3 x4 bt478.2 x13 x14 (decide (((rd_T77 x0 x14).f2) > 0)) bt478.1 ((rd_T77 x0 x14).f1) ((rd_T77 x0 x14).f2) ((rd_T77 x0 x14).f3))))))))) else (none)) else ((dioramaref10_told.f k x13 x1 x2).bind fun bt451 => (some (bt451.1, bt451.2)))
def dioramaref10_Faster.j2 : Nat → List (S77) → Int → Int → Int → Int → Int → List (S77) → Int → Bool → Int → Int → Int → Int → Option ((List (S77)) × Int)
  | 0, _, _, _, _, _, _, _, _, _, _, _, _, _ => none
  | k + 1, x0, x1, x2, x3, x4, x12, x13, x14, x69, x457000, x457001, x457002, x457003 => if x69 = true then ((dioramaref10_lowest.f x457000 x457001 (wrap64 (x457002 * x3)) (wrap64 (x457003 * x4))).bind fun bt481 => (if bt481.2.2.1 > 1000 then (dioramaref10_Faster.j3 k x0 x1 x2 x3 x4 x12 x13 x14 true bt481.1 bt481.2.1 bt481.2.2.1 bt481.2.2.2) else (dioramaref10_Faster.j3 k x0 x1 x2 x3 x4 x12 x13 x14 (decide (bt481.2.2.2 > 1000)) bt481.1 bt481.2.1 bt481.2.2.1 bt481.2.2.2))) else (if x12 = 0 then (if x13.length < 4398046511104 then (dioramaref10_Faster.l0 k x0 x1 x2 x3 x4 (x13 ++ [(⟨x457000, x457001, x457002, x457003⟩ : S77)]) (wrap64 (x14 + 1))) else (none)) else (some (([] : List (S77)), x12)))
def dioramaref10_Faster.j3 : Nat → List (S77) → Int → Int → Int → Int → Int → List (S77) → Int → Bool → Int → Int → Int → Int → Option ((List (S77)) × Int)
  | 0, _, _, _, _, _, _, _, _, _, _, _, _, _ => none
  | k + 1, x0, x1, x2, x3, x4, x12, x13, x14, x89, x457000, x457001, x457002, x457003 => if x89 = true then (some (([] : List (S77)), 33)) else (if x12 = 0 then (if x13.length < 4398046511104 then (dioramaref10_Faster.l0 k x0 x1 x2 x3 x4 (x13 ++ [(⟨x457000, x457001, x457002, x457003⟩ : S77)]) (wrap64 (x14 + 1))) else (none)) else (some (([] : List (S77)), x12)))
end
def dioramaref10_Faster.f (k : Nat) (l0 : List (S77)) (a1 : Int) (a2 : Int) (a3 : Int) (a4 : Int) : Option ((List (S77)) × Int) := (dioramaref10_Check.f k l0 a1 a2).bind fun t450 => (if t450 = 0 then (if a3 < 1 then (dioramaref10_Faster.j0 k l0 a1 a2 a3 a4 true) else (if a3 > 1000 then (dioramaref10_Faster.j0 k l0 a1 a2 a3 a4 true) else (if a4 < 1 then (dioramaref10_Faster.j0 k l0 a1 a2 a3 a4 true) else (dioramaref10_Faster.j0 k l0 a1 a2 a3 a4 (decide (a4 > 1000)))))) else (some (([] : List (S77)), t450)))
set_option maxHeartbeats 8000000 in
set_option maxRecDepth 100000 in
theorem dioramaref10_Faster.calls (k : Nat) (A0 : Option Addr) (c0 : Nat) (l0 : List (S77)) (a1 : Int) (a2 : Int) (a3 : Int) (a4 : Int) (r1 : List (S77)) (r2 : Int) (w : World) (hr0 : Kd.C k77 w A0 l0.length l0) (hc0 : l0.length ≤ c0) (h : dioramaref10_Faster.f k l0 a1 a2 a3 a4 = some (r1, r2)) :
  Calls Try.prog 29 #[.slice A0 l0.length c0, .int .i64 a1, .int .i64 a2, .int .i64 a3, .int .i64 a4] w fun e w' => ∃ v0_ : Value, e = .returned (.tuple #[v0_, .int .i64 r2]) ∧ Kd.R k77 77 w' w.heap.size (fun _ => True) v0_ r1 ∧ Below w.heap.size w w' := by
 have hu77 := Try.underlying77; have HR0 := Aside0.mk hr0; have HC0 := Aside0.mk hc0; clear hr0 hc0; have HB := Aside0.mk (Below.refl w.heap.size w); have H : ((dioramaref10_Check.f k l0 a1 a2).bind fun t450 => (if t450 = 0 then (if a3 < 1 then (dioramaref10_Faster.j0 k l0 a1 a2 a3 a4 true) else (if a3 > 1000 then (dioramaref10_Faster.j0 k l0 a1 a2 a3 a4 true) else (if a4 < 1 then (dioramaref10_Faster.j0 k l0 a1 a2 a3 a4 true) else (dioramaref10_Faster.j0 k l0 a1 a2 a3 a4 (decide (a4 > 1000)))))) else (some (([] : List (S77)), t450)))) = some (r1, r2) := h
 clear h; obtain ⟨t450, A6, H⟩ := ob H
 by_cases c7 : t450 = 0
 ·rw [if_pos c7] at H; have c7b0 : (t450 == 0) = true := beq_iff_eq.mpr c7; have c7b1 : (t450 != 0) = false := bne_eq_false_iff_eq.mpr c7; clear c7; have HC8 := Aside0.mk H; clear H
  go_enter Try.func29, Try.ntmps29
  go_upto_region 4 with (first | ((with_reducible refine gate_callee (f := 25) rfl ?_); refine zC 19 Try.func25 #[.slice A0 l0.length c0, .int .i64 a1, .int .i64 a2] ?_; (with_reducible refine (dioramaref10_Check.calls k _ _ l0 a1 a2 t450 _ ?side1 ?side2 A6.out).mono ?_); (case side1 => repeat (first | exact HR0.out | (with_reducible refine Kd.C_alloc ?_ _) | (with_reducible refine Kd.C_drewN ?_ _) | (with_reducible refine Kd.C_drew ?_))); (case side2 => exact HC0.out); rintro e w9 ⟨rfl, hb⟩; refine ⟨_, rfl, ?_⟩; replace HB := bp hb; clear hb))
  (try simp only [Act.put, List.setIfInBounds_toArray, List.set_cons_zero, List.set_cons_succ])
  go_cut [36] (fun v36 wc => ∃ (kq : Nat) (x36_7 : Bool), v36 = .bool x36_7 ∧ Aside0 (dioramaref10_Faster.j0 kq l0 a1 a2 a3 a4 x36_7 = some (r1, r2)) ∧ Aside0 (kq ≤ k) ∧ Aside0 (Below w.heap.size w wc))
  case first =>
   have H := HC8.out; clear HC8
   by_cases c10 : a3 < 1
   ·rw [if_pos c10] at H; have c10b0 : decide (a3 < 1) = true := decide_eq_true c10; clear c10
    (first | rw [c10b0] | (simp only [i64_w, i32_w]; rw [c10b0]) | skip)
    have H' := Aside0.mk H; clear H
    go_wp2
    go_meet
    case rel => exact ⟨_, (true), jz, H', ⟨by first | omega | exact Nat.le_refl _⟩, ⟨bz⟩⟩
   ·rw [if_neg c10] at H; have c10b0 : decide (a3 < 1) = false := decide_eq_false c10; clear c10
    (first | rw [c10b0] | (simp only [i64_w, i32_w]; rw [c10b0]) | skip)
    by_cases c11 : a3 > 1000
    ·rw [if_pos c11] at H; have c11b0 : decide (1000 < a3) = true := decide_eq_true c11; clear c11; have H' := Aside0.mk H; clear H
     go_wp2
     go_meet
     case rel => exact ⟨_, (true), jz, H', ⟨by first | omega | exact Nat.le_refl _⟩, ⟨bz⟩⟩
    ·rw [if_neg c11] at H; have c11b0 : decide (1000 < a3) = false := decide_eq_false c11; clear c11
     by_cases c12 : a4 < 1
     ·rw [if_pos c12] at H; have c12b0 : decide (a4 < 1) = true := decide_eq_true c12; clear c12; have H' := Aside0.mk H; clear H
      go_wp2
      go_meet
      case rel => exact ⟨_, (true), jz, H', ⟨by first | omega | exact Nat.le_refl _⟩, ⟨bz⟩⟩
     ·rw [if_neg c12] at H; have c12b0 : decide (a4 < 1) = false := decide_eq_false c12; clear c12; have H' := Aside0.mk H; clear H
      go_wp2
      go_meet
      case rel => exact ⟨_, (decide (a4 > 1000)), jz, H', ⟨by first | omega | exact Nat.le_refl _⟩, ⟨bz⟩⟩
  case rest =>
   clear HC8
   try clear c1
   try clear c2
   try clear p2
   try clear c7
   try clear c7b0
   try clear c7b1
   try clear c10
   try clear c10b0
   try clear c11
   try clear c11b0
   try clear c12
   try clear c12b0
   obtain ⟨kq, x36_7, rfl, HA, HJ7, HB⟩ := hcut
   cases kq with
   | zero => exact absurd HA.out (by simp [dioramaref10_Faster.j0])
   | succ kj7 =>
    have H := HA.out; clear HA; simp only [dioramaref10_Faster.j0] at H
    by_cases c13 : x36_7 = true
    ·subst c13; rw [if_pos rfl] at H; simp only [Option.some.injEq, Prod.mk.injEq] at H; obtain ⟨rfl, rfl⟩ := H
     go_wp2
     go_ret2
     exact ⟨_, ez, by first | exact Kd.R_nil _ _ _ _ _ | exact Kd.N_nil _ _ _ _ _ | exact Kd.V_nil _ _ _ _ _ | exact Kd.Q_nil _ _ _ _ _ | exact Kd.S_nil _ _ _ _ _, bz⟩
    ·obtain rfl := bf c13; rw [if_neg (show ¬ (false = true) by decide)] at H; have H' := Aside0.mk H; clear H
     go_wp2
     go_loopg [13, 14] kj7 (fun kq v13 v14 w' => ∃ (x13_2 : List (S77)) (x14_2 : Int), v14 = .int .i64 x14_2 ∧ Aside0 (dioramaref10_Faster.l0 kq l0 a1 a2 a3 a4 x13_2 x14_2 = some (r1, r2)) ∧ Aside0 (kq ≤ kj7) ∧ Aside0 (Kd.R k77 77 w' w.heap.size (fun _ => True) v13 x13_2) ∧ Aside0 (Below w.heap.size w w'))
     case atStart => exact ⟨(([] : List (S77))), (0), jz, H', ⟨Nat.le_refl _⟩, ⟨by first | exact Kd.R_nil _ _ _ _ _ | exact Kd.N_nil _ _ _ _ _ | exact Kd.V_nil _ _ _ _ _ | exact Kd.Q_nil _ _ _ _ _ | exact Kd.S_nil _ _ _ _ _⟩, ⟨bz⟩⟩
     case round =>
      clear H'
      try clear c1
      try clear c2
      try clear p2
      try clear c7
      try clear c7b0
      try clear c7b1
      try clear c10
      try clear c10b0
      try clear c11
      try clear c11b0
      try clear c12
      try clear c12b0
      try clear c13
      try clear p2
      obtain ⟨x13_2, x14_2, rfl, HA, HK2, HO_13, HB⟩ := hrel
      cases gk with
      | zero => exact absurd HA.out (by simp [dioramaref10_Faster.l0])
      | succ k2 =>
       have H := HA.out; clear HA; simp only [dioramaref10_Faster.l0] at H
       by_cases c14 : x14_2 < (l0.length : Int)
       ·rw [if_pos c14] at H; have c14b0 : decide (x14_2 < (l0.length : Int)) = true := decide_eq_true c14; clear c14
        by_cases c15 : 0 ≤ x14_2
        ·rw [if_pos c15] at H; have c15b0 : decide (0 ≤ x14_2) = true := decide_eq_true c15; clear c15; obtain ⟨⟨t457, t458, t461⟩, A16, H⟩ := ob H
         (try dsimp only at H)
         obtain ⟨⟨t464, t465, t468⟩, A17, H⟩ := ob H
         (try dsimp only at H)
         obtain ⟨⟨t471, t472, t475⟩, A18, H⟩ := ob H
         (try dsimp only at H)
         obtain ⟨⟨t478, t479⟩, A19, H⟩ := ob H
         (try dsimp only at H)
         by_cases c20 : t479 = 20
         ·rw [if_pos c20] at H; have c20b0 : (t479 == 20) = true := beq_iff_eq.mpr c20; have c20b1 : (t479 != 20) = false := bne_eq_false_iff_eq.mpr c20; clear c20; simp only [Option.some.injEq, Prod.mk.injEq] at H; obtain ⟨rfl, rfl⟩ := H; have p455 : 0 ≤ (x14_2 : Int) := od; have q455 : x14_2 < (l0.length : Int) := od; obtain ⟨ad455, e455, hx455_0, hx455_1, hx455_2, hx455_3⟩ := at_T77 HR0.out x14_2 p455 q455
          cases e455
          replace hx455_0 := cl HB hx455_0; replace hx455_1 := cl HB hx455_1; replace hx455_2 := cl HB hx455_2; replace hx455_3 := cl HB hx455_3; replace p455 := eq_true p455; replace q455 := eq_true q455
          go_wp2_with (first | ((with_reducible refine gate_dst (N := 15) rfl ?_); refine zB 15 77 #[.int .i64 0, .int .i64 0, .int .i64 0, .int .i64 0] ?_; intro gb456 hg w21 hbox hb; replace HO_13 := Aside0.mk (Kd.R_below (Kd.R_elderB (rz HO_13) gb456 (Nat.le_of_eq hg.symm)) hb); have BK456 := Aside0.mk hbox; have GW456 := gz hg; have GE456 := gz hg; replace HB := bp hb; clear hb hbox hg; obtain ⟨hcz22_0, hcz22_1, hcz22_2, hcz22_3, hfz22_0, hfz22_1, hfz22_2, hfz22_3⟩ := xc4 BK456) | ((with_reducible refine gate_callee (f := 68) rfl ?_); refine zC 50 Try.func68 #[.int .i64 ((rd_T77 l0 x14_2).f0), .int .i64 1] ?_; (with_reducible refine (dioramaref10_ratio.calls k2 ((rd_T77 l0 x14_2).f0) 1 t457 t458 t461 _ A16.out).mono ?_); rintro e w23 ⟨v459, v462, rfl, ho0, ho1, hb⟩; refine ⟨_, rfl, ?_⟩; replace HO_13 := Aside0.mk (Kd.R_below (by (with_reducible repeat (first | apply Kd.R_alloc | apply Kd.R_drewN | apply Kd.R_drew)); exact (Kd.R_mono (Kd.R_far (p := ⟨gb456, 3, none⟩) (Kd.R_far (p := ⟨gb456, 2, none⟩) (Kd.R_far (p := ⟨gb456, 1, none⟩) (Kd.R_far (p := ⟨gb456, 0, none⟩) (Kd.R_mono HO_13.out (fun k_ hk => (⟨hk, hk.2⟩ : _ ∧ k_ ≠ gb456))) (fun _ hk => hk.2) (.int .i64 ((rd_T77 l0 x14_2).f0))) (fun _ hk => hk.2) (.int .i64 ((rd_T77 l0 x14_2).f1))) (fun _ hk => hk.2) (.int .i64 ((rd_T77 l0 x14_2).f2))) (fun _ hk => hk.2) (.int .i64 ((rd_T77 l0 x14_2).f3))) (fun _ h_ => h_.1))) hb); have HO460 := Aside0.mk (Kd.R_lower ho0 sz); have HO463 := Aside0.mk (Kd.R_lower ho1 sz); replace BK456 := Aside0.mk (blk_below (g := gb456) (o := .cells #[.int .i64 ((rd_T77 l0 x14_2).f0), .int .i64 ((rd_T77 l0 x14_2).f1), .int .i64 ((rd_T77 l0 x14_2).f2), .int .i64 ((rd_T77 l0 x14_2).f3)] 77 (0, 0)) (by (with_reducible repeat (first | refine blk_drewN ?_ _ | refine blk_drew ?_ | refine blk_alloc ?_ _)); refine blk_put (cs := #[.int .i64 ((rd_T77 l0 x14_2).f0), .int .i64 ((rd_T77 l0 x14_2).f1), .int .i64 ((rd_T77 l0 x14_2).f2), .int .i64 0]) ?_ 3 _ rfl; (with_reducible repeat (first | refine blk_drewN ?_ _ | refine blk_drew ?_ | refine blk_alloc ?_ _)); refine blk_put (cs := #[.int .i64 ((rd_T77 l0 x14_2).f0), .int .i64 ((rd_T77 l0 x14_2).f1), .int .i64 0, .int .i64 0]) ?_ 2 _ rfl; (with_reducible repeat (first | refine blk_drewN ?_ _ | refine blk_drew ?_ | refine blk_alloc ?_ _)); refine blk_put (cs := #[.int .i64 ((rd_T77 l0 x14_2).f0), .int .i64 0, .int .i64 0, .int .i64 0]) ?_ 1 _ rfl; (with_reducible repeat (first | refine blk_drewN ?_ _ | refine blk_drew ?_ | refine blk_alloc ?_ _)); refine blk_put (cs := #[.int .i64 0, .int .i64 0, .int .i64 0, .int .i64 0]) ?_ 0 _ rfl; (with_reducible repeat (first | refine blk_drewN ?_ _ | refine blk_drew ?_ | refine blk_alloc ?_ _)); exact BK456.out) hb); replace HB := bp hb; clear hb ho0 ho1) | ((with_reducible refine gate_callee (f := 68) rfl ?_); refine zC 53 Try.func68 #[.int .i64 a4, .int .i64 a3] ?_; (with_reducible refine (dioramaref10_ratio.calls k2 a4 a3 t464 t465 t468 _ A17.out).mono ?_); rintro e w24 ⟨v466, v469, rfl, ho0, ho1, hb⟩; refine ⟨_, rfl, ?_⟩; replace HO_13 := Aside0.mk (Kd.R_below (rz HO_13) hb); have HO467 := Aside0.mk (Kd.R_lower (Kd.R_new' (Kd.R_new' ho0 (Kd.R_lt (rz HO460))) (Kd.R_lt (rz HO463))) sz); have HO470 := Aside0.mk (Kd.R_lower (Kd.R_new' (Kd.R_new' ho1 (Kd.R_lt (rz HO460))) (Kd.R_lt (rz HO463))) sz); replace HO460 := Aside0.mk (Kd.R_mono (Kd.R_told (Kd.R_told (Kd.R_old (rz HO460) hb) (Kd.R_base ho0)) (Kd.R_base ho1)) (fun _ h_ => h_.1)); replace HO463 := Aside0.mk (Kd.R_mono (Kd.R_told (Kd.R_told (Kd.R_old (rz HO463) hb) (Kd.R_base ho0)) (Kd.R_base ho1)) (fun _ h_ => h_.1)); replace BK456 := kb BK456 hb; replace HB := bp hb; clear hb ho0 ho1; obtain ⟨Ao25, co25, eo25⟩ := Kd.R_slice HO460.out; subst eo25; obtain ⟨Ao26, co26, eo26⟩ := Kd.R_slice HO463.out; subst eo26; obtain ⟨Ao27, co27, eo27⟩ := Kd.R_slice HO467.out; subst eo27; obtain ⟨Ao28, co28, eo28⟩ := Kd.R_slice HO470.out; subst eo28) | ((with_reducible refine gate_callee (f := 73) rfl ?_); refine zC 54 Try.func73 #[.agg #[.bool t457, .slice Ao25 t458.length co25, .slice Ao26 t461.length co26], .agg #[.bool t464, .slice Ao27 t465.length co27, .slice Ao28 t468.length co28]] ?_; (with_reducible refine (dioramaref10_times.calls k2 t457 _ _ t458 _ _ t461 t464 _ _ t465 _ _ t468 t471 t472 t475 _ ?side1 ?side2 ?side3 ?side4 ?side5 ?side6 ?side7 ?side8 A18.out).mono ?_); (case side1 => exact cr HO460); (case side2 => exact (Kd.R_reads' HO460.out).2.1); (case side3 => exact cr HO463); (case side4 => exact (Kd.R_reads' HO463.out).2.1); (case side5 => exact cr HO467); (case side6 => exact (Kd.R_reads' HO467.out).2.1); (case side7 => exact cr HO470); (case side8 => exact (Kd.R_reads' HO470.out).2.1); rintro e w29 ⟨v473, v476, rfl, ho0, ho1, hb⟩; refine ⟨_, rfl, ?_⟩; replace HO_13 := Aside0.mk (Kd.R_below (rz HO_13) hb); have HO474 := Aside0.mk (Kd.R_lower (Kd.R_new' (Kd.R_new' (Kd.R_new' (Kd.R_new' ho0 (Kd.R_lt (rz HO460))) (Kd.R_lt (rz HO463))) (Kd.R_lt (rz HO467))) (Kd.R_lt (rz HO470))) sz); have HO477 := Aside0.mk (Kd.R_lower (Kd.R_new' (Kd.R_new' (Kd.R_new' (Kd.R_new' ho1 (Kd.R_lt (rz HO460))) (Kd.R_lt (rz HO463))) (Kd.R_lt (rz HO467))) (Kd.R_lt (rz HO470))) sz); replace HO460 := Aside0.mk (Kd.R_mono (Kd.R_told (Kd.R_told (Kd.R_old (rz HO460) hb) (Kd.R_base ho0)) (Kd.R_base ho1)) (fun _ h_ => h_.1)); replace HO463 := Aside0.mk (Kd.R_mono (Kd.R_told (Kd.R_told (Kd.R_old (rz HO463) hb) (Kd.R_base ho0)) (Kd.R_base ho1)) (fun _ h_ => h_.1)); replace HO467 := Aside0.mk (Kd.R_mono (Kd.R_told (Kd.R_told (Kd.R_old (rz HO467) hb) (Kd.R_base ho0)) (Kd.R_base ho1)) (fun _ h_ => h_.1)); replace HO470 := Aside0.mk (Kd.R_mono (Kd.R_told (Kd.R_told (Kd.R_old (rz HO470) hb) (Kd.R_base ho0)) (Kd.R_base ho1)) (fun _ h_ => h_.1)); replace BK456 := kb BK456 hb; replace HB := bp hb; clear hb ho0 ho1; obtain ⟨Ao30, co30, eo30⟩ := Kd.R_slice HO474.out; subst eo30; obtain ⟨Ao31, co31, eo31⟩ := Kd.R_slice HO477.out; subst eo31) | ((with_reducible refine gate_callee (f := 72) rfl ?_); refine zC 55 Try.func72 #[.agg #[.bool t471, .slice Ao30 t472.length co30, .slice Ao31 t475.length co31]] ?_; (with_reducible refine (dioramaref10_whole.calls k2 t471 _ _ t472 _ _ t475 t478 t479 _ ?side1 ?side2 ?side3 ?side4 A19.out).mono ?_); (case side1 => exact cr HO474); (case side2 => exact (Kd.R_reads' HO474.out).2.1); (case side3 => exact cr HO477); (case side4 => exact (Kd.R_reads' HO477.out).2.1); rintro e w32 ⟨rfl, hb⟩; refine ⟨_, rfl, ?_⟩; replace HO_13 := Aside0.mk (Kd.R_below (rz HO_13) hb); replace HO460 := Aside0.mk (Kd.R_below (rz HO460) hb); replace HO463 := Aside0.mk (Kd.R_below (rz HO463) hb); replace HO467 := Aside0.mk (Kd.R_below (rz HO467) hb); replace HO470 := Aside0.mk (Kd.R_below (rz HO470) hb); replace HO474 := Aside0.mk (Kd.R_below (rz HO474) hb); replace HO477 := Aside0.mk (Kd.R_below (rz HO477) hb); replace BK456 := kb BK456 hb; replace HB := bp hb; clear hb; obtain ⟨hcz33_0, hcz33_1, hcz33_2, hcz33_3, hfz33_0, hfz33_1, hfz33_2, hfz33_3⟩ := xc4 BK456))
          go_ret2
          exact ⟨_, ez, by first | exact Kd.R_nil _ _ _ _ _ | exact Kd.N_nil _ _ _ _ _ | exact Kd.V_nil _ _ _ _ _ | exact Kd.Q_nil _ _ _ _ _ | exact Kd.S_nil _ _ _ _ _, bz⟩
         ·rw [if_neg c20] at H; have c20b0 : (t479 == 20) = false := beq_eq_false_iff_ne.mpr c20; have c20b1 : (t479 != 20) = true := bne_iff_ne.mpr c20; have HC34 := Aside0.mk H; clear H; have p455 : 0 ≤ (x14_2 : Int) := od; have q455 : x14_2 < (l0.length : Int) := od; obtain ⟨ad455, e455, hx455_0, hx455_1, hx455_2, hx455_3⟩ := at_T77 HR0.out x14_2 p455 q455
          cases e455
          replace hx455_0 := cl HB hx455_0; replace hx455_1 := cl HB hx455_1; replace hx455_2 := cl HB hx455_2; replace hx455_3 := cl HB hx455_3; replace p455 := eq_true p455; replace q455 := eq_true q455
          go_upto_region 14 with (first | ((with_reducible refine gate_dst (N := 15) rfl ?_); refine zB 15 77 #[.int .i64 0, .int .i64 0, .int .i64 0, .int .i64 0] ?_; intro gb456 hg w35 hbox hb; replace HO_13 := Aside0.mk (Kd.R_below (Kd.R_elderB (rz HO_13) gb456 (Nat.le_of_eq hg.symm)) hb); have BK456 := Aside0.mk hbox; have GW456 := gz hg; have GE456 := gz hg; replace HB := bp hb; clear hb hbox hg; obtain ⟨hcz36_0, hcz36_1, hcz36_2, hcz36_3, hfz36_0, hfz36_1, hfz36_2, hfz36_3⟩ := xc4 BK456) | ((with_reducible refine gate_callee (f := 68) rfl ?_); refine zC 50 Try.func68 #[.int .i64 ((rd_T77 l0 x14_2).f0), .int .i64 1] ?_; (with_reducible refine (dioramaref10_ratio.calls k2 ((rd_T77 l0 x14_2).f0) 1 t457 t458 t461 _ A16.out).mono ?_); rintro e w37 ⟨v459, v462, rfl, ho0, ho1, hb⟩; refine ⟨_, rfl, ?_⟩; replace HO_13 := Aside0.mk (Kd.R_below (by (with_reducible repeat (first | apply Kd.R_alloc | apply Kd.R_drewN | apply Kd.R_drew)); exact (Kd.R_mono (Kd.R_far (p := ⟨gb456, 3, none⟩) (Kd.R_far (p := ⟨gb456, 2, none⟩) (Kd.R_far (p := ⟨gb456, 1, none⟩) (Kd.R_far (p := ⟨gb456, 0, none⟩) (Kd.R_mono HO_13.out (fun k_ hk => (⟨hk, hk.2⟩ : _ ∧ k_ ≠ gb456))) (fun _ hk => hk.2) (.int .i64 ((rd_T77 l0 x14_2).f0))) (fun _ hk => hk.2) (.int .i64 ((rd_T77 l0 x14_2).f1))) (fun _ hk => hk.2) (.int .i64 ((rd_T77 l0 x14_2).f2))) (fun _ hk => hk.2) (.int .i64 ((rd_T77 l0 x14_2).f3))) (fun _ h_ => h_.1))) hb); have HO460 := Aside0.mk (Kd.R_lower ho0 sz); have HO463 := Aside0.mk (Kd.R_lower ho1 sz); replace BK456 := Aside0.mk (blk_below (g := gb456) (o := .cells #[.int .i64 ((rd_T77 l0 x14_2).f0), .int .i64 ((rd_T77 l0 x14_2).f1), .int .i64 ((rd_T77 l0 x14_2).f2), .int .i64 ((rd_T77 l0 x14_2).f3)] 77 (0, 0)) (by (with_reducible repeat (first | refine blk_drewN ?_ _ | refine blk_drew ?_ | refine blk_alloc ?_ _)); refine blk_put (cs := #[.int .i64 ((rd_T77 l0 x14_2).f0), .int .i64 ((rd_T77 l0 x14_2).f1), .int .i64 ((rd_T77 l0 x14_2).f2), .int .i64 0]) ?_ 3 _ rfl; (with_reducible repeat (first | refine blk_drewN ?_ _ | refine blk_drew ?_ | refine blk_alloc ?_ _)); refine blk_put (cs := #[.int .i64 ((rd_T77 l0 x14_2).f0), .int .i64 ((rd_T77 l0 x14_2).f1), .int .i64 0, .int .i64 0]) ?_ 2 _ rfl; (with_reducible repeat (first | refine blk_drewN ?_ _ | refine blk_drew ?_ | refine blk_alloc ?_ _)); refine blk_put (cs := #[.int .i64 ((rd_T77 l0 x14_2).f0), .int .i64 0, .int .i64 0, .int .i64 0]) ?_ 1 _ rfl; (with_reducible repeat (first | refine blk_drewN ?_ _ | refine blk_drew ?_ | refine blk_alloc ?_ _)); refine blk_put (cs := #[.int .i64 0, .int .i64 0, .int .i64 0, .int .i64 0]) ?_ 0 _ rfl; (with_reducible repeat (first | refine blk_drewN ?_ _ | refine blk_drew ?_ | refine blk_alloc ?_ _)); exact BK456.out) hb); replace HB := bp hb; clear hb ho0 ho1) | ((with_reducible refine gate_callee (f := 68) rfl ?_); refine zC 53 Try.func68 #[.int .i64 a4, .int .i64 a3] ?_; (with_reducible refine (dioramaref10_ratio.calls k2 a4 a3 t464 t465 t468 _ A17.out).mono ?_); rintro e w38 ⟨v466, v469, rfl, ho0, ho1, hb⟩; refine ⟨_, rfl, ?_⟩; replace HO_13 := Aside0.mk (Kd.R_below (rz HO_13) hb); have HO467 := Aside0.mk (Kd.R_lower (Kd.R_new' (Kd.R_new' ho0 (Kd.R_lt (rz HO460))) (Kd.R_lt (rz HO463))) sz); have HO470 := Aside0.mk (Kd.R_lower (Kd.R_new' (Kd.R_new' ho1 (Kd.R_lt (rz HO460))) (Kd.R_lt (rz HO463))) sz); replace HO460 := Aside0.mk (Kd.R_mono (Kd.R_told (Kd.R_told (Kd.R_old (rz HO460) hb) (Kd.R_base ho0)) (Kd.R_base ho1)) (fun _ h_ => h_.1)); replace HO463 := Aside0.mk (Kd.R_mono (Kd.R_told (Kd.R_told (Kd.R_old (rz HO463) hb) (Kd.R_base ho0)) (Kd.R_base ho1)) (fun _ h_ => h_.1)); replace BK456 := kb BK456 hb; replace HB := bp hb; clear hb ho0 ho1; obtain ⟨Ao39, co39, eo39⟩ := Kd.R_slice HO460.out; subst eo39; obtain ⟨Ao40, co40, eo40⟩ := Kd.R_slice HO463.out; subst eo40; obtain ⟨Ao41, co41, eo41⟩ := Kd.R_slice HO467.out; subst eo41; obtain ⟨Ao42, co42, eo42⟩ := Kd.R_slice HO470.out; subst eo42) | ((with_reducible refine gate_callee (f := 73) rfl ?_); refine zC 54 Try.func73 #[.agg #[.bool t457, .slice Ao39 t458.length co39, .slice Ao40 t461.length co40], .agg #[.bool t464, .slice Ao41 t465.length co41, .slice Ao42 t468.length co42]] ?_; (with_reducible refine (dioramaref10_times.calls k2 t457 _ _ t458 _ _ t461 t464 _ _ t465 _ _ t468 t471 t472 t475 _ ?side1 ?side2 ?side3 ?side4 ?side5 ?side6 ?side7 ?side8 A18.out).mono ?_); (case side1 => exact cr HO460); (case side2 => exact (Kd.R_reads' HO460.out).2.1); (case side3 => exact cr HO463); (case side4 => exact (Kd.R_reads' HO463.out).2.1); (case side5 => exact cr HO467); (case side6 => exact (Kd.R_reads' HO467.out).2.1); (case side7 => exact cr HO470); (case side8 => exact (Kd.R_reads' HO470.out).2.1); rintro e w43 ⟨v473, v476, rfl, ho0, ho1, hb⟩; refine ⟨_, rfl, ?_⟩; replace HO_13 := Aside0.mk (Kd.R_below (rz HO_13) hb); have HO474 := Aside0.mk (Kd.R_lower (Kd.R_new' (Kd.R_new' (Kd.R_new' (Kd.R_new' ho0 (Kd.R_lt (rz HO460))) (Kd.R_lt (rz HO463))) (Kd.R_lt (rz HO467))) (Kd.R_lt (rz HO470))) sz); have HO477 := Aside0.mk (Kd.R_lower (Kd.R_new' (Kd.R_new' (Kd.R_new' (Kd.R_new' ho1 (Kd.R_lt (rz HO460))) (Kd.R_lt (rz HO463))) (Kd.R_lt (rz HO467))) (Kd.R_lt (rz HO470))) sz); replace HO460 := Aside0.mk (Kd.R_mono (Kd.R_told (Kd.R_told (Kd.R_old (rz HO460) hb) (Kd.R_base ho0)) (Kd.R_base ho1)) (fun _ h_ => h_.1)); replace HO463 := Aside0.mk (Kd.R_mono (Kd.R_told (Kd.R_told (Kd.R_old (rz HO463) hb) (Kd.R_base ho0)) (Kd.R_base ho1)) (fun _ h_ => h_.1)); replace HO467 := Aside0.mk (Kd.R_mono (Kd.R_told (Kd.R_told (Kd.R_old (rz HO467) hb) (Kd.R_base ho0)) (Kd.R_base ho1)) (fun _ h_ => h_.1)); replace HO470 := Aside0.mk (Kd.R_mono (Kd.R_told (Kd.R_told (Kd.R_old (rz HO470) hb) (Kd.R_base ho0)) (Kd.R_base ho1)) (fun _ h_ => h_.1)); replace BK456 := kb BK456 hb; replace HB := bp hb; clear hb ho0 ho1; obtain ⟨Ao44, co44, eo44⟩ := Kd.R_slice HO474.out; subst eo44; obtain ⟨Ao45, co45, eo45⟩ := Kd.R_slice HO477.out; subst eo45) | ((with_reducible refine gate_callee (f := 72) rfl ?_); refine zC 55 Try.func72 #[.agg #[.bool t471, .slice Ao44 t472.length co44, .slice Ao45 t475.length co45]] ?_; (with_reducible refine (dioramaref10_whole.calls k2 t471 _ _ t472 _ _ t475 t478 t479 _ ?side1 ?side2 ?side3 ?side4 A19.out).mono ?_); (case side1 => exact cr HO474); (case side2 => exact (Kd.R_reads' HO474.out).2.1); (case side3 => exact cr HO477); (case side4 => exact (Kd.R_reads' HO477.out).2.1); rintro e w46 ⟨rfl, hb⟩; refine ⟨_, rfl, ?_⟩; replace HO_13 := Aside0.mk (Kd.R_below (rz HO_13) hb); replace HO460 := Aside0.mk (Kd.R_below (rz HO460) hb); replace HO463 := Aside0.mk (Kd.R_below (rz HO463) hb); replace HO467 := Aside0.mk (Kd.R_below (rz HO467) hb); replace HO470 := Aside0.mk (Kd.R_below (rz HO470) hb); replace HO474 := Aside0.mk (Kd.R_below (rz HO474) hb); replace HO477 := Aside0.mk (Kd.R_below (rz HO477) hb); replace BK456 := kb BK456 hb; replace HB := bp hb; clear hb; obtain ⟨hcz47_0, hcz47_1, hcz47_2, hcz47_3, hfz47_0, hfz47_1, hfz47_2, hfz47_3⟩ := xc4 BK456))
          (try simp only [Act.put, List.setIfInBounds_toArray, List.set_cons_zero, List.set_cons_succ])
          go_cut [69] (fun v69 wc => ∃ (kq : Nat) (x69_33 : Bool), v69 = .bool x69_33 ∧ Aside0 (dioramaref10_Faster.j2 kq l0 a1 a2 a3 a4 t479 x13_2 x14_2 x69_33 t478 ((rd_T77 l0 x14_2).f1) ((rd_T77 l0 x14_2).f2) ((rd_T77 l0 x14_2).f3) = some (r1, r2)) ∧ Aside0 (kq ≤ k2) ∧ Aside0 (Kd.R k77 77 wc w.heap.size (fun k_ => k_ ≠ gb456) u13 x13_2) ∧ Aside0 (wc.heap[gb456]? = some (.cells #[.int .i64 t478, .int .i64 ((rd_T77 l0 x14_2).f1), .int .i64 ((rd_T77 l0 x14_2).f2), .int .i64 ((rd_T77 l0 x14_2).f3)] 77 (0, 0))) ∧ Aside0 (Below w.heap.size w wc))
          case first =>
           have H := HC34.out; clear HC34; obtain ⟨t480, A48, H⟩ := ob H
           by_cases c49 : t480 = true
           ·subst c49; rw [if_pos rfl] at H; have H' := Aside0.mk H; clear H; obtain ⟨hcz50_0, hcz50_1, hcz50_2, hcz50_3, hfz50_0, hfz50_1, hfz50_2, hfz50_3⟩ := xc4 BK456
            go_wp2_with (first | ((with_reducible refine gate_callee (f := 74) rfl ?_); refine zC 63 Try.func74 #[.agg #[.int .i64 t478, .int .i64 ((rd_T77 l0 x14_2).f1), .int .i64 ((rd_T77 l0 x14_2).f2), .int .i64 ((rd_T77 l0 x14_2).f3)]] ?_; (with_reducible refine (dioramaref10_isEmpty.calls t478 ((rd_T77 l0 x14_2).f1) ((rd_T77 l0 x14_2).f2) ((rd_T77 l0 x14_2).f3) true _ A48.out).mono ?_); rintro e w51 ⟨rfl, hb⟩; refine ⟨_, rfl, ?_⟩; replace HO_13 := Aside0.mk (Kd.R_below (by (with_reducible repeat (first | apply Kd.R_alloc | apply Kd.R_drewN | apply Kd.R_drew)); exact (Kd.R_mono (Kd.R_far (p := ⟨gb456, 0, none⟩) (Kd.R_mono HO_13.out (fun k_ hk => (⟨hk, hk.2⟩ : _ ∧ k_ ≠ gb456))) (fun _ hk => hk.2) (.int .i64 t478)) (fun _ h_ => h_.1))) hb); replace HO460 := Aside0.mk (Kd.R_below (by (with_reducible repeat (first | apply Kd.R_alloc | apply Kd.R_drewN | apply Kd.R_drew)); exact (Kd.R_mono (Kd.R_far (p := ⟨gb456, 0, none⟩) (Kd.R_types HO460.out BK456.out (by decide)) (fun _ hk => hk.2) (.int .i64 t478)) (fun _ h_ => h_.1))) hb); replace HO463 := Aside0.mk (Kd.R_below (by (with_reducible repeat (first | apply Kd.R_alloc | apply Kd.R_drewN | apply Kd.R_drew)); exact (Kd.R_mono (Kd.R_far (p := ⟨gb456, 0, none⟩) (Kd.R_types HO463.out BK456.out (by decide)) (fun _ hk => hk.2) (.int .i64 t478)) (fun _ h_ => h_.1))) hb); replace HO467 := Aside0.mk (Kd.R_below (by (with_reducible repeat (first | apply Kd.R_alloc | apply Kd.R_drewN | apply Kd.R_drew)); exact (Kd.R_mono (Kd.R_far (p := ⟨gb456, 0, none⟩) (Kd.R_types HO467.out BK456.out (by decide)) (fun _ hk => hk.2) (.int .i64 t478)) (fun _ h_ => h_.1))) hb); replace HO470 := Aside0.mk (Kd.R_below (by (with_reducible repeat (first | apply Kd.R_alloc | apply Kd.R_drewN | apply Kd.R_drew)); exact (Kd.R_mono (Kd.R_far (p := ⟨gb456, 0, none⟩) (Kd.R_types HO470.out BK456.out (by decide)) (fun _ hk => hk.2) (.int .i64 t478)) (fun _ h_ => h_.1))) hb); replace HO474 := Aside0.mk (Kd.R_below (by (with_reducible repeat (first | apply Kd.R_alloc | apply Kd.R_drewN | apply Kd.R_drew)); exact (Kd.R_mono (Kd.R_far (p := ⟨gb456, 0, none⟩) (Kd.R_types HO474.out BK456.out (by decide)) (fun _ hk => hk.2) (.int .i64 t478)) (fun _ h_ => h_.1))) hb); replace HO477 := Aside0.mk (Kd.R_below (by (with_reducible repeat (first | apply Kd.R_alloc | apply Kd.R_drewN | apply Kd.R_drew)); exact (Kd.R_mono (Kd.R_far (p := ⟨gb456, 0, none⟩) (Kd.R_types HO477.out BK456.out (by decide)) (fun _ hk => hk.2) (.int .i64 t478)) (fun _ h_ => h_.1))) hb); replace BK456 := Aside0.mk (blk_below (g := gb456) (o := .cells #[.int .i64 t478, .int .i64 ((rd_T77 l0 x14_2).f1), .int .i64 ((rd_T77 l0 x14_2).f2), .int .i64 ((rd_T77 l0 x14_2).f3)] 77 (0, 0)) (by (with_reducible repeat (first | refine blk_drewN ?_ _ | refine blk_drew ?_ | refine blk_alloc ?_ _)); refine blk_put (cs := #[.int .i64 ((rd_T77 l0 x14_2).f0), .int .i64 ((rd_T77 l0 x14_2).f1), .int .i64 ((rd_T77 l0 x14_2).f2), .int .i64 ((rd_T77 l0 x14_2).f3)]) ?_ 0 _ rfl; (with_reducible repeat (first | refine blk_drewN ?_ _ | refine blk_drew ?_ | refine blk_alloc ?_ _)); exact BK456.out) hb); replace HB := bp hb; clear hb))
            go_meet
            case rel => exact ⟨_, (false), jz, H', ⟨by have := HJ7.out; have := HK2.out; first | omega | exact Nat.le_refl _⟩, ⟨by (with_reducible repeat (first | apply Kd.R_alloc | apply Kd.R_drewN | apply Kd.R_drew)); exact Kd.R_mono HO_13.out (fun _ hk => hk.2)⟩, ⟨kz⟩, ⟨bz⟩⟩
           ·obtain rfl := bf c49; rw [if_neg (show ¬ (false = true) by decide)] at H; have H' := Aside0.mk H; clear H; obtain ⟨hcz52_0, hcz52_1, hcz52_2, hcz52_3, hfz52_0, hfz52_1, hfz52_2, hfz52_3⟩ := xc4 BK456
            go_wp2_with (first | ((with_reducible refine gate_callee (f := 74) rfl ?_); refine zC 63 Try.func74 #[.agg #[.int .i64 t478, .int .i64 ((rd_T77 l0 x14_2).f1), .int .i64 ((rd_T77 l0 x14_2).f2), .int .i64 ((rd_T77 l0 x14_2).f3)]] ?_; (with_reducible refine (dioramaref10_isEmpty.calls t478 ((rd_T77 l0 x14_2).f1) ((rd_T77 l0 x14_2).f2) ((rd_T77 l0 x14_2).f3) false _ A48.out).mono ?_); rintro e w53 ⟨rfl, hb⟩; refine ⟨_, rfl, ?_⟩; replace HO_13 := Aside0.mk (Kd.R_below (by (with_reducible repeat (first | apply Kd.R_alloc | apply Kd.R_drewN | apply Kd.R_drew)); exact (Kd.R_mono (Kd.R_far (p := ⟨gb456, 0, none⟩) (Kd.R_mono HO_13.out (fun k_ hk => (⟨hk, hk.2⟩ : _ ∧ k_ ≠ gb456))) (fun _ hk => hk.2) (.int .i64 t478)) (fun _ h_ => h_.1))) hb); replace HO460 := Aside0.mk (Kd.R_below (by (with_reducible repeat (first | apply Kd.R_alloc | apply Kd.R_drewN | apply Kd.R_drew)); exact (Kd.R_mono (Kd.R_far (p := ⟨gb456, 0, none⟩) (Kd.R_types HO460.out BK456.out (by decide)) (fun _ hk => hk.2) (.int .i64 t478)) (fun _ h_ => h_.1))) hb); replace HO463 := Aside0.mk (Kd.R_below (by (with_reducible repeat (first | apply Kd.R_alloc | apply Kd.R_drewN | apply Kd.R_drew)); exact (Kd.R_mono (Kd.R_far (p := ⟨gb456, 0, none⟩) (Kd.R_types HO463.out BK456.out (by decide)) (fun _ hk => hk.2) (.int .i64 t478)) (fun _ h_ => h_.1))) hb); replace HO467 := Aside0.mk (Kd.R_below (by (with_reducible repeat (first | apply Kd.R_alloc | apply Kd.R_drewN | apply Kd.R_drew)); exact (Kd.R_mono (Kd.R_far (p := ⟨gb456, 0, none⟩) (Kd.R_types HO467.out BK456.out (by decide)) (fun _ hk => hk.2) (.int .i64 t478)) (fun _ h_ => h_.1))) hb); replace HO470 := Aside0.mk (Kd.R_below (by (with_reducible repeat (first | apply Kd.R_alloc | apply Kd.R_drewN | apply Kd.R_drew)); exact (Kd.R_mono (Kd.R_far (p := ⟨gb456, 0, none⟩) (Kd.R_types HO470.out BK456.out (by decide)) (fun _ hk => hk.2) (.int .i64 t478)) (fun _ h_ => h_.1))) hb); replace HO474 := Aside0.mk (Kd.R_below (by (with_reducible repeat (first | apply Kd.R_alloc | apply Kd.R_drewN | apply Kd.R_drew)); exact (Kd.R_mono (Kd.R_far (p := ⟨gb456, 0, none⟩) (Kd.R_types HO474.out BK456.out (by decide)) (fun _ hk => hk.2) (.int .i64 t478)) (fun _ h_ => h_.1))) hb); replace HO477 := Aside0.mk (Kd.R_below (by (with_reducible repeat (first | apply Kd.R_alloc | apply Kd.R_drewN | apply Kd.R_drew)); exact (Kd.R_mono (Kd.R_far (p := ⟨gb456, 0, none⟩) (Kd.R_types HO477.out BK456.out (by decide)) (fun _ hk => hk.2) (.int .i64 t478)) (fun _ h_ => h_.1))) hb); replace BK456 := Aside0.mk (blk_below (g := gb456) (o := .cells #[.int .i64 t478, .int .i64 ((rd_T77 l0 x14_2).f1), .int .i64 ((rd_T77 l0 x14_2).f2), .int .i64 ((rd_T77 l0 x14_2).f3)] 77 (0, 0)) (by (with_reducible repeat (first | refine blk_drewN ?_ _ | refine blk_drew ?_ | refine blk_alloc ?_ _)); refine blk_put (cs := #[.int .i64 ((rd_T77 l0 x14_2).f0), .int .i64 ((rd_T77 l0 x14_2).f1), .int .i64 ((rd_T77 l0 x14_2).f2), .int .i64 ((rd_T77 l0 x14_2).f3)]) ?_ 0 _ rfl; (with_reducible repeat (first | refine blk_drewN ?_ _ | refine blk_drew ?_ | refine blk_alloc ?_ _)); exact BK456.out) hb); replace HB := bp hb; clear hb; obtain ⟨hcz54_0, hcz54_1, hcz54_2, hcz54_3, hfz54_0, hfz54_1, hfz54_2, hfz54_3⟩ := xc4 BK456))
            go_meet
            case rel => exact ⟨_, (decide (((rd_T77 l0 x14_2).f2) > 0)), jz, H', ⟨by have := HJ7.out; have := HK2.out; first | omega | exact Nat.le_refl _⟩, ⟨by (with_reducible repeat (first | apply Kd.R_alloc | apply Kd.R_drewN | apply Kd.R_drew)); exact Kd.R_mono HO_13.out (fun _ hk => hk.2)⟩, ⟨kz⟩, ⟨bz⟩⟩
          case rest =>
           clear HC34
           try clear c1
           try clear c2
           try clear p2
           try clear c4
           try clear p4
           try clear q4
           try clear hx4
           try clear c6
           try clear c7
           try clear c7b0
           try clear c7b1
           try clear c10
           try clear c10b0
           try clear c11
           try clear c11b0
           try clear c12
           try clear c12b0
           try clear c13
           try clear c14
           try clear c14b0
           try clear c15
           try clear c15b0
           try clear c20
           try clear c20b0
           try clear c20b1
           try clear c25
           try clear c29
           try clear p45
           try clear q45
           try clear hx45
           try clear c49
           try clear hcz22_0
           try clear hcz22_1
           try clear hcz22_2
           try clear hcz22_3
           try clear hcz33_0
           try clear hcz33_1
           try clear hcz33_2
           try clear hcz33_3
           try clear hcz36_0
           try clear hcz36_1
           try clear hcz36_2
           try clear hcz36_3
           try clear hcz47_0
           try clear hcz47_1
           try clear hcz47_2
           try clear hcz47_3
           try clear hcz50_0
           try clear hcz50_1
           try clear hcz50_2
           try clear hcz50_3
           try clear hcz52_0
           try clear hcz52_1
           try clear hcz52_2
           try clear hcz52_3
           try clear hcz54_0
           try clear hcz54_1
           try clear hcz54_2
           try clear hcz54_3
           try clear hfz22_0
           try clear hfz22_1
           try clear hfz22_2
           try clear hfz22_3
           try clear hfz33_0
           try clear hfz33_1
           try clear hfz33_2
           try clear hfz33_3
           try clear hfz36_0
           try clear hfz36_1
           try clear hfz36_2
           try clear hfz36_3
           try clear hfz47_0
           try clear hfz47_1
           try clear hfz47_2
           try clear hfz47_3
           try clear hfz50_0
           try clear hfz50_1
           try clear hfz50_2
           try clear hfz50_3
           try clear hfz52_0
           try clear hfz52_1
           try clear hfz52_2
           try clear hfz52_3
           try clear hfz54_0
           try clear hfz54_1
           try clear hfz54_2
           try clear hfz54_3
           try clear hx455_0
           try clear hx455_1
           try clear hx455_2
           try clear hx455_3
           try clear p2
           try clear p455
           try clear q455
           obtain ⟨kq, x69_33, rfl, HA, HJ33, HO_13, BK456, HB⟩ := hcut
           cases kq with
           | zero => exact absurd HA.out (by simp [dioramaref10_Faster.j2])
           | succ kj33 =>
            have H := HA.out; clear HA; simp only [dioramaref10_Faster.j2] at H
            by_cases c55 : x69_33 = true
            ·subst c55; rw [if_pos rfl] at H; obtain ⟨⟨t481, t482, t483, t484⟩, A56, H⟩ := ob H
             (try dsimp only at H)
             have HC57 := Aside0.mk H; clear H; obtain ⟨hcz58_0, hcz58_1, hcz58_2, hcz58_3, hfz58_0, hfz58_1, hfz58_2, hfz58_3⟩ := xc4 BK456
             go_upto_region 18 with (first | ((with_reducible refine gate_callee (f := 75) rfl ?_); refine zC 81 Try.func75 #[.agg #[.int .i64 t478, .int .i64 ((rd_T77 l0 x14_2).f1), .int .i64 (wrap64 (((rd_T77 l0 x14_2).f2) * a3)), .int .i64 (wrap64 (((rd_T77 l0 x14_2).f3) * a4))]] ?_; (with_reducible refine (dioramaref10_lowest.calls t478 ((rd_T77 l0 x14_2).f1) (wrap64 (((rd_T77 l0 x14_2).f2) * a3)) (wrap64 (((rd_T77 l0 x14_2).f3) * a4)) t481 t482 t483 t484 _ A56.out).mono ?_); rintro e w59 ⟨rfl, hb⟩; refine ⟨_, rfl, ?_⟩; replace HO_13 := Aside0.mk (Kd.R_below (by (with_reducible repeat (first | apply Kd.R_alloc | apply Kd.R_drewN | apply Kd.R_drew)); exact (Kd.R_mono (Kd.R_far (p := ⟨gb456, 3, none⟩) (Kd.R_far (p := ⟨gb456, 2, none⟩) (Kd.R_mono HO_13.out (fun k_ hk => (⟨hk, hk⟩ : _ ∧ k_ ≠ gb456))) (fun _ hk => hk.2) (.int .i64 (wrap64 (((rd_T77 l0 x14_2).f2) * a3)))) (fun _ hk => hk.2) (.int .i64 (wrap64 (((rd_T77 l0 x14_2).f3) * a4)))) (fun _ h_ => h_.1))) hb); replace BK456 := Aside0.mk (blk_below (g := gb456) (o := .cells #[.int .i64 t478, .int .i64 ((rd_T77 l0 x14_2).f1), .int .i64 (wrap64 (((rd_T77 l0 x14_2).f2) * a3)), .int .i64 (wrap64 (((rd_T77 l0 x14_2).f3) * a4))] 77 (0, 0)) (by (with_reducible repeat (first | refine blk_drewN ?_ _ | refine blk_drew ?_ | refine blk_alloc ?_ _)); refine blk_put (cs := #[.int .i64 t478, .int .i64 ((rd_T77 l0 x14_2).f1), .int .i64 (wrap64 (((rd_T77 l0 x14_2).f2) * a3)), .int .i64 ((rd_T77 l0 x14_2).f3)]) ?_ 3 _ rfl; (with_reducible repeat (first | refine blk_drewN ?_ _ | refine blk_drew ?_ | refine blk_alloc ?_ _)); refine blk_put (cs := #[.int .i64 t478, .int .i64 ((rd_T77 l0 x14_2).f1), .int .i64 ((rd_T77 l0 x14_2).f2), .int .i64 ((rd_T77 l0 x14_2).f3)]) ?_ 2 _ rfl; (with_reducible repeat (first | refine blk_drewN ?_ _ | refine blk_drew ?_ | refine blk_alloc ?_ _)); exact BK456.out) hb); replace HB := bp hb; clear hb; obtain ⟨hcz60_0, hcz60_1, hcz60_2, hcz60_3, hfz60_0, hfz60_1, hfz60_2, hfz60_3⟩ := xc4 BK456))
             (try simp only [Act.put, List.setIfInBounds_toArray, List.set_cons_zero, List.set_cons_succ])
             go_cut [89] (fun v89 wc => ∃ (kq : Nat) (x89_56 : Bool), v89 = .bool x89_56 ∧ Aside0 (dioramaref10_Faster.j3 kq l0 a1 a2 a3 a4 t479 x13_2 x14_2 x89_56 t481 t482 t483 t484 = some (r1, r2)) ∧ Aside0 (kq ≤ kj33) ∧ Aside0 (Kd.R k77 77 wc w.heap.size (fun k_ => k_ ≠ gb456) u13 x13_2) ∧ Aside0 (wc.heap[gb456]? = some (.cells #[.int .i64 t481, .int .i64 t482, .int .i64 t483, .int .i64 t484] 77 (0, 0))) ∧ Aside0 (Below w.heap.size w wc))
             case first =>
              have H := HC57.out; clear HC57
              by_cases c61 : t483 > 1000
              ·rw [if_pos c61] at H; have c61b0 : decide (1000 < t483) = true := decide_eq_true c61; clear c61
               (first | rw [c61b0] | (simp only [i64_w, i32_w]; rw [c61b0]) | skip)
               have H' := Aside0.mk H; clear H; obtain ⟨hcz62_0, hcz62_1, hcz62_2, hcz62_3, hfz62_0, hfz62_1, hfz62_2, hfz62_3⟩ := xc4 BK456
               go_wp2
               go_meet
               case rel => exact ⟨_, (true), jz, H', ⟨by have := HJ7.out; have := HK2.out; have := HJ33.out; first | omega | exact Nat.le_refl _⟩, ⟨by (with_reducible repeat (first | apply Kd.R_alloc | apply Kd.R_drewN | apply Kd.R_drew)); exact Kd.R_mono (Kd.R_far (p := ⟨gb456, 3, none⟩) (Kd.R_far (p := ⟨gb456, 2, none⟩) (Kd.R_far (p := ⟨gb456, 1, none⟩) (Kd.R_far (p := ⟨gb456, 0, none⟩) (Kd.R_mono HO_13.out (fun k_ hk => (⟨hk, hk⟩ : _ ∧ k_ ≠ gb456))) (fun _ hk => hk.2) (.int .i64 t481)) (fun _ hk => hk.2) (.int .i64 t482)) (fun _ hk => hk.2) (.int .i64 t483)) (fun _ hk => hk.2) (.int .i64 t484)) (fun _ hk => hk.1)⟩, ⟨by (with_reducible repeat (first | refine blk_drewN ?_ _ | refine blk_drew ?_ | refine blk_alloc ?_ _)); refine blk_put (cs := #[.int .i64 t481, .int .i64 t482, .int .i64 t483, .int .i64 (wrap64 (((rd_T77 l0 x14_2).f3) * a4))]) ?_ 3 _ rfl; (with_reducible repeat (first | refine blk_drewN ?_ _ | refine blk_drew ?_ | refine blk_alloc ?_ _)); refine blk_put (cs := #[.int .i64 t481, .int .i64 t482, .int .i64 (wrap64 (((rd_T77 l0 x14_2).f2) * a3)), .int .i64 (wrap64 (((rd_T77 l0 x14_2).f3) * a4))]) ?_ 2 _ rfl; (with_reducible repeat (first | refine blk_drewN ?_ _ | refine blk_drew ?_ | refine blk_alloc ?_ _)); refine blk_put (cs := #[.int .i64 t481, .int .i64 ((rd_T77 l0 x14_2).f1), .int .i64 (wrap64 (((rd_T77 l0 x14_2).f2) * a3)), .int .i64 (wrap64 (((rd_T77 l0 x14_2).f3) * a4))]) ?_ 1 _ rfl; (with_reducible repeat (first | refine blk_drewN ?_ _ | refine blk_drew ?_ | refine blk_alloc ?_ _)); refine blk_put (cs := #[.int .i64 t478, .int .i64 ((rd_T77 l0 x14_2).f1), .int .i64 (wrap64 (((rd_T77 l0 x14_2).f2) * a3)), .int .i64 (wrap64 (((rd_T77 l0 x14_2).f3) * a4))]) ?_ 0 _ rfl; (with_reducible repeat (first | refine blk_drewN ?_ _ | refine blk_drew ?_ | refine blk_alloc ?_ _)); exact BK456.out⟩, ⟨bz⟩⟩
              ·rw [if_neg c61] at H; have c61b0 : decide (1000 < t483) = false := decide_eq_false c61; clear c61
               (first | rw [c61b0] | (simp only [i64_w, i32_w]; rw [c61b0]) | skip)
               have H' := Aside0.mk H; clear H; obtain ⟨hcz63_0, hcz63_1, hcz63_2, hcz63_3, hfz63_0, hfz63_1, hfz63_2, hfz63_3⟩ := xc4 BK456
               go_wp2
               go_meet
               case rel => exact ⟨_, (decide (t484 > 1000)), jz, H', ⟨by have := HJ7.out; have := HK2.out; have := HJ33.out; first | omega | exact Nat.le_refl _⟩, ⟨by (with_reducible repeat (first | apply Kd.R_alloc | apply Kd.R_drewN | apply Kd.R_drew)); exact Kd.R_mono (Kd.R_far (p := ⟨gb456, 3, none⟩) (Kd.R_far (p := ⟨gb456, 2, none⟩) (Kd.R_far (p := ⟨gb456, 1, none⟩) (Kd.R_far (p := ⟨gb456, 0, none⟩) (Kd.R_mono HO_13.out (fun k_ hk => (⟨hk, hk⟩ : _ ∧ k_ ≠ gb456))) (fun _ hk => hk.2) (.int .i64 t481)) (fun _ hk => hk.2) (.int .i64 t482)) (fun _ hk => hk.2) (.int .i64 t483)) (fun _ hk => hk.2) (.int .i64 t484)) (fun _ hk => hk.1)⟩, ⟨by (with_reducible repeat (first | refine blk_drewN ?_ _ | refine blk_drew ?_ | refine blk_alloc ?_ _)); refine blk_put (cs := #[.int .i64 t481, .int .i64 t482, .int .i64 t483, .int .i64 (wrap64 (((rd_T77 l0 x14_2).f3) * a4))]) ?_ 3 _ rfl; (with_reducible repeat (first | refine blk_drewN ?_ _ | refine blk_drew ?_ | refine blk_alloc ?_ _)); refine blk_put (cs := #[.int .i64 t481, .int .i64 t482, .int .i64 (wrap64 (((rd_T77 l0 x14_2).f2) * a3)), .int .i64 (wrap64 (((rd_T77 l0 x14_2).f3) * a4))]) ?_ 2 _ rfl; (with_reducible repeat (first | refine blk_drewN ?_ _ | refine blk_drew ?_ | refine blk_alloc ?_ _)); refine blk_put (cs := #[.int .i64 t481, .int .i64 ((rd_T77 l0 x14_2).f1), .int .i64 (wrap64 (((rd_T77 l0 x14_2).f2) * a3)), .int .i64 (wrap64 (((rd_T77 l0 x14_2).f3) * a4))]) ?_ 1 _ rfl; (with_reducible repeat (first | refine blk_drewN ?_ _ | refine blk_drew ?_ | refine blk_alloc ?_ _)); refine blk_put (cs := #[.int .i64 t478, .int .i64 ((rd_T77 l0 x14_2).f1), .int .i64 (wrap64 (((rd_T77 l0 x14_2).f2) * a3)), .int .i64 (wrap64 (((rd_T77 l0 x14_2).f3) * a4))]) ?_ 0 _ rfl; (with_reducible repeat (first | refine blk_drewN ?_ _ | refine blk_drew ?_ | refine blk_alloc ?_ _)); exact BK456.out⟩, ⟨bz⟩⟩
             case rest =>
              clear HC57
              try clear c1
              try clear c2
              try clear p2
              try clear c4
              try clear p4
              try clear q4
              try clear hx4
              try clear c5
              try clear c6
              try clear p6
              try clear c7
              try clear c7b0
              try clear c7b1
              try clear c10
              try clear c10b0
              try clear c11
              try clear c11b0
              try clear c12
              try clear c12b0
              try clear c13
              try clear c14
              try clear c14b0
              try clear c15
              try clear c15b0
              try clear c20
              try clear c20b0
              try clear c20b1
              try clear c25
              try clear c29
              try clear p45
              try clear q45
              try clear hx45
              try clear c49
              try clear c55
              try clear c61
              try clear c61b0
              try clear hcz22_0
              try clear hcz22_1
              try clear hcz22_2
              try clear hcz22_3
              try clear hcz33_0
              try clear hcz33_1
              try clear hcz33_2
              try clear hcz33_3
              try clear hcz36_0
              try clear hcz36_1
              try clear hcz36_2
              try clear hcz36_3
              try clear hcz47_0
              try clear hcz47_1
              try clear hcz47_2
              try clear hcz47_3
              try clear hcz50_0
              try clear hcz50_1
              try clear hcz50_2
              try clear hcz50_3
              try clear hcz52_0
              try clear hcz52_1
              try clear hcz52_2
              try clear hcz52_3
              try clear hcz54_0
              try clear hcz54_1
              try clear hcz54_2
              try clear hcz54_3
              try clear hcz58_0
              try clear hcz58_1
              try clear hcz58_2
              try clear hcz58_3
              try clear hcz60_0
              try clear hcz60_1
              try clear hcz60_2
              try clear hcz60_3
              try clear hcz62_0
              try clear hcz62_1
              try clear hcz62_2
              try clear hcz62_3
              try clear hcz63_0
              try clear hcz63_1
              try clear hcz63_2
              try clear hcz63_3
              try clear hfz22_0
              try clear hfz22_1
              try clear hfz22_2
              try clear hfz22_3
              try clear hfz33_0
              try clear hfz33_1
              try clear hfz33_2
              try clear hfz33_3
              try clear hfz36_0
              try clear hfz36_1
              try clear hfz36_2
              try clear hfz36_3
              try clear hfz47_0
              try clear hfz47_1
              try clear hfz47_2
              try clear hfz47_3
              try clear hfz50_0
              try clear hfz50_1
              try clear hfz50_2
              try clear hfz50_3
              try clear hfz52_0
              try clear hfz52_1
              try clear hfz52_2
              try clear hfz52_3
              try clear hfz54_0
              try clear hfz54_1
              try clear hfz54_2
              try clear hfz54_3
              try clear hfz58_0
              try clear hfz58_1
              try clear hfz58_2
              try clear hfz58_3
              try clear hfz60_0
              try clear hfz60_1
              try clear hfz60_2
              try clear hfz60_3
              try clear hfz62_0
              try clear hfz62_1
              try clear hfz62_2
              try clear hfz62_3
              try clear hfz63_0
              try clear hfz63_1
              try clear hfz63_2
              try clear hfz63_3
              try clear hx455_0
              try clear hx455_1
              try clear hx455_2
              try clear hx455_3
              try clear p2
              try clear p4
              try clear p45
              try clear p455
              try clear q4
              try clear q45
              try clear q455
              obtain ⟨kq, x89_56, rfl, HA, HJ56, HO_13, BK456, HB⟩ := hcut
              cases kq with
              | zero => exact absurd HA.out (by simp [dioramaref10_Faster.j3])
              | succ kj56 =>
               have H := HA.out; clear HA; simp only [dioramaref10_Faster.j3] at H
               by_cases c64 : x89_56 = true
               ·subst c64; rw [if_pos rfl] at H; simp only [Option.some.injEq, Prod.mk.injEq] at H; obtain ⟨rfl, rfl⟩ := H
                go_wp2
                go_ret2
                exact ⟨_, ez, by first | exact Kd.R_nil _ _ _ _ _ | exact Kd.N_nil _ _ _ _ _ | exact Kd.V_nil _ _ _ _ _ | exact Kd.Q_nil _ _ _ _ _ | exact Kd.S_nil _ _ _ _ _, bz⟩
               ·obtain rfl := bf c64; rw [if_neg (show ¬ (false = true) by decide)] at H
                by_cases c65 : t479 = 0
                ·rw [if_pos c65] at H; have c65b0 : (t479 == 0) = true := beq_iff_eq.mpr c65; have c65b1 : (t479 != 0) = false := bne_eq_false_iff_eq.mpr c65; clear c65
                 by_cases c66 : x13_2.length < 4398046511104
                 ·rw [if_pos c66] at H; have LMc66 := Aside0.mk c66; clear c66; obtain ⟨y485, hy485⟩ : ∃ y_ : List (S77), y_ = (x13_2 ++ [(⟨t481, t482, t483, t484⟩ : S77)]) := ⟨_, rfl⟩; replace H : (dioramaref10_Faster.l0 kj56 l0 a1 a2 a3 a4 y485 (wrap64 (x14_2 + 1))) = some (r1, r2) := by first | (rw [hy485]; with_reducible exact H) | (have H2_ := (Option.bind_some _ _).symm.trans H; rw [hy485]; with_reducible exact H2_) | (have H2_ := (Option.bind_some _ _).symm.trans H; with_reducible exact H2_) | with_reducible exact H | (rw [hy485]; exact H) | exact H
                  have Ny485 := Aside0.mk hy485; clear hy485; have H' := Aside0.mk H; clear H; obtain ⟨hcz67_0, hcz67_1, hcz67_2, hcz67_3, hfz67_0, hfz67_1, hfz67_2, hfz67_3⟩ := xc4 BK456
                  go_wp2_with (first | ((with_reducible refine gate_builtin (b := .append) (xs := #[.tmp 93, .tmp 95]) rfl ?_); at_builtin; refine Kd.R_append k77 (w0 := w) w.heap.size rfl (.tmp 93) (.tmp 95) 22 77 (.agg #[(.int .i64 0), (.int .i64 0), (.int .i64 0), (.int .i64 0)]) 32 rfl Try.underlying22 info77 rfl (by decide) (by omega) u13 x13_2 (⟨t481, t482, t483, t484⟩ : S77) [.int .i64 t481, .int .i64 t482, .int .i64 t483, .int .i64 t484] (fun k_ => k_ ≠ gb456) (fun _ => False) rfl rfl ?aP (fun _ hk => hk.elim) ?aF ?aO ?aB ?aS ?aL ?_; (case aP => exact k77_mkM _ _ _ (⟨t481, t482, t483, t484⟩ : S77)); (case aB => exact bz); (case aF => exact (fun k_ hk => Kd.freshB (g := gb456) (o := .cells #[.int .i64 t481, .int .i64 t482, .int .i64 t483, .int .i64 t484] 77 (0, 0)) kz k_ hk)); (case aO => exact (rz HO_13)); (case aS => exact sz); (case aL => have := LMc66.out; omega); intro v486 w68 ho hb hg hat; rw [← Ny485.out] at ho; replace BK456 := Aside0.mk (blk_grown (g := gb456) (o := .cells #[.int .i64 t481, .int .i64 t482, .int .i64 t483, .int .i64 t484] 77 (0, 0)) kz hg (Kd.R_away HO_13.out (fun _ hk => hk))); replace HB := Aside0.mk (hb); have HO487 := Aside0.mk (ho); clear HO_13; clear ho hb hg hat))
                  go_roundg kj56
                  case measure => have := HJ7.out; have := HK2.out; have := HJ33.out; have := HJ56.out; omega
                  case rel => exact ⟨(y485), (wrap64 (x14_2 + 1)), jz, H', ⟨by have := HJ7.out; have := HK2.out; have := HJ33.out; have := HJ56.out; omega⟩, ⟨by (with_reducible repeat (first | apply Kd.R_alloc | apply Kd.R_drewN | apply Kd.R_drew)); exact Kd.R_mono HO487.out (fun _ hk => trivial)⟩, ⟨bz⟩⟩
                 ·rw [if_neg c66] at H
                  exact absurd H (by simp)
                ·rw [if_neg c65] at H; have c65b0 : (t479 == 0) = false := beq_eq_false_iff_ne.mpr c65; have c65b1 : (t479 != 0) = true := bne_iff_ne.mpr c65; simp only [Option.some.injEq, Prod.mk.injEq] at H; obtain ⟨rfl, rfl⟩ := H
                 go_wp2
                 go_ret2
                 exact ⟨_, ez, by first | exact Kd.R_nil _ _ _ _ _ | exact Kd.N_nil _ _ _ _ _ | exact Kd.V_nil _ _ _ _ _ | exact Kd.Q_nil _ _ _ _ _ | exact Kd.S_nil _ _ _ _ _, bz⟩
            ·obtain rfl := bf c55; rw [if_neg (show ¬ (false = true) by decide)] at H
             by_cases c69 : t479 = 0
             ·rw [if_pos c69] at H; have c69b0 : (t479 == 0) = true := beq_iff_eq.mpr c69; have c69b1 : (t479 != 0) = false := bne_eq_false_iff_eq.mpr c69; clear c69
              by_cases c70 : x13_2.length < 4398046511104
              ·rw [if_pos c70] at H; have LMc70 := Aside0.mk c70; clear c70; obtain ⟨y488, hy488⟩ : ∃ y_ : List (S77), y_ = (x13_2 ++ [(⟨t478, ((rd_T77 l0 x14_2).f1), ((rd_T77 l0 x14_2).f2), ((rd_T77 l0 x14_2).f3)⟩ : S77)]) := ⟨_, rfl⟩; replace H : (dioramaref10_Faster.l0 kj33 l0 a1 a2 a3 a4 y488 (wrap64 (x14_2 + 1))) = some (r1, r2) := by first | (rw [hy488]; with_reducible exact H) | (have H2_ := (Option.bind_some _ _).symm.trans H; rw [hy488]; with_reducible exact H2_) | (have H2_ := (Option.bind_some _ _).symm.trans H; with_reducible exact H2_) | with_reducible exact H | (rw [hy488]; exact H) | exact H
               have Ny488 := Aside0.mk hy488; clear hy488; have H' := Aside0.mk H; clear H; obtain ⟨hcz71_0, hcz71_1, hcz71_2, hcz71_3, hfz71_0, hfz71_1, hfz71_2, hfz71_3⟩ := xc4 BK456
               go_wp2_with (first | ((with_reducible refine gate_builtin (b := .append) (xs := #[.tmp 93, .tmp 95]) rfl ?_); at_builtin; refine Kd.R_append k77 (w0 := w) w.heap.size rfl (.tmp 93) (.tmp 95) 22 77 (.agg #[(.int .i64 0), (.int .i64 0), (.int .i64 0), (.int .i64 0)]) 32 rfl Try.underlying22 info77 rfl (by decide) (by omega) u13 x13_2 (⟨t478, ((rd_T77 l0 x14_2).f1), ((rd_T77 l0 x14_2).f2), ((rd_T77 l0 x14_2).f3)⟩ : S77) [.int .i64 t478, .int .i64 ((rd_T77 l0 x14_2).f1), .int .i64 ((rd_T77 l0 x14_2).f2), .int .i64 ((rd_T77 l0 x14_2).f3)] (fun k_ => k_ ≠ gb456) (fun _ => False) rfl rfl ?aP (fun _ hk => hk.elim) ?aF ?aO ?aB ?aS ?aL ?_; (case aP => exact k77_mkM _ _ _ (⟨t478, ((rd_T77 l0 x14_2).f1), ((rd_T77 l0 x14_2).f2), ((rd_T77 l0 x14_2).f3)⟩ : S77)); (case aB => exact bz); (case aF => exact (fun k_ hk => Kd.freshB (g := gb456) (o := .cells #[.int .i64 t478, .int .i64 ((rd_T77 l0 x14_2).f1), .int .i64 ((rd_T77 l0 x14_2).f2), .int .i64 ((rd_T77 l0 x14_2).f3)] 77 (0, 0)) kz k_ hk)); (case aO => exact (rz HO_13)); (case aS => exact sz); (case aL => have := LMc70.out; omega); intro v489 w72 ho hb hg hat; rw [← Ny488.out] at ho; replace BK456 := Aside0.mk (blk_grown (g := gb456) (o := .cells #[.int .i64 t478, .int .i64 ((rd_T77 l0 x14_2).f1), .int .i64 ((rd_T77 l0 x14_2).f2), .int .i64 ((rd_T77 l0 x14_2).f3)] 77 (0, 0)) kz hg (Kd.R_away HO_13.out (fun _ hk => hk))); replace HB := Aside0.mk (hb); have HO490 := Aside0.mk (ho); clear HO_13; clear ho hb hg hat))
               go_roundg kj33
               case measure => have := HJ7.out; have := HK2.out; have := HJ33.out; omega
               case rel => exact ⟨(y488), (wrap64 (x14_2 + 1)), jz, H', ⟨by have := HJ7.out; have := HK2.out; have := HJ33.out; omega⟩, ⟨by (with_reducible repeat (first | apply Kd.R_alloc | apply Kd.R_drewN | apply Kd.R_drew)); exact Kd.R_mono HO490.out (fun _ hk => trivial)⟩, ⟨bz⟩⟩
              ·rw [if_neg c70] at H
               exact absurd H (by simp)
             ·rw [if_neg c69] at H; have c69b0 : (t479 == 0) = false := beq_eq_false_iff_ne.mpr c69; have c69b1 : (t479 != 0) = true := bne_iff_ne.mpr c69; simp only [Option.some.injEq, Prod.mk.injEq] at H; obtain ⟨rfl, rfl⟩ := H
              go_wp2
              go_ret2
              exact ⟨_, ez, by first | exact Kd.R_nil _ _ _ _ _ | exact Kd.N_nil _ _ _ _ _ | exact Kd.V_nil _ _ _ _ _ | exact Kd.Q_nil _ _ _ _ _ | exact Kd.S_nil _ _ _ _ _, bz⟩
        ·rw [if_neg c15] at H
         exact absurd H (by simp)
       ·rw [if_neg c14] at H; have c14b0 : decide (x14_2 < (l0.length : Int)) = false := decide_eq_false c14; clear c14; obtain ⟨⟨t451, t452⟩, A73, H⟩ := ob H
        (try dsimp only at H)
        simp only [Option.some.injEq, Prod.mk.injEq] at H; obtain ⟨rfl, rfl⟩ := H; obtain ⟨Ao74, co74, eo74⟩ := Kd.R_slice HO_13.out; subst eo74
        go_wp2_with (first | ((with_reducible refine gate_callee (f := 58) rfl ?_); refine zC 100 Try.func58 #[.slice Ao74 x13_2.length co74, .int .i64 a1, .int .i64 a2] ?_; (with_reducible refine (dioramaref10_told.calls k2 _ _ x13_2 a1 a2 t451 t452 _ ?side1 ?side2 A73.out).mono ?_); (case side1 => exact cr HO_13); (case side2 => exact (Kd.R_reads' HO_13.out).2.1); rintro e w75 ⟨v453, rfl, ho0, hb⟩; refine ⟨_, rfl, ?_⟩; have HO454 := Aside0.mk (Kd.R_lower (Kd.R_new' ho0 (Kd.R_lt (rz HO_13))) sz); replace HO_13 := Aside0.mk (Kd.R_elder' (rz HO_13) (Kd.R_base ho0) hb); replace HB := bp hb; clear hb ho0))
        go_ret2
        exact ⟨_, ez, by (with_reducible repeat (first | apply Kd.R_alloc | apply Kd.R_drewN | apply Kd.R_drew)); exact Kd.R_mono HO454.out (fun _ hk => trivial), bz⟩
 ·rw [if_neg c7] at H; have c7b0 : (t450 == 0) = false := beq_eq_false_iff_ne.mpr c7; have c7b1 : (t450 != 0) = true := bne_iff_ne.mpr c7; simp only [Option.some.injEq, Prod.mk.injEq] at H; obtain ⟨rfl, rfl⟩ := H
  go_enter Try.func29, Try.ntmps29
  go_wp2_with (first | ((with_reducible refine gate_callee (f := 25) rfl ?_); refine zC 19 Try.func25 #[.slice A0 l0.length c0, .int .i64 a1, .int .i64 a2] ?_; (with_reducible refine (dioramaref10_Check.calls k _ _ l0 a1 a2 t450 _ ?side1 ?side2 A6.out).mono ?_); (case side1 => repeat (first | exact HR0.out | (with_reducible refine Kd.C_alloc ?_ _) | (with_reducible refine Kd.C_drewN ?_ _) | (with_reducible refine Kd.C_drew ?_))); (case side2 => exact HC0.out); rintro e w76 ⟨rfl, hb⟩; refine ⟨_, rfl, ?_⟩; replace HB := bp hb; clear hb))
  go_ret2
  exact ⟨_, ez, by first | exact Kd.R_nil _ _ _ _ _ | exact Kd.N_nil _ _ _ _ _ | exact Kd.V_nil _ _ _ _ _ | exact Kd.Q_nil _ _ _ _ _ | exact Kd.S_nil _ _ _ _ _, bz⟩
def dioramalaw10_EditFaster.f (k : Nat) (l0_0 : List (S77)) (a0_1 : Int) (a0_2 : Int) (a1 : Int) (a2 : Int) : Option (Bool) := (dioramalaw10_many.f l0_0).bind fun t492 => (if t492 = true then ((dioramalaw10_awake.f k).bind fun t493 => (some t493)) else ((edit_Faster.f k l0_0 a0_1 a0_2 a1 a2).bind fun bt494 => ((dioramaref10_Faster.f k l0_0 a0_1 a0_2 a1 a2).bind fun bt498 => ((dioramalaw10_eq.f k bt494.1 bt494.2 bt498.1 bt498.2).bind fun t502 => (if t502 = true then ((dioramalaw10_awake.f k).bind fun t503 => (some t503)) else (some false))))))
set_option maxHeartbeats 8000000 in
set_option maxRecDepth 100000 in
theorem dioramalaw10_EditFaster.calls (k : Nat) (A0_0 : Option Addr) (c0_0 : Nat) (l0_0 : List (S77)) (a0_1 : Int) (a0_2 : Int) (a1 : Int) (a2 : Int) (r : Bool) (w : World) (hr0_0 : Kd.C k77 w A0_0 l0_0.length l0_0) (hc0_0 : l0_0.length ≤ c0_0) (h : dioramalaw10_EditFaster.f k l0_0 a0_1 a0_2 a1 a2 = some r) :
  Calls Try.prog 4 #[.agg #[.slice A0_0 l0_0.length c0_0, .int .i64 a0_1, .int .i64 a0_2], .int .i64 a1, .int .i64 a2] w fun e w' => e = .returned (.bool r) ∧ Below w.heap.size w w' := by
 have hu24 := Try.underlying24; have HR0_0 := Aside0.mk hr0_0; have HC0_0 := Aside0.mk hc0_0; clear hr0_0 hc0_0; have HB := Aside0.mk (Below.refl w.heap.size w); have H : ((dioramalaw10_many.f l0_0).bind fun t492 => (if t492 = true then ((dioramalaw10_awake.f k).bind fun t493 => (some t493)) else ((edit_Faster.f k l0_0 a0_1 a0_2 a1 a2).bind fun bt494 => ((dioramaref10_Faster.f k l0_0 a0_1 a0_2 a1 a2).bind fun bt498 => ((dioramalaw10_eq.f k bt494.1 bt494.2 bt498.1 bt498.2).bind fun t502 => (if t502 = true then ((dioramalaw10_awake.f k).bind fun t503 => (some t503)) else (some false))))))) = some r := h
 clear h; obtain ⟨t492, A4, H⟩ := ob H
 by_cases c5 : t492 = true
 ·subst c5; rw [if_pos rfl] at H; obtain ⟨t493, A6, H⟩ := ob H; obtain rfl := Option.some.inj H
  go_enter Try.func4, Try.ntmps4
  go_wp2_with (first | ((with_reducible refine gate_dst (N := 3) rfl ?_); refine zB 3 24 #[.slice A0_0 l0_0.length c0_0, .int .i64 a0_1, .int .i64 a0_2] ?_; intro gb491 hg w7 hbox hb; have BK491 := Aside0.mk hbox; have GW491 := gz hg; have GE491 := gz hg; replace HB := bp hb; clear hb hbox hg; obtain ⟨hcz8_0, hcz8_1, hcz8_2, hfz8_0, hfz8_1, hfz8_2⟩ := xc3 BK491) | ((with_reducible refine gate_callee (f := 19) rfl ?_); refine zC 13 Try.func19 #[.slice A0_0 l0_0.length c0_0] ?_; (with_reducible refine (dioramalaw10_many.calls _ _ l0_0 true _ ?side1 ?side2 A4.out).mono ?_); (case side1 => exact cz HR0_0); (case side2 => exact HC0_0.out); rintro e w' ⟨rfl, ⟨nd, rfl⟩⟩; refine ⟨_, rfl, ?_⟩) | ((with_reducible refine gate_callee (f := 20) rfl ?_); refine zC 14 Try.func20 #[] ?_; (with_reducible refine (dioramalaw10_awake.calls k  t493 _ A6.out).mono ?_); rintro e w9 ⟨rfl, hb⟩; refine ⟨_, rfl, ?_⟩; replace BK491 := kb BK491 hb; replace HB := bp hb; clear hb))
  go_ret
  exact ⟨ez, bz⟩
 ·obtain rfl := bf c5; rw [if_neg (show ¬ (false = true) by decide)] at H; obtain ⟨⟨t494, t495⟩, A10, H⟩ := ob H
  (try dsimp only at H)
  obtain ⟨⟨t498, t499⟩, A11, H⟩ := ob H
  (try dsimp only at H)
  obtain ⟨t502, A12, H⟩ := ob H
  by_cases c13 : t502 = true
  ·subst c13; rw [if_pos rfl] at H; obtain ⟨t503, A14, H⟩ := ob H; obtain rfl := Option.some.inj H
   go_enter Try.func4, Try.ntmps4
   go_wp2_with (first | ((with_reducible refine gate_dst (N := 3) rfl ?_); refine zB 3 24 #[.slice A0_0 l0_0.length c0_0, .int .i64 a0_1, .int .i64 a0_2] ?_; intro gb491 hg w15 hbox hb; have BK491 := Aside0.mk hbox; have GW491 := gz hg; have GE491 := gz hg; replace HB := bp hb; clear hb hbox hg; obtain ⟨hcz16_0, hcz16_1, hcz16_2, hfz16_0, hfz16_1, hfz16_2⟩ := xc3 BK491) | ((with_reducible refine gate_callee (f := 19) rfl ?_); refine zC 13 Try.func19 #[.slice A0_0 l0_0.length c0_0] ?_; (with_reducible refine (dioramalaw10_many.calls _ _ l0_0 false _ ?side1 ?side2 A4.out).mono ?_); (case side1 => exact cz HR0_0); (case side2 => exact HC0_0.out); rintro e w' ⟨rfl, ⟨nd, rfl⟩⟩; refine ⟨_, rfl, ?_⟩) | ((with_reducible refine gate_callee (f := 28) rfl ?_); refine zC 24 Try.func28 #[.slice A0_0 l0_0.length c0_0, .int .i64 a0_1, .int .i64 a0_2, .int .i64 a1, .int .i64 a2] ?_; (with_reducible refine (edit_Faster.calls k _ _ l0_0 a0_1 a0_2 a1 a2 t494 t495 _ ?side1 ?side2 A10.out).mono ?_); (case side1 => repeat (first | exact (Kd.C_below HR0_0.out bz) | (with_reducible refine Kd.C_alloc ?_ _) | (with_reducible refine Kd.C_drewN ?_ _) | (with_reducible refine Kd.C_drew ?_))); (case side2 => exact HC0_0.out); rintro e w17 ⟨v496, rfl, ho0, hb⟩; refine ⟨_, rfl, ?_⟩; have HO497 := Aside0.mk (Kd.R_lower ho0 sz); replace BK491 := kb BK491 hb; replace HB := bp hb; clear hb ho0; obtain ⟨hcz18_0, hcz18_1, hcz18_2, hfz18_0, hfz18_1, hfz18_2⟩ := xc3 BK491) | ((with_reducible refine gate_callee (f := 29) rfl ?_); refine zC 36 Try.func29 #[.slice A0_0 l0_0.length c0_0, .int .i64 a0_1, .int .i64 a0_2, .int .i64 a1, .int .i64 a2] ?_; (with_reducible refine (dioramaref10_Faster.calls k _ _ l0_0 a0_1 a0_2 a1 a2 t498 t499 _ ?side1 ?side2 A11.out).mono ?_); (case side1 => exact cz HR0_0); (case side2 => exact HC0_0.out); rintro e w19 ⟨v500, rfl, ho0, hb⟩; refine ⟨_, rfl, ?_⟩; have HO501 := Aside0.mk (Kd.R_lower (Kd.R_new' ho0 (Kd.R_lt (rz HO497))) sz); replace HO497 := Aside0.mk (Kd.R_elder' (rz HO497) (Kd.R_base ho0) hb); replace BK491 := kb BK491 hb; replace HB := bp hb; clear hb ho0; obtain ⟨Ao20, co20, eo20⟩ := Kd.R_slice HO497.out; subst eo20; obtain ⟨Ao21, co21, eo21⟩ := Kd.R_slice HO501.out; subst eo21) | ((with_reducible refine gate_callee (f := 23) rfl ?_); refine zC 43 Try.func23 #[.slice Ao20 t494.length co20, .int .i64 t495, .slice Ao21 t498.length co21, .int .i64 t499] ?_; (with_reducible refine (dioramalaw10_eq.calls k _ _ t494 t495 _ _ t498 t499 true _ ?side1 ?side2 ?side3 ?side4 A12.out).mono ?_); (case side1 => exact cr HO497); (case side2 => exact (Kd.R_reads' HO497.out).2.1); (case side3 => exact cr HO501); (case side4 => exact (Kd.R_reads' HO501.out).2.1); rintro e w' ⟨rfl, ⟨nd, rfl⟩⟩; refine ⟨_, rfl, ?_⟩) | (go_at_call 20; (with_reducible refine (dioramalaw10_awake.calls k  t503 _ A14.out).mono ?_); rintro e w22 ⟨rfl, hb⟩; replace HO497 := Aside0.mk (Kd.R_below (rz HO497) hb); replace HO501 := Aside0.mk (Kd.R_below (rz HO501) hb); replace BK491 := kb BK491 hb; replace HB := bp hb; clear hb))
   go_ret
   exact ⟨ez, bz⟩
  ·obtain rfl := bf c13; rw [if_neg (show ¬ (false = true) by decide)] at H; obtain rfl := Option.some.inj H
   go_enter Try.func4, Try.ntmps4
   go_wp2_with (first | ((with_reducible refine gate_dst (N := 3) rfl ?_); refine zB 3 24 #[.slice A0_0 l0_0.length c0_0, .int .i64 a0_1, .int .i64 a0_2] ?_; intro gb491 hg w23 hbox hb; have BK491 := Aside0.mk hbox; have GW491 := gz hg; have GE491 := gz hg; replace HB := bp hb; clear hb hbox hg; obtain ⟨hcz24_0, hcz24_1, hcz24_2, hfz24_0, hfz24_1, hfz24_2⟩ := xc3 BK491) | ((with_reducible refine gate_callee (f := 19) rfl ?_); refine zC 13 Try.func19 #[.slice A0_0 l0_0.length c0_0] ?_; (with_reducible refine (dioramalaw10_many.calls _ _ l0_0 false _ ?side1 ?side2 A4.out).mono ?_); (case side1 => exact cz HR0_0); (case side2 => exact HC0_0.out); rintro e w' ⟨rfl, ⟨nd, rfl⟩⟩; refine ⟨_, rfl, ?_⟩) | ((with_reducible refine gate_callee (f := 28) rfl ?_); refine zC 24 Try.func28 #[.slice A0_0 l0_0.length c0_0, .int .i64 a0_1, .int .i64 a0_2, .int .i64 a1, .int .i64 a2] ?_; (with_reducible refine (edit_Faster.calls k _ _ l0_0 a0_1 a0_2 a1 a2 t494 t495 _ ?side1 ?side2 A10.out).mono ?_); (case side1 => repeat (first | exact (Kd.C_below HR0_0.out bz) | (with_reducible refine Kd.C_alloc ?_ _) | (with_reducible refine Kd.C_drewN ?_ _) | (with_reducible refine Kd.C_drew ?_))); (case side2 => exact HC0_0.out); rintro e w25 ⟨v496, rfl, ho0, hb⟩; refine ⟨_, rfl, ?_⟩; have HO497 := Aside0.mk (Kd.R_lower ho0 sz); replace BK491 := kb BK491 hb; replace HB := bp hb; clear hb ho0; obtain ⟨hcz26_0, hcz26_1, hcz26_2, hfz26_0, hfz26_1, hfz26_2⟩ := xc3 BK491) | ((with_reducible refine gate_callee (f := 29) rfl ?_); refine zC 36 Try.func29 #[.slice A0_0 l0_0.length c0_0, .int .i64 a0_1, .int .i64 a0_2, .int .i64 a1, .int .i64 a2] ?_; (with_reducible refine (dioramaref10_Faster.calls k _ _ l0_0 a0_1 a0_2 a1 a2 t498 t499 _ ?side1 ?side2 A11.out).mono ?_); (case side1 => exact cz HR0_0); (case side2 => exact HC0_0.out); rintro e w27 ⟨v500, rfl, ho0, hb⟩; refine ⟨_, rfl, ?_⟩; have HO501 := Aside0.mk (Kd.R_lower (Kd.R_new' ho0 (Kd.R_lt (rz HO497))) sz); replace HO497 := Aside0.mk (Kd.R_elder' (rz HO497) (Kd.R_base ho0) hb); replace BK491 := kb BK491 hb; replace HB := bp hb; clear hb ho0; obtain ⟨Ao28, co28, eo28⟩ := Kd.R_slice HO497.out; subst eo28; obtain ⟨Ao29, co29, eo29⟩ := Kd.R_slice HO501.out; subst eo29) | ((with_reducible refine gate_callee (f := 23) rfl ?_); refine zC 43 Try.func23 #[.slice Ao28 t494.length co28, .int .i64 t495, .slice Ao29 t498.length co29, .int .i64 t499] ?_; (with_reducible refine (dioramalaw10_eq.calls k _ _ t494 t495 _ _ t498 t499 false _ ?side1 ?side2 ?side3 ?side4 A12.out).mono ?_); (case side1 => exact cr HO497); (case side2 => exact (Kd.R_reads' HO497.out).2.1); (case side3 => exact cr HO501); (case side4 => exact (Kd.R_reads' HO501.out).2.1); rintro e w' ⟨rfl, ⟨nd, rfl⟩⟩; refine ⟨_, rfl, ?_⟩))
   go_ret
   exact ⟨ez, bz⟩
def dioramaref10_Normal.f (k : Nat) (l0 : List (S77)) (a1 : Int) (a2 : Int) : Option ((List (S77)) × Int) := (dioramaref10_Check.f k l0 a1 a2).bind fun t504 => (if t504 = 0 then ((dioramaref10_told.f k l0 a1 a2).bind fun bt505 => (some (bt505.1, bt505.2))) else (some (([] : List (S77)), t504)))
set_option maxHeartbeats 8000000 in
set_option maxRecDepth 100000 in
theorem dioramaref10_Normal.calls (k : Nat) (A0 : Option Addr) (c0 : Nat) (l0 : List (S77)) (a1 : Int) (a2 : Int) (r1 : List (S77)) (r2 : Int) (w : World) (hr0 : Kd.C k77 w A0 l0.length l0) (hc0 : l0.length ≤ c0) (h : dioramaref10_Normal.f k l0 a1 a2 = some (r1, r2)) :
  Calls Try.prog 22 #[.slice A0 l0.length c0, .int .i64 a1, .int .i64 a2] w fun e w' => ∃ v0_ : Value, e = .returned (.tuple #[v0_, .int .i64 r2]) ∧ Kd.R k77 77 w' w.heap.size (fun _ => True) v0_ r1 ∧ Below w.heap.size w w' := by
 have HR0 := Aside0.mk hr0; have HC0 := Aside0.mk hc0; clear hr0 hc0; have HB := Aside0.mk (Below.refl w.heap.size w); have H : ((dioramaref10_Check.f k l0 a1 a2).bind fun t504 => (if t504 = 0 then ((dioramaref10_told.f k l0 a1 a2).bind fun bt505 => (some (bt505.1, bt505.2))) else (some (([] : List (S77)), t504)))) = some (r1, r2) := h
 clear h; obtain ⟨t504, A4, H⟩ := ob H
 by_cases c5 : t504 = 0
 ·rw [if_pos c5] at H; have c5b0 : (t504 == 0) = true := beq_iff_eq.mpr c5; have c5b1 : (t504 != 0) = false := bne_eq_false_iff_eq.mpr c5; clear c5; obtain ⟨⟨t505, t506⟩, A6, H⟩ := ob H
  (try dsimp only at H)
  simp only [Option.some.injEq, Prod.mk.injEq] at H; obtain ⟨rfl, rfl⟩ := H
  go_enter Try.func22, Try.ntmps22
  go_wp2_with (first | ((with_reducible refine gate_callee (f := 25) rfl ?_); refine zC 12 Try.func25 #[.slice A0 l0.length c0, .int .i64 a1, .int .i64 a2] ?_; (with_reducible refine (dioramaref10_Check.calls k _ _ l0 a1 a2 t504 _ ?side1 ?side2 A4.out).mono ?_); (case side1 => repeat (first | exact HR0.out | (with_reducible refine Kd.C_alloc ?_ _) | (with_reducible refine Kd.C_drewN ?_ _) | (with_reducible refine Kd.C_drew ?_))); (case side2 => exact HC0.out); rintro e w7 ⟨rfl, hb⟩; refine ⟨_, rfl, ?_⟩; replace HB := bp hb; clear hb) | ((with_reducible refine gate_callee (f := 58) rfl ?_); refine zC 19 Try.func58 #[.slice A0 l0.length c0, .int .i64 a1, .int .i64 a2] ?_; (with_reducible refine (dioramaref10_told.calls k _ _ l0 a1 a2 t505 t506 _ ?side1 ?side2 A6.out).mono ?_); (case side1 => exact cz HR0); (case side2 => exact HC0.out); rintro e w8 ⟨v507, rfl, ho0, hb⟩; refine ⟨_, rfl, ?_⟩; have HO508 := Aside0.mk (Kd.R_lower ho0 sz); replace HB := bp hb; clear hb ho0))
  go_ret2
  exact ⟨_, ez, by (with_reducible repeat (first | apply Kd.R_alloc | apply Kd.R_drewN | apply Kd.R_drew)); exact HO508.out, bz⟩
 ·rw [if_neg c5] at H; have c5b0 : (t504 == 0) = false := beq_eq_false_iff_ne.mpr c5; have c5b1 : (t504 != 0) = true := bne_iff_ne.mpr c5; simp only [Option.some.injEq, Prod.mk.injEq] at H; obtain ⟨rfl, rfl⟩ := H
  go_enter Try.func22, Try.ntmps22
  go_wp2_with (first | ((with_reducible refine gate_callee (f := 25) rfl ?_); refine zC 12 Try.func25 #[.slice A0 l0.length c0, .int .i64 a1, .int .i64 a2] ?_; (with_reducible refine (dioramaref10_Check.calls k _ _ l0 a1 a2 t504 _ ?side1 ?side2 A4.out).mono ?_); (case side1 => repeat (first | exact HR0.out | (with_reducible refine Kd.C_alloc ?_ _) | (with_reducible refine Kd.C_drewN ?_ _) | (with_reducible refine Kd.C_drew ?_))); (case side2 => exact HC0.out); rintro e w9 ⟨rfl, hb⟩; refine ⟨_, rfl, ?_⟩; replace HB := bp hb; clear hb))
  go_ret2
  exact ⟨_, ez, by first | exact Kd.R_nil _ _ _ _ _ | exact Kd.N_nil _ _ _ _ _ | exact Kd.V_nil _ _ _ _ _ | exact Kd.Q_nil _ _ _ _ _ | exact Kd.S_nil _ _ _ _ _, bz⟩
mutual
def dioramaref10_Length.l0 : Nat → List (S77) → Int → Bool → List Int → List Int → Option (Int)
  | 0, _, _, _, _, _ => none
  | k + 1, x0, x4, x518000, x518001, x518002 => if x4 < (x0.length : Int) then (if 0 ≤ x4 then (if ((rd_T77 x0 x4).f0) < 0 then ((dioramaref10_ratio.f k (-1) 1).bind fun bt519 => ((dioramaref10_plus.f k x518000 x518001 x518002 bt519.1 bt519.2.1 bt519.2.2).bind fun bt526 => ((dioramaref10_ratio.f k (wrap64 (((rd_T77 x0 x4).f0) + 1)) 1).bind fun bt533 => ((dioramaref10_plus.f k bt526.1 bt526.2.1 bt526.2.2 bt533.1 bt533.2.1 bt533.2.2).bind fun bt540 => (dioramaref10_Length.l0 k x0 (wrap64 (x4 + 1)) bt540.1 bt540.2.1 bt540.2.2))))) else ((dioramaref10_ratio.f k ((rd_T77 x0 x4).f0) 1).bind fun bt547 => ((dioramaref10_plus.f k x518000 x518001 x518002 bt547.1 bt547.2.1 bt547.2.2).bind fun bt554 => (dioramaref10_Length.l0 k x0 (wrap64 (x4 + 1)) bt554.1 bt554.2.1 bt554.2.2)))) else (none)) else (if x518000 = true then (dioramaref10_Length.j1 k (decide ((x518001.length : Int) > 0)) x518000 x518001 x518002) else (dioramaref10_Length.j1 k false x518000 x518001 x518002))
def dioramaref10_Length.j1 : Nat → Bool → Bool → List Int → List Int → Option (Int)
  | 0, _, _, _, _ => none
  | k + 1, x38, x518000, x518001, x518002 => if x38 = true then (some 0) else ((dioramaref02_Small.f k x518001 1099511627776).bind fun bt561 => (if bt561.2 = true then (some bt561.1) else (some 0)))
end
def dioramaref10_Length.f (k : Nat) (l0 : List (S77)) : Option (Int) := (dioramaref10_ratio.f k 0 1).bind fun bt510 => (dioramaref10_Length.l0 k l0 0 bt510.1 bt510.2.1 bt510.2.2)
set_option maxHeartbeats 8000000 in
set_option maxRecDepth 100000 in
theorem dioramaref10_Length.calls (k : Nat) (A0 : Option Addr) (c0 : Nat) (l0 : List (S77)) (r : Int) (w : World) (hr0 : Kd.C k77 w A0 l0.length l0) (hc0 : l0.length ≤ c0) (h : dioramaref10_Length.f k l0 = some r) :
  Calls Try.prog 27 #[.slice A0 l0.length c0] w fun e w' => e = .returned (.int .i64 r) ∧ Below w.heap.size w w' := by
 have hu95 := Try.underlying95; have HR0 := Aside0.mk hr0; have HC0 := Aside0.mk hc0; clear hr0 hc0; have HB := Aside0.mk (Below.refl w.heap.size w); have H : ((dioramaref10_ratio.f k 0 1).bind fun bt510 => (dioramaref10_Length.l0 k l0 0 bt510.1 bt510.2.1 bt510.2.2)) = some r := h
 clear h; obtain ⟨⟨t510, t511, t514⟩, A2, H⟩ := ob H
 (try dsimp only at H)
 have H' := Aside0.mk H; clear H
 go_enter Try.func27, Try.ntmps27
 go_wp2_with (first | ((with_reducible refine gate_callee (f := 68) rfl ?_); refine zC 8 Try.func68 #[.int .i64 0, .int .i64 1] ?_; (with_reducible refine (dioramaref10_ratio.calls k 0 1 t510 t511 t514 _ A2.out).mono ?_); rintro e w3 ⟨v512, v515, rfl, ho0, ho1, hb⟩; refine ⟨_, rfl, ?_⟩; have HO513 := Aside0.mk (Kd.R_lower ho0 sz); have HO516 := Aside0.mk (Kd.R_lower ho1 sz); replace HB := bp hb; clear hb ho0 ho1) | ((with_reducible refine gate_dst (N := 3) rfl ?_); refine zB 3 95 #[.bool false, .slice none 0 0, .slice none 0 0] ?_; intro gb517 hg w4 hbox hb; replace HO513 := Aside0.mk (Kd.R_below (rz HO513) hb); replace HO516 := Aside0.mk (Kd.R_below (rz HO516) hb); have BK517 := Aside0.mk hbox; have GW517 := gz hg; have GE517 := gz hg; replace HB := bp hb; clear hb hbox hg; obtain ⟨hcz5_0, hcz5_1, hcz5_2, hfz5_0, hfz5_1, hfz5_2⟩ := xc3 BK517; obtain ⟨Ao6, co6, eo6⟩ := Kd.R_slice HO513.out; subst eo6; obtain ⟨Ao7, co7, eo7⟩ := Kd.R_slice HO516.out; subst eo7))
 go_loopg [4] k (fun kq v4 w' => ∃ (x4_1 : Int) (x518000_1 : Bool) (x518001_1 : List Int) (x518002_1 : List Int) (u518001 : Value) (u518002 : Value), v4 = .int .i64 x4_1 ∧ Aside0 (dioramaref10_Length.l0 kq l0 x4_1 x518000_1 x518001_1 x518002_1 = some r) ∧ Aside0 (kq ≤ k) ∧ Aside0 (Kd.R (Kd.int .i64) 3 w' w.heap.size (fun k_ => some k_ ≠ (u518002 : Value).ownBlock) u518001 x518001_1) ∧ Aside0 (Kd.R (Kd.int .i64) 3 w' w.heap.size (fun k_ => some k_ ≠ (u518001 : Value).ownBlock) u518002 x518002_1) ∧ Aside0 (w'.heap[gb517]? = some (.cells #[.bool x518000_1, u518001, u518002] 95 (0, 0))) ∧ Aside0 (Below w.heap.size w w'))
 case atStart => exact ⟨(0), (t510), (t511), (t514), (.slice Ao6 t511.length co6), (.slice Ao7 t514.length co7), jz, H', ⟨Nat.le_refl _⟩, ⟨by (with_reducible repeat (first | apply Kd.R_alloc | apply Kd.R_drewN | apply Kd.R_drew)); exact Kd.R_mono (Kd.R_far (p := ⟨gb517, 2, none⟩) (Kd.R_far (p := ⟨gb517, 1, none⟩) (Kd.R_far (p := ⟨gb517, 0, none⟩) (Kd.R_types HO513.out BK517.out (by decide)) (fun _ hk => hk.2) (.bool t510)) (fun _ hk => hk.2) (.slice Ao6 t511.length co6)) (fun _ hk => hk.2) (.slice Ao7 t514.length co7)) (fun _ hk => hk.1)⟩, ⟨by (with_reducible repeat (first | apply Kd.R_alloc | apply Kd.R_drewN | apply Kd.R_drew)); exact Kd.R_mono (Kd.R_far (p := ⟨gb517, 2, none⟩) (Kd.R_far (p := ⟨gb517, 1, none⟩) (Kd.R_far (p := ⟨gb517, 0, none⟩) (Kd.R_types HO516.out BK517.out (by decide)) (fun _ hk => hk.2) (.bool t510)) (fun _ hk => hk.2) (.slice Ao6 t511.length co6)) (fun _ hk => hk.2) (.slice Ao7 t514.length co7)) (fun _ hk => hk.1)⟩, ⟨by (with_reducible repeat (first | refine blk_drewN ?_ _ | refine blk_drew ?_ | refine blk_alloc ?_ _)); refine blk_put (cs := #[.bool t510, .slice Ao6 t511.length co6, .slice none 0 0]) ?_ 2 _ rfl; (with_reducible repeat (first | refine blk_drewN ?_ _ | refine blk_drew ?_ | refine blk_alloc ?_ _)); refine blk_put (cs := #[.bool t510, .slice none 0 0, .slice none 0 0]) ?_ 1 _ rfl; (with_reducible repeat (first | refine blk_drewN ?_ _ | refine blk_drew ?_ | refine blk_alloc ?_ _)); refine blk_put (cs := #[.bool false, .slice none 0 0, .slice none 0 0]) ?_ 0 _ rfl; (with_reducible repeat (first | refine blk_drewN ?_ _ | refine blk_drew ?_ | refine blk_alloc ?_ _)); exact BK517.out⟩, ⟨bz⟩⟩
 case round =>
  clear H'
  try clear c2
  try clear p2
  try clear c6
  try clear hcz5_0
  try clear hcz5_1
  try clear hcz5_2
  try clear hfz5_0
  try clear hfz5_1
  try clear hfz5_2
  obtain ⟨x4_1, x518000_1, x518001_1, x518002_1, u518001, u518002, rfl, HA, HK1, HO_518001, HO_518002, BK517, HB⟩ := hrel
  cases gk with
  | zero => exact absurd HA.out (by simp [dioramaref10_Length.l0])
  | succ k1 =>
   have H := HA.out; clear HA; simp only [dioramaref10_Length.l0] at H
   by_cases c8 : x4_1 < (l0.length : Int)
   ·rw [if_pos c8] at H; have c8b0 : decide (x4_1 < (l0.length : Int)) = true := decide_eq_true c8; clear c8
    by_cases c9 : 0 ≤ x4_1
    ·rw [if_pos c9] at H; have c9b0 : decide (0 ≤ x4_1) = true := decide_eq_true c9; clear c9
     by_cases c10 : ((rd_T77 l0 x4_1).f0) < 0
     ·rw [if_pos c10] at H; have c10b0 : decide (((rd_T77 l0 x4_1).f0) < 0) = true := decide_eq_true c10; clear c10; obtain ⟨⟨t519, t520, t523⟩, A11, H⟩ := ob H
      (try dsimp only at H)
      obtain ⟨⟨t526, t527, t530⟩, A12, H⟩ := ob H
      (try dsimp only at H)
      obtain ⟨⟨t533, t534, t537⟩, A13, H⟩ := ob H
      (try dsimp only at H)
      obtain ⟨⟨t540, t541, t544⟩, A14, H⟩ := ob H
      (try dsimp only at H)
      have H' := Aside0.mk H; clear H; have p518 : 0 ≤ (x4_1 : Int) := od; have q518 : x4_1 < (l0.length : Int) := od; obtain ⟨ad518, e518, hx518_0, hx518_1, hx518_2, hx518_3⟩ := at_T77 HR0.out x4_1 p518 q518
      cases e518
      replace hx518_0 := cl HB hx518_0; replace hx518_1 := cl HB hx518_1; replace hx518_2 := cl HB hx518_2; replace hx518_3 := cl HB hx518_3; replace p518 := eq_true p518; replace q518 := eq_true q518
      try go_wp2
      replace HO_518001 := Aside0.mk (Kd.R_drew HO_518001.out); replace HO_518002 := Aside0.mk (Kd.R_drew HO_518002.out); replace BK517 := Aside0.mk (blk_drew BK517.out); replace HB := Aside0.mk (below_drew1 HB.out); refine start_ (n := 4) (S := fun w' => w'.cell? ⟨gb517, 0, none⟩ = some (.bool x518000_1) ∧ w'.cell? ⟨gb517, 1, none⟩ = some (u518001) ∧ w'.cell? ⟨gb517, 2, none⟩ = some (u518002)) (ds := [3]) (bs 4 0) (by kernel_rfl) rfl rfl ⟨ct BK517 0, ct BK517 1, ct BK517 2⟩ (fun hHeld => ?_)
      generalize wr.drew = w15 at HO_518001 HO_518002 BK517 HB hHeld ⊢; refine take_ (i := 0) (N := some 24) (v := ?_) (a' := ?_) (bs 4 1) rfl rfl (by kernel_rfl) (fun _ _ _ h => h) (Or.inl ⟨by rfl, ?_⟩) hHeld ?_ ?_
      rotate_left
      ·rintro w' ⟨s0, s1, s2⟩
       go_simp
       with_reducible rfl
      rotate_left
      ·simp only [Act.put, List.setIfInBounds_toArray, List.set_cons_zero, List.set_cons_succ, i64_w, i32_w]
       rfl
      refine one_ (i := 1) (N := some 25) (bs 4 3) rfl rfl (by kernel_rfl) (by decide) (fun K hK => ?_); refine zG Try.func68 #[.int .i64 (-1), .int .i64 1] ?_
      with_reducible refine (dioramaref10_ratio.calls k1 (-1) 1 t519 t520 t523 _ A11.out).mono ?_
      rintro e w16 ⟨v521, v524, rfl, ho0, ho1, hb⟩; refine ⟨_, rfl, ?_⟩; have HO522 := Aside0.mk (Kd.R_lower (Kd.R_new' (Kd.R_new' ho0 (Kd.R_lt (rz HO_518001))) (Kd.R_lt (rz HO_518002))) sz); have HO525 := Aside0.mk (Kd.R_lower (Kd.R_new' (Kd.R_new' ho1 (Kd.R_lt (rz HO_518001))) (Kd.R_lt (rz HO_518002))) sz); replace HO_518001 := Aside0.mk (Kd.R_mono (Kd.R_told (Kd.R_told (Kd.R_old (rz HO_518001) hb) (Kd.R_base ho0)) (Kd.R_base ho1)) (fun _ h_ => h_.1)); replace HO_518002 := Aside0.mk (Kd.R_mono (Kd.R_told (Kd.R_told (Kd.R_old (rz HO_518002) hb) (Kd.R_base ho0)) (Kd.R_base ho1)) (fun _ h_ => h_.1)); replace BK517 := kb BK517 hb; replace HB := bp hb; clear hb ho0 ho1; obtain ⟨Ao17, co17, eo17⟩ := Kd.R_slice HO_518001.out
      (first | subst eo17 | (injection eo17 with f1_ f2_ f3_; have f4_ := f1_.symm; have f5_ := f3_.symm; clear f1_ f2_ f3_; subst f4_; subst f5_))
      obtain ⟨Ao18, co18, eo18⟩ := Kd.R_slice HO_518002.out
      (first | subst eo18 | (injection eo18 with f1_ f2_ f3_; have f4_ := f1_.symm; have f5_ := f3_.symm; clear f1_ f2_ f3_; subst f4_; subst f5_))
      obtain ⟨Ao19, co19, eo19⟩ := Kd.R_slice HO522.out
      (first | subst eo19 | (injection eo19 with f1_ f2_ f3_; have f4_ := f1_.symm; have f5_ := f3_.symm; clear f1_ f2_ f3_; subst f4_; subst f5_))
      obtain ⟨Ao20, co20, eo20⟩ := Kd.R_slice HO525.out
      (first | subst eo20 | (injection eo20 with f1_ f2_ f3_; have f4_ := f1_.symm; have f5_ := f3_.symm; clear f1_ f2_ f3_; subst f4_; subst f5_))
      refine hK.out _ _ ⟨ct BK517 0, ct BK517 1, ct BK517 2⟩ (fun hHeld => ?_); clear hK K; refine zM 25 ?_; refine one_ (i := 2) (N := some 26) (bs 4 7) rfl rfl (by kernel_rfl) (by decide) (fun K hK => ?_); refine zG Try.func69 #[.agg #[.bool x518000_1, .slice Ao17 x518001_1.length co17, .slice Ao18 x518002_1.length co18], .agg #[.bool t519, .slice Ao19 t520.length co19, .slice Ao20 t523.length co20]] ?_
      with_reducible refine (dioramaref10_plus.calls k1 x518000_1 _ _ x518001_1 _ _ x518002_1 t519 _ _ t520 _ _ t523 t526 t527 t530 _ ?side1 ?side2 ?side3 ?side4 ?side5 ?side6 ?side7 ?side8 A12.out).mono ?_
      (case side1 => exact cr HO_518001)
      (case side2 => exact (Kd.R_reads' HO_518001.out).2.1)
      (case side3 => exact cr HO_518002)
      (case side4 => exact (Kd.R_reads' HO_518002.out).2.1)
      (case side5 => exact cr HO522)
      (case side6 => exact (Kd.R_reads' HO522.out).2.1)
      (case side7 => exact cr HO525)
      (case side8 => exact (Kd.R_reads' HO525.out).2.1)
      rintro e w21 ⟨v528, v531, rfl, ho0, ho1, hb⟩; refine ⟨_, rfl, ?_⟩; have HO529 := Aside0.mk (Kd.R_lower (Kd.R_new' (Kd.R_new' (Kd.R_new' (Kd.R_new' ho0 (Kd.R_lt (rz HO_518001))) (Kd.R_lt (rz HO_518002))) (Kd.R_lt (rz HO522))) (Kd.R_lt (rz HO525))) sz); have HO532 := Aside0.mk (Kd.R_lower (Kd.R_new' (Kd.R_new' (Kd.R_new' (Kd.R_new' ho1 (Kd.R_lt (rz HO_518001))) (Kd.R_lt (rz HO_518002))) (Kd.R_lt (rz HO522))) (Kd.R_lt (rz HO525))) sz); replace HO_518001 := Aside0.mk (Kd.R_mono (Kd.R_told (Kd.R_told (Kd.R_old (rz HO_518001) hb) (Kd.R_base ho0)) (Kd.R_base ho1)) (fun _ h_ => h_.1)); replace HO_518002 := Aside0.mk (Kd.R_mono (Kd.R_told (Kd.R_told (Kd.R_old (rz HO_518002) hb) (Kd.R_base ho0)) (Kd.R_base ho1)) (fun _ h_ => h_.1)); replace HO522 := Aside0.mk (Kd.R_mono (Kd.R_told (Kd.R_told (Kd.R_old (rz HO522) hb) (Kd.R_base ho0)) (Kd.R_base ho1)) (fun _ h_ => h_.1)); replace HO525 := Aside0.mk (Kd.R_mono (Kd.R_told (Kd.R_told (Kd.R_old (rz HO525) hb) (Kd.R_base ho0)) (Kd.R_base ho1)) (fun _ h_ => h_.1)); replace BK517 := kb BK517 hb; replace HB := bp hb; clear hb ho0 ho1; obtain ⟨Ao23, co23, eo23⟩ := Kd.R_slice HO529.out
      (first | subst eo23 | (injection eo23 with f1_ f2_ f3_; have f4_ := f1_.symm; have f5_ := f3_.symm; clear f1_ f2_ f3_; subst f4_; subst f5_))
      obtain ⟨Ao25, co25, eo25⟩ := Kd.R_slice HO532.out
      (first | subst eo25 | (injection eo25 with f1_ f2_ f3_; have f4_ := f1_.symm; have f5_ := f3_.symm; clear f1_ f2_ f3_; subst f4_; subst f5_))
      refine hK.out _ _ ⟨ct BK517 0, ct BK517 1, ct BK517 2⟩ (fun hHeld => ?_); clear hK K; refine zM 26 ?_; refine last_ (i := 3) (N := none) (bs 4 15) rfl rfl (by kernel_rfl) (by decide) (fun K hK => ?_); have hs22 : w21.cell? ⟨gb517, 0, none⟩ = some (.bool x518000_1) := ct BK517 0; have hfs22 := blk_frozen BK517.out 0; have hs24 : w21.cell? ⟨gb517, 1, none⟩ = some (.slice Ao17 x518001_1.length co17) := ct BK517 1; have hfs24 := blk_frozen BK517.out 1; have hs26 : w21.cell? ⟨gb517, 2, none⟩ = some (.slice Ao18 x518002_1.length co18) := ct BK517 2; have hfs26 := blk_frozen BK517.out 2; refine skip_ (w1 := ?_) (by rfl) rfl ?_ ?_
      rotate_left
      ·go_simp
       rfl
      refine hK.out _ _ ?_; clear hK K; refine done_ (by kernel_rfl) ?_
      try go_wp2
      have n0_ : Aside0 (Kd.R (Kd.int .i64) 3 (((w21.setCell ⟨gb517, 0, none⟩ (.bool t526)).setCell ⟨gb517, 1, none⟩ (.slice Ao23 t527.length co23)).setCell ⟨gb517, 2, none⟩ (.slice Ao25 t530.length co25)) w.heap.size (fun k_ => some k_ ≠ (.slice Ao18 x518002_1.length co18 : Value).ownBlock ∧ some k_ ≠ (.slice Ao19 t520.length co19 : Value).ownBlock ∧ some k_ ≠ (.slice Ao20 t523.length co20 : Value).ownBlock ∧ some k_ ≠ (.slice Ao23 t527.length co23 : Value).ownBlock ∧ some k_ ≠ (.slice Ao25 t530.length co25 : Value).ownBlock) (.slice Ao17 x518001_1.length co17) x518001_1) := ⟨by (with_reducible repeat (first | apply Kd.R_alloc | apply Kd.R_drewN | apply Kd.R_drew)); exact Kd.R_mono (Kd.R_far (p := ⟨gb517, 2, none⟩) (Kd.R_far (p := ⟨gb517, 1, none⟩) (Kd.R_far (p := ⟨gb517, 0, none⟩) (Kd.R_types HO_518001.out BK517.out (by decide)) (fun _ hk => hk.2) (.bool t526)) (fun _ hk => hk.2) (.slice Ao23 t527.length co23)) (fun _ hk => hk.2) (.slice Ao25 t530.length co25)) (fun _ hk => ⟨hk.1.1.1.1.1, ⟨hk.1.1.1.1.2, ⟨hk.1.1.1.2, ⟨hk.1.1.2, hk.1.2⟩⟩⟩⟩)⟩
      have n1_ : Aside0 (Kd.R (Kd.int .i64) 3 (((w21.setCell ⟨gb517, 0, none⟩ (.bool t526)).setCell ⟨gb517, 1, none⟩ (.slice Ao23 t527.length co23)).setCell ⟨gb517, 2, none⟩ (.slice Ao25 t530.length co25)) w.heap.size (fun k_ => some k_ ≠ (.slice Ao17 x518001_1.length co17 : Value).ownBlock ∧ some k_ ≠ (.slice Ao19 t520.length co19 : Value).ownBlock ∧ some k_ ≠ (.slice Ao20 t523.length co20 : Value).ownBlock ∧ some k_ ≠ (.slice Ao23 t527.length co23 : Value).ownBlock ∧ some k_ ≠ (.slice Ao25 t530.length co25 : Value).ownBlock) (.slice Ao18 x518002_1.length co18) x518002_1) := ⟨by (with_reducible repeat (first | apply Kd.R_alloc | apply Kd.R_drewN | apply Kd.R_drew)); exact Kd.R_mono (Kd.R_far (p := ⟨gb517, 2, none⟩) (Kd.R_far (p := ⟨gb517, 1, none⟩) (Kd.R_far (p := ⟨gb517, 0, none⟩) (Kd.R_types HO_518002.out BK517.out (by decide)) (fun _ hk => hk.2) (.bool t526)) (fun _ hk => hk.2) (.slice Ao23 t527.length co23)) (fun _ hk => hk.2) (.slice Ao25 t530.length co25)) (fun _ hk => ⟨hk.1.1.1.1.1, ⟨hk.1.1.1.1.2, ⟨hk.1.1.1.2, ⟨hk.1.1.2, hk.1.2⟩⟩⟩⟩)⟩
      have n2_ : Aside0 (Kd.R (Kd.int .i64) 3 (((w21.setCell ⟨gb517, 0, none⟩ (.bool t526)).setCell ⟨gb517, 1, none⟩ (.slice Ao23 t527.length co23)).setCell ⟨gb517, 2, none⟩ (.slice Ao25 t530.length co25)) w.heap.size (fun k_ => some k_ ≠ (.slice Ao17 x518001_1.length co17 : Value).ownBlock ∧ some k_ ≠ (.slice Ao18 x518002_1.length co18 : Value).ownBlock ∧ some k_ ≠ (.slice Ao20 t523.length co20 : Value).ownBlock ∧ some k_ ≠ (.slice Ao23 t527.length co23 : Value).ownBlock ∧ some k_ ≠ (.slice Ao25 t530.length co25 : Value).ownBlock) (.slice Ao19 t520.length co19) t520) := ⟨by (with_reducible repeat (first | apply Kd.R_alloc | apply Kd.R_drewN | apply Kd.R_drew)); exact Kd.R_mono (Kd.R_far (p := ⟨gb517, 2, none⟩) (Kd.R_far (p := ⟨gb517, 1, none⟩) (Kd.R_far (p := ⟨gb517, 0, none⟩) (Kd.R_types HO522.out BK517.out (by decide)) (fun _ hk => hk.2) (.bool t526)) (fun _ hk => hk.2) (.slice Ao23 t527.length co23)) (fun _ hk => hk.2) (.slice Ao25 t530.length co25)) (fun _ hk => ⟨hk.1.1.1.1.2, ⟨hk.1.1.1.2, ⟨hk.1.1.1.1.1, ⟨hk.1.1.2, hk.1.2⟩⟩⟩⟩)⟩
      have n3_ : Aside0 (Kd.R (Kd.int .i64) 3 (((w21.setCell ⟨gb517, 0, none⟩ (.bool t526)).setCell ⟨gb517, 1, none⟩ (.slice Ao23 t527.length co23)).setCell ⟨gb517, 2, none⟩ (.slice Ao25 t530.length co25)) w.heap.size (fun k_ => some k_ ≠ (.slice Ao17 x518001_1.length co17 : Value).ownBlock ∧ some k_ ≠ (.slice Ao18 x518002_1.length co18 : Value).ownBlock ∧ some k_ ≠ (.slice Ao19 t520.length co19 : Value).ownBlock ∧ some k_ ≠ (.slice Ao23 t527.length co23 : Value).ownBlock ∧ some k_ ≠ (.slice Ao25 t530.length co25 : Value).ownBlock) (.slice Ao20 t523.length co20) t523) := ⟨by (with_reducible repeat (first | apply Kd.R_alloc | apply Kd.R_drewN | apply Kd.R_drew)); exact Kd.R_mono (Kd.R_far (p := ⟨gb517, 2, none⟩) (Kd.R_far (p := ⟨gb517, 1, none⟩) (Kd.R_far (p := ⟨gb517, 0, none⟩) (Kd.R_types HO525.out BK517.out (by decide)) (fun _ hk => hk.2) (.bool t526)) (fun _ hk => hk.2) (.slice Ao23 t527.length co23)) (fun _ hk => hk.2) (.slice Ao25 t530.length co25)) (fun _ hk => ⟨hk.1.1.1.1.2, ⟨hk.1.1.1.2, ⟨hk.1.1.1.1.1, ⟨hk.1.1.2, hk.1.2⟩⟩⟩⟩)⟩
      have n4_ : Aside0 (Kd.R (Kd.int .i64) 3 (((w21.setCell ⟨gb517, 0, none⟩ (.bool t526)).setCell ⟨gb517, 1, none⟩ (.slice Ao23 t527.length co23)).setCell ⟨gb517, 2, none⟩ (.slice Ao25 t530.length co25)) w.heap.size (fun k_ => some k_ ≠ (.slice Ao17 x518001_1.length co17 : Value).ownBlock ∧ some k_ ≠ (.slice Ao18 x518002_1.length co18 : Value).ownBlock ∧ some k_ ≠ (.slice Ao19 t520.length co19 : Value).ownBlock ∧ some k_ ≠ (.slice Ao20 t523.length co20 : Value).ownBlock ∧ some k_ ≠ (.slice Ao25 t530.length co25 : Value).ownBlock) (.slice Ao23 t527.length co23) t527) := ⟨by (with_reducible repeat (first | apply Kd.R_alloc | apply Kd.R_drewN | apply Kd.R_drew)); exact Kd.R_mono (Kd.R_far (p := ⟨gb517, 2, none⟩) (Kd.R_far (p := ⟨gb517, 1, none⟩) (Kd.R_far (p := ⟨gb517, 0, none⟩) (Kd.R_types HO529.out BK517.out (by decide)) (fun _ hk => hk.2) (.bool t526)) (fun _ hk => hk.2) (.slice Ao23 t527.length co23)) (fun _ hk => hk.2) (.slice Ao25 t530.length co25)) (fun _ hk => ⟨hk.1.1.1.1.2, ⟨hk.1.1.1.2, ⟨hk.1.1.2, ⟨hk.1.2, hk.1.1.1.1.1⟩⟩⟩⟩)⟩
      have n5_ : Aside0 (Kd.R (Kd.int .i64) 3 (((w21.setCell ⟨gb517, 0, none⟩ (.bool t526)).setCell ⟨gb517, 1, none⟩ (.slice Ao23 t527.length co23)).setCell ⟨gb517, 2, none⟩ (.slice Ao25 t530.length co25)) w.heap.size (fun k_ => some k_ ≠ (.slice Ao17 x518001_1.length co17 : Value).ownBlock ∧ some k_ ≠ (.slice Ao18 x518002_1.length co18 : Value).ownBlock ∧ some k_ ≠ (.slice Ao19 t520.length co19 : Value).ownBlock ∧ some k_ ≠ (.slice Ao20 t523.length co20 : Value).ownBlock ∧ some k_ ≠ (.slice Ao23 t527.length co23 : Value).ownBlock) (.slice Ao25 t530.length co25) t530) := ⟨by (with_reducible repeat (first | apply Kd.R_alloc | apply Kd.R_drewN | apply Kd.R_drew)); exact Kd.R_mono (Kd.R_far (p := ⟨gb517, 2, none⟩) (Kd.R_far (p := ⟨gb517, 1, none⟩) (Kd.R_far (p := ⟨gb517, 0, none⟩) (Kd.R_types HO532.out BK517.out (by decide)) (fun _ hk => hk.2) (.bool t526)) (fun _ hk => hk.2) (.slice Ao23 t527.length co23)) (fun _ hk => hk.2) (.slice Ao25 t530.length co25)) (fun _ hk => ⟨hk.1.1.1.1.2, ⟨hk.1.1.1.2, ⟨hk.1.1.2, ⟨hk.1.2, hk.1.1.1.1.1⟩⟩⟩⟩)⟩
      have n6_ : Aside0 ((((w21.setCell ⟨gb517, 0, none⟩ (.bool t526)).setCell ⟨gb517, 1, none⟩ (.slice Ao23 t527.length co23)).setCell ⟨gb517, 2, none⟩ (.slice Ao25 t530.length co25)).heap[gb517]? = some (.cells #[.bool t526, .slice Ao23 t527.length co23, .slice Ao25 t530.length co25] 95 (0, 0))) := ⟨by (with_reducible repeat (first | refine blk_drewN ?_ _ | refine blk_drew ?_ | refine blk_alloc ?_ _)); refine blk_put (cs := #[.bool t526, .slice Ao23 t527.length co23, .slice Ao18 x518002_1.length co18]) ?_ 2 _ rfl; (with_reducible repeat (first | refine blk_drewN ?_ _ | refine blk_drew ?_ | refine blk_alloc ?_ _)); refine blk_put (cs := #[.bool t526, .slice Ao17 x518001_1.length co17, .slice Ao18 x518002_1.length co18]) ?_ 1 _ rfl; (with_reducible repeat (first | refine blk_drewN ?_ _ | refine blk_drew ?_ | refine blk_alloc ?_ _)); refine blk_put (cs := #[.bool x518000_1, .slice Ao17 x518001_1.length co17, .slice Ao18 x518002_1.length co18]) ?_ 0 _ rfl; (with_reducible repeat (first | refine blk_drewN ?_ _ | refine blk_drew ?_ | refine blk_alloc ?_ _)); exact BK517.out⟩; have n7_ : Aside0 (Below w.heap.size w (((w21.setCell ⟨gb517, 0, none⟩ (.bool t526)).setCell ⟨gb517, 1, none⟩ (.slice Ao23 t527.length co23)).setCell ⟨gb517, 2, none⟩ (.slice Ao25 t530.length co25))) := ⟨bz⟩
      (try clear HO_518001)
      (try clear HO_518002)
      (try clear HO522)
      (try clear HO525)
      (try clear HO529)
      (try clear HO532)
      (try clear BK517)
      (try clear HB)
      generalize (((w21.setCell ⟨gb517, 0, none⟩ (.bool t526)).setCell ⟨gb517, 1, none⟩ (.slice Ao23 t527.length co23)).setCell ⟨gb517, 2, none⟩ (.slice Ao25 t530.length co25)) = w27 at n0_ n1_ n2_ n3_ n4_ n5_ n6_ n7_ ⊢; have HO_518001 := n0_; have HO_518002 := n1_; have HO522 := n2_; have HO525 := n3_; have HO529 := n4_; have HO532 := n5_; have BK517 := n6_; have HB := n7_; clear n0_ n1_ n2_ n3_ n4_ n5_ n6_ n7_; replace HO_518001 := Aside0.mk (Kd.R_drew HO_518001.out); replace HO_518002 := Aside0.mk (Kd.R_drew HO_518002.out); replace HO522 := Aside0.mk (Kd.R_drew HO522.out); replace HO525 := Aside0.mk (Kd.R_drew HO525.out); replace HO529 := Aside0.mk (Kd.R_drew HO529.out); replace HO532 := Aside0.mk (Kd.R_drew HO532.out); replace BK517 := Aside0.mk (blk_drew BK517.out); replace HB := Aside0.mk (below_drew1 HB.out); refine start_ (n := 5) (S := fun w' => w'.cell? ⟨gb517, 0, none⟩ = some (.bool t526) ∧ w'.cell? ⟨gb517, 1, none⟩ = some (.slice Ao23 t527.length co23) ∧ w'.cell? ⟨gb517, 2, none⟩ = some (.slice Ao25 t530.length co25)) (ds := [4]) (bs 5 0) (by kernel_rfl) rfl rfl ⟨ct BK517 0, ct BK517 1, ct BK517 2⟩ (fun hHeld => ?_)
      generalize w27.drew = w28 at HO_518001 HO_518002 HO522 HO525 HO529 HO532 BK517 HB hHeld ⊢; refine pure_ (i := 1) (N := some 28) (v := ?_) (a' := ?_) (bs 5 2) rfl rfl (by kernel_rfl) (fun _ _ _ h => h) (Or.inl ⟨by rfl, ?_⟩) ?_ ?_
      rotate_left
      ·intro w'
       go_simp
       with_reducible rfl
      rotate_left
      ·simp only [Act.put, List.setIfInBounds_toArray, List.set_cons_zero, List.set_cons_succ, i64_w, i32_w]
       rfl
      refine take_ (i := 0) (N := some 27) (v := ?_) (a' := ?_) (bs 5 3) rfl rfl (by kernel_rfl) (fun _ _ _ h => h) (Or.inl ⟨by rfl, ?_⟩) hHeld ?_ ?_
      rotate_left
      ·rintro w' ⟨s0, s1, s2⟩
       go_simp
       with_reducible rfl
      rotate_left
      ·simp only [Act.put, List.setIfInBounds_toArray, List.set_cons_zero, List.set_cons_succ, i64_w, i32_w]
       rfl
      refine one_ (i := 2) (N := some 29) (bs 5 7) rfl rfl (by kernel_rfl) (by decide) (fun K hK => ?_); refine zG Try.func68 #[.int .i64 (wrap64 (((rd_T77 l0 x4_1).f0) + 1)), .int .i64 1] ?_
      with_reducible refine (dioramaref10_ratio.calls k1 (wrap64 (((rd_T77 l0 x4_1).f0) + 1)) 1 t533 t534 t537 _ A13.out).mono ?_
      rintro e w29 ⟨v535, v538, rfl, ho0, ho1, hb⟩; refine ⟨_, rfl, ?_⟩; have HO536 := Aside0.mk (Kd.R_lower (Kd.R_new' (Kd.R_new' (Kd.R_new' (Kd.R_new' (Kd.R_new' (Kd.R_new' ho0 (Kd.R_lt (rz HO_518001))) (Kd.R_lt (rz HO_518002))) (Kd.R_lt (rz HO522))) (Kd.R_lt (rz HO525))) (Kd.R_lt (rz HO529))) (Kd.R_lt (rz HO532))) sz); have HO539 := Aside0.mk (Kd.R_lower (Kd.R_new' (Kd.R_new' (Kd.R_new' (Kd.R_new' (Kd.R_new' (Kd.R_new' ho1 (Kd.R_lt (rz HO_518001))) (Kd.R_lt (rz HO_518002))) (Kd.R_lt (rz HO522))) (Kd.R_lt (rz HO525))) (Kd.R_lt (rz HO529))) (Kd.R_lt (rz HO532))) sz); replace HO_518001 := Aside0.mk (Kd.R_mono (Kd.R_told (Kd.R_told (Kd.R_old (rz HO_518001) hb) (Kd.R_base ho0)) (Kd.R_base ho1)) (fun _ h_ => h_.1)); replace HO_518002 := Aside0.mk (Kd.R_mono (Kd.R_told (Kd.R_told (Kd.R_old (rz HO_518002) hb) (Kd.R_base ho0)) (Kd.R_base ho1)) (fun _ h_ => h_.1)); replace HO522 := Aside0.mk (Kd.R_mono (Kd.R_told (Kd.R_told (Kd.R_old (rz HO522) hb) (Kd.R_base ho0)) (Kd.R_base ho1)) (fun _ h_ => h_.1)); replace HO525 := Aside0.mk (Kd.R_mono (Kd.R_told (Kd.R_told (Kd.R_old (rz HO525) hb) (Kd.R_base ho0)) (Kd.R_base ho1)) (fun _ h_ => h_.1)); replace HO529 := Aside0.mk (Kd.R_mono (Kd.R_told (Kd.R_told (Kd.R_old (rz HO529) hb) (Kd.R_base ho0)) (Kd.R_base ho1)) (fun _ h_ => h_.1)); replace HO532 := Aside0.mk (Kd.R_mono (Kd.R_told (Kd.R_told (Kd.R_old (rz HO532) hb) (Kd.R_base ho0)) (Kd.R_base ho1)) (fun _ h_ => h_.1)); replace BK517 := kb BK517 hb; replace HB := bp hb; clear hb ho0 ho1; obtain ⟨Ao30, co30, eo30⟩ := Kd.R_slice HO536.out
      (first | subst eo30 | (injection eo30 with f1_ f2_ f3_; have f4_ := f1_.symm; have f5_ := f3_.symm; clear f1_ f2_ f3_; subst f4_; subst f5_))
      obtain ⟨Ao31, co31, eo31⟩ := Kd.R_slice HO539.out
      (first | subst eo31 | (injection eo31 with f1_ f2_ f3_; have f4_ := f1_.symm; have f5_ := f3_.symm; clear f1_ f2_ f3_; subst f4_; subst f5_))
      refine hK.out _ _ ⟨ct BK517 0, ct BK517 1, ct BK517 2⟩ (fun hHeld => ?_); clear hK K; refine zM 29 ?_; refine one_ (i := 3) (N := some 30) (bs 5 15) rfl rfl (by kernel_rfl) (by decide) (fun K hK => ?_); refine zG Try.func69 #[.agg #[.bool t526, .slice Ao23 t527.length co23, .slice Ao25 t530.length co25], .agg #[.bool t533, .slice Ao30 t534.length co30, .slice Ao31 t537.length co31]] ?_
      with_reducible refine (dioramaref10_plus.calls k1 t526 _ _ t527 _ _ t530 t533 _ _ t534 _ _ t537 t540 t541 t544 _ ?side1 ?side2 ?side3 ?side4 ?side5 ?side6 ?side7 ?side8 A14.out).mono ?_
      (case side1 => exact cr HO529)
      (case side2 => exact (Kd.R_reads' HO529.out).2.1)
      (case side3 => exact cr HO532)
      (case side4 => exact (Kd.R_reads' HO532.out).2.1)
      (case side5 => exact cr HO536)
      (case side6 => exact (Kd.R_reads' HO536.out).2.1)
      (case side7 => exact cr HO539)
      (case side8 => exact (Kd.R_reads' HO539.out).2.1)
      rintro e w32 ⟨v542, v545, rfl, ho0, ho1, hb⟩; refine ⟨_, rfl, ?_⟩; have HO543 := Aside0.mk (Kd.R_lower (Kd.R_new' (Kd.R_new' (Kd.R_new' (Kd.R_new' (Kd.R_new' (Kd.R_new' (Kd.R_new' (Kd.R_new' ho0 (Kd.R_lt (rz HO_518001))) (Kd.R_lt (rz HO_518002))) (Kd.R_lt (rz HO522))) (Kd.R_lt (rz HO525))) (Kd.R_lt (rz HO529))) (Kd.R_lt (rz HO532))) (Kd.R_lt (rz HO536))) (Kd.R_lt (rz HO539))) sz); have HO546 := Aside0.mk (Kd.R_lower (Kd.R_new' (Kd.R_new' (Kd.R_new' (Kd.R_new' (Kd.R_new' (Kd.R_new' (Kd.R_new' (Kd.R_new' ho1 (Kd.R_lt (rz HO_518001))) (Kd.R_lt (rz HO_518002))) (Kd.R_lt (rz HO522))) (Kd.R_lt (rz HO525))) (Kd.R_lt (rz HO529))) (Kd.R_lt (rz HO532))) (Kd.R_lt (rz HO536))) (Kd.R_lt (rz HO539))) sz); replace HO_518001 := Aside0.mk (Kd.R_mono (Kd.R_told (Kd.R_told (Kd.R_old (rz HO_518001) hb) (Kd.R_base ho0)) (Kd.R_base ho1)) (fun _ h_ => h_.1)); replace HO_518002 := Aside0.mk (Kd.R_mono (Kd.R_told (Kd.R_told (Kd.R_old (rz HO_518002) hb) (Kd.R_base ho0)) (Kd.R_base ho1)) (fun _ h_ => h_.1)); replace HO522 := Aside0.mk (Kd.R_mono (Kd.R_told (Kd.R_told (Kd.R_old (rz HO522) hb) (Kd.R_base ho0)) (Kd.R_base ho1)) (fun _ h_ => h_.1)); replace HO525 := Aside0.mk (Kd.R_mono (Kd.R_told (Kd.R_told (Kd.R_old (rz HO525) hb) (Kd.R_base ho0)) (Kd.R_base ho1)) (fun _ h_ => h_.1)); replace HO529 := Aside0.mk (Kd.R_mono (Kd.R_told (Kd.R_told (Kd.R_old (rz HO529) hb) (Kd.R_base ho0)) (Kd.R_base ho1)) (fun _ h_ => h_.1)); replace HO532 := Aside0.mk (Kd.R_mono (Kd.R_told (Kd.R_told (Kd.R_old (rz HO532) hb) (Kd.R_base ho0)) (Kd.R_base ho1)) (fun _ h_ => h_.1)); replace HO536 := Aside0.mk (Kd.R_mono (Kd.R_told (Kd.R_told (Kd.R_old (rz HO536) hb) (Kd.R_base ho0)) (Kd.R_base ho1)) (fun _ h_ => h_.1)); replace HO539 := Aside0.mk (Kd.R_mono (Kd.R_told (Kd.R_told (Kd.R_old (rz HO539) hb) (Kd.R_base ho0)) (Kd.R_base ho1)) (fun _ h_ => h_.1)); replace BK517 := kb BK517 hb; replace HB := bp hb; clear hb ho0 ho1; obtain ⟨Ao34, co34, eo34⟩ := Kd.R_slice HO543.out
      (first | subst eo34 | (injection eo34 with f1_ f2_ f3_; have f4_ := f1_.symm; have f5_ := f3_.symm; clear f1_ f2_ f3_; subst f4_; subst f5_))
      obtain ⟨Ao36, co36, eo36⟩ := Kd.R_slice HO546.out
      (first | subst eo36 | (injection eo36 with f1_ f2_ f3_; have f4_ := f1_.symm; have f5_ := f3_.symm; clear f1_ f2_ f3_; subst f4_; subst f5_))
      refine hK.out _ _ ⟨ct BK517 0, ct BK517 1, ct BK517 2⟩ (fun hHeld => ?_); clear hK K; refine zM 30 ?_; refine last_ (i := 4) (N := none) (bs 5 31) rfl rfl (by kernel_rfl) (by decide) (fun K hK => ?_); have hs33 : w32.cell? ⟨gb517, 0, none⟩ = some (.bool t526) := ct BK517 0; have hfs33 := blk_frozen BK517.out 0; have hs35 : w32.cell? ⟨gb517, 1, none⟩ = some (.slice Ao23 t527.length co23) := ct BK517 1; have hfs35 := blk_frozen BK517.out 1; have hs37 : w32.cell? ⟨gb517, 2, none⟩ = some (.slice Ao25 t530.length co25) := ct BK517 2; have hfs37 := blk_frozen BK517.out 2; refine skip_ (w1 := ?_) (by rfl) rfl ?_ ?_
      rotate_left
      ·go_simp
       rfl
      refine hK.out _ _ ?_; clear hK K; refine done_ (by kernel_rfl) ?_
      try go_wp2
      go_roundg k1
      case measure => have := HK1.out; omega
      case rel => exact ⟨(wrap64 (x4_1 + 1)), (t540), (t541), (t544), (.slice Ao34 t541.length co34), (.slice Ao36 t544.length co36), jz, H', ⟨by have := HK1.out; omega⟩, ⟨by (with_reducible repeat (first | apply Kd.R_alloc | apply Kd.R_drewN | apply Kd.R_drew)); exact Kd.R_mono (Kd.R_far (p := ⟨gb517, 2, none⟩) (Kd.R_far (p := ⟨gb517, 1, none⟩) (Kd.R_far (p := ⟨gb517, 0, none⟩) (Kd.R_types HO543.out BK517.out (by decide)) (fun _ hk => hk.2) (.bool t540)) (fun _ hk => hk.2) (.slice Ao34 t541.length co34)) (fun _ hk => hk.2) (.slice Ao36 t544.length co36)) (fun _ hk => hk.1.1.1.1.1.1.1.1.1)⟩, ⟨by (with_reducible repeat (first | apply Kd.R_alloc | apply Kd.R_drewN | apply Kd.R_drew)); exact Kd.R_mono (Kd.R_far (p := ⟨gb517, 2, none⟩) (Kd.R_far (p := ⟨gb517, 1, none⟩) (Kd.R_far (p := ⟨gb517, 0, none⟩) (Kd.R_types HO546.out BK517.out (by decide)) (fun _ hk => hk.2) (.bool t540)) (fun _ hk => hk.2) (.slice Ao34 t541.length co34)) (fun _ hk => hk.2) (.slice Ao36 t544.length co36)) (fun _ hk => hk.1.1.1.1.1.1.1.1.1)⟩, ⟨by (with_reducible repeat (first | refine blk_drewN ?_ _ | refine blk_drew ?_ | refine blk_alloc ?_ _)); refine blk_put (cs := #[.bool t540, .slice Ao34 t541.length co34, .slice Ao25 t530.length co25]) ?_ 2 _ rfl; (with_reducible repeat (first | refine blk_drewN ?_ _ | refine blk_drew ?_ | refine blk_alloc ?_ _)); refine blk_put (cs := #[.bool t540, .slice Ao23 t527.length co23, .slice Ao25 t530.length co25]) ?_ 1 _ rfl; (with_reducible repeat (first | refine blk_drewN ?_ _ | refine blk_drew ?_ | refine blk_alloc ?_ _)); refine blk_put (cs := #[.bool t526, .slice Ao23 t527.length co23, .slice Ao25 t530.length co25]) ?_ 0 _ rfl; (with_reducible repeat (first | refine blk_drewN ?_ _ | refine blk_drew ?_ | refine blk_alloc ?_ _)); exact BK517.out⟩, ⟨bz⟩⟩
     ·rw [if_neg c10] at H; have c10b0 : decide (((rd_T77 l0 x4_1).f0) < 0) = false := decide_eq_false c10; clear c10; obtain ⟨⟨t547, t548, t551⟩, A38, H⟩ := ob H
      (try dsimp only at H)
      obtain ⟨⟨t554, t555, t558⟩, A39, H⟩ := ob H
      (try dsimp only at H)
      have H' := Aside0.mk H; clear H; have p518 : 0 ≤ (x4_1 : Int) := od; have q518 : x4_1 < (l0.length : Int) := od; obtain ⟨ad518, e518, hx518_0, hx518_1, hx518_2, hx518_3⟩ := at_T77 HR0.out x4_1 p518 q518
      cases e518
      replace hx518_0 := cl HB hx518_0; replace hx518_1 := cl HB hx518_1; replace hx518_2 := cl HB hx518_2; replace hx518_3 := cl HB hx518_3; replace p518 := eq_true p518; replace q518 := eq_true q518
      try go_wp2
      replace HO_518001 := Aside0.mk (Kd.R_drew HO_518001.out); replace HO_518002 := Aside0.mk (Kd.R_drew HO_518002.out); replace BK517 := Aside0.mk (blk_drew BK517.out); replace HB := Aside0.mk (below_drew1 HB.out); refine start_ (n := 5) (S := fun w' => w'.cell? ⟨gb517, 0, none⟩ = some (.bool x518000_1) ∧ w'.cell? ⟨gb517, 1, none⟩ = some (u518001) ∧ w'.cell? ⟨gb517, 2, none⟩ = some (u518002)) (ds := [4]) (bs 5 0) (by kernel_rfl) rfl rfl ⟨ct BK517 0, ct BK517 1, ct BK517 2⟩ (fun hHeld => ?_)
      generalize wr.drew = w40 at HO_518001 HO_518002 BK517 HB hHeld ⊢; refine pure_ (i := 1) (N := some 28) (v := ?_) (a' := ?_) (bs 5 2) rfl rfl (by kernel_rfl) (fun _ _ _ h => h) (Or.inl ⟨by rfl, ?_⟩) ?_ ?_
      rotate_left
      ·intro w'
       go_simp
       with_reducible rfl
      rotate_left
      ·simp only [Act.put, List.setIfInBounds_toArray, List.set_cons_zero, List.set_cons_succ, i64_w, i32_w]
       rfl
      refine take_ (i := 0) (N := some 27) (v := ?_) (a' := ?_) (bs 5 3) rfl rfl (by kernel_rfl) (fun _ _ _ h => h) (Or.inl ⟨by rfl, ?_⟩) hHeld ?_ ?_
      rotate_left
      ·rintro w' ⟨s0, s1, s2⟩
       go_simp
       with_reducible rfl
      rotate_left
      ·simp only [Act.put, List.setIfInBounds_toArray, List.set_cons_zero, List.set_cons_succ, i64_w, i32_w]
       rfl
      refine one_ (i := 2) (N := some 29) (bs 5 7) rfl rfl (by kernel_rfl) (by decide) (fun K hK => ?_); refine zG Try.func68 #[.int .i64 ((rd_T77 l0 x4_1).f0), .int .i64 1] ?_
      with_reducible refine (dioramaref10_ratio.calls k1 ((rd_T77 l0 x4_1).f0) 1 t547 t548 t551 _ A38.out).mono ?_
      rintro e w41 ⟨v549, v552, rfl, ho0, ho1, hb⟩; refine ⟨_, rfl, ?_⟩; have HO550 := Aside0.mk (Kd.R_lower (Kd.R_new' (Kd.R_new' ho0 (Kd.R_lt (rz HO_518001))) (Kd.R_lt (rz HO_518002))) sz); have HO553 := Aside0.mk (Kd.R_lower (Kd.R_new' (Kd.R_new' ho1 (Kd.R_lt (rz HO_518001))) (Kd.R_lt (rz HO_518002))) sz); replace HO_518001 := Aside0.mk (Kd.R_mono (Kd.R_told (Kd.R_told (Kd.R_old (rz HO_518001) hb) (Kd.R_base ho0)) (Kd.R_base ho1)) (fun _ h_ => h_.1)); replace HO_518002 := Aside0.mk (Kd.R_mono (Kd.R_told (Kd.R_told (Kd.R_old (rz HO_518002) hb) (Kd.R_base ho0)) (Kd.R_base ho1)) (fun _ h_ => h_.1)); replace BK517 := kb BK517 hb; replace HB := bp hb; clear hb ho0 ho1; obtain ⟨Ao42, co42, eo42⟩ := Kd.R_slice HO_518001.out
      (first | subst eo42 | (injection eo42 with f1_ f2_ f3_; have f4_ := f1_.symm; have f5_ := f3_.symm; clear f1_ f2_ f3_; subst f4_; subst f5_))
      obtain ⟨Ao43, co43, eo43⟩ := Kd.R_slice HO_518002.out
      (first | subst eo43 | (injection eo43 with f1_ f2_ f3_; have f4_ := f1_.symm; have f5_ := f3_.symm; clear f1_ f2_ f3_; subst f4_; subst f5_))
      obtain ⟨Ao44, co44, eo44⟩ := Kd.R_slice HO550.out
      (first | subst eo44 | (injection eo44 with f1_ f2_ f3_; have f4_ := f1_.symm; have f5_ := f3_.symm; clear f1_ f2_ f3_; subst f4_; subst f5_))
      obtain ⟨Ao45, co45, eo45⟩ := Kd.R_slice HO553.out
      (first | subst eo45 | (injection eo45 with f1_ f2_ f3_; have f4_ := f1_.symm; have f5_ := f3_.symm; clear f1_ f2_ f3_; subst f4_; subst f5_))
      refine hK.out _ _ ⟨ct BK517 0, ct BK517 1, ct BK517 2⟩ (fun hHeld => ?_); clear hK K; refine zM 29 ?_; refine one_ (i := 3) (N := some 30) (bs 5 15) rfl rfl (by kernel_rfl) (by decide) (fun K hK => ?_); refine zG Try.func69 #[.agg #[.bool x518000_1, .slice Ao42 x518001_1.length co42, .slice Ao43 x518002_1.length co43], .agg #[.bool t547, .slice Ao44 t548.length co44, .slice Ao45 t551.length co45]] ?_
      with_reducible refine (dioramaref10_plus.calls k1 x518000_1 _ _ x518001_1 _ _ x518002_1 t547 _ _ t548 _ _ t551 t554 t555 t558 _ ?side1 ?side2 ?side3 ?side4 ?side5 ?side6 ?side7 ?side8 A39.out).mono ?_
      (case side1 => exact cr HO_518001)
      (case side2 => exact (Kd.R_reads' HO_518001.out).2.1)
      (case side3 => exact cr HO_518002)
      (case side4 => exact (Kd.R_reads' HO_518002.out).2.1)
      (case side5 => exact cr HO550)
      (case side6 => exact (Kd.R_reads' HO550.out).2.1)
      (case side7 => exact cr HO553)
      (case side8 => exact (Kd.R_reads' HO553.out).2.1)
      rintro e w46 ⟨v556, v559, rfl, ho0, ho1, hb⟩; refine ⟨_, rfl, ?_⟩; have HO557 := Aside0.mk (Kd.R_lower (Kd.R_new' (Kd.R_new' (Kd.R_new' (Kd.R_new' ho0 (Kd.R_lt (rz HO_518001))) (Kd.R_lt (rz HO_518002))) (Kd.R_lt (rz HO550))) (Kd.R_lt (rz HO553))) sz); have HO560 := Aside0.mk (Kd.R_lower (Kd.R_new' (Kd.R_new' (Kd.R_new' (Kd.R_new' ho1 (Kd.R_lt (rz HO_518001))) (Kd.R_lt (rz HO_518002))) (Kd.R_lt (rz HO550))) (Kd.R_lt (rz HO553))) sz); replace HO_518001 := Aside0.mk (Kd.R_mono (Kd.R_told (Kd.R_told (Kd.R_old (rz HO_518001) hb) (Kd.R_base ho0)) (Kd.R_base ho1)) (fun _ h_ => h_.1)); replace HO_518002 := Aside0.mk (Kd.R_mono (Kd.R_told (Kd.R_told (Kd.R_old (rz HO_518002) hb) (Kd.R_base ho0)) (Kd.R_base ho1)) (fun _ h_ => h_.1)); replace HO550 := Aside0.mk (Kd.R_mono (Kd.R_told (Kd.R_told (Kd.R_old (rz HO550) hb) (Kd.R_base ho0)) (Kd.R_base ho1)) (fun _ h_ => h_.1)); replace HO553 := Aside0.mk (Kd.R_mono (Kd.R_told (Kd.R_told (Kd.R_old (rz HO553) hb) (Kd.R_base ho0)) (Kd.R_base ho1)) (fun _ h_ => h_.1)); replace BK517 := kb BK517 hb; replace HB := bp hb; clear hb ho0 ho1; obtain ⟨Ao48, co48, eo48⟩ := Kd.R_slice HO557.out
      (first | subst eo48 | (injection eo48 with f1_ f2_ f3_; have f4_ := f1_.symm; have f5_ := f3_.symm; clear f1_ f2_ f3_; subst f4_; subst f5_))
      obtain ⟨Ao50, co50, eo50⟩ := Kd.R_slice HO560.out
      (first | subst eo50 | (injection eo50 with f1_ f2_ f3_; have f4_ := f1_.symm; have f5_ := f3_.symm; clear f1_ f2_ f3_; subst f4_; subst f5_))
      refine hK.out _ _ ⟨ct BK517 0, ct BK517 1, ct BK517 2⟩ (fun hHeld => ?_); clear hK K; refine zM 30 ?_; refine last_ (i := 4) (N := none) (bs 5 31) rfl rfl (by kernel_rfl) (by decide) (fun K hK => ?_); have hs47 : w46.cell? ⟨gb517, 0, none⟩ = some (.bool x518000_1) := ct BK517 0; have hfs47 := blk_frozen BK517.out 0; have hs49 : w46.cell? ⟨gb517, 1, none⟩ = some (.slice Ao42 x518001_1.length co42) := ct BK517 1; have hfs49 := blk_frozen BK517.out 1; have hs51 : w46.cell? ⟨gb517, 2, none⟩ = some (.slice Ao43 x518002_1.length co43) := ct BK517 2; have hfs51 := blk_frozen BK517.out 2; refine skip_ (w1 := ?_) (by rfl) rfl ?_ ?_
      rotate_left
      ·go_simp
       rfl
      refine hK.out _ _ ?_; clear hK K; refine done_ (by kernel_rfl) ?_
      try go_wp2
      go_roundg k1
      case measure => have := HK1.out; omega
      case rel => exact ⟨(wrap64 (x4_1 + 1)), (t554), (t555), (t558), (.slice Ao48 t555.length co48), (.slice Ao50 t558.length co50), jz, H', ⟨by have := HK1.out; omega⟩, ⟨by (with_reducible repeat (first | apply Kd.R_alloc | apply Kd.R_drewN | apply Kd.R_drew)); exact Kd.R_mono (Kd.R_far (p := ⟨gb517, 2, none⟩) (Kd.R_far (p := ⟨gb517, 1, none⟩) (Kd.R_far (p := ⟨gb517, 0, none⟩) (Kd.R_types HO557.out BK517.out (by decide)) (fun _ hk => hk.2) (.bool t554)) (fun _ hk => hk.2) (.slice Ao48 t555.length co48)) (fun _ hk => hk.2) (.slice Ao50 t558.length co50)) (fun _ hk => hk.1.1.1.1.1)⟩, ⟨by (with_reducible repeat (first | apply Kd.R_alloc | apply Kd.R_drewN | apply Kd.R_drew)); exact Kd.R_mono (Kd.R_far (p := ⟨gb517, 2, none⟩) (Kd.R_far (p := ⟨gb517, 1, none⟩) (Kd.R_far (p := ⟨gb517, 0, none⟩) (Kd.R_types HO560.out BK517.out (by decide)) (fun _ hk => hk.2) (.bool t554)) (fun _ hk => hk.2) (.slice Ao48 t555.length co48)) (fun _ hk => hk.2) (.slice Ao50 t558.length co50)) (fun _ hk => hk.1.1.1.1.1)⟩, ⟨by (with_reducible repeat (first | refine blk_drewN ?_ _ | refine blk_drew ?_ | refine blk_alloc ?_ _)); refine blk_put (cs := #[.bool t554, .slice Ao48 t555.length co48, .slice Ao43 x518002_1.length co43]) ?_ 2 _ rfl; (with_reducible repeat (first | refine blk_drewN ?_ _ | refine blk_drew ?_ | refine blk_alloc ?_ _)); refine blk_put (cs := #[.bool t554, .slice Ao42 x518001_1.length co42, .slice Ao43 x518002_1.length co43]) ?_ 1 _ rfl; (with_reducible repeat (first | refine blk_drewN ?_ _ | refine blk_drew ?_ | refine blk_alloc ?_ _)); refine blk_put (cs := #[.bool x518000_1, .slice Ao42 x518001_1.length co42, .slice Ao43 x518002_1.length co43]) ?_ 0 _ rfl; (with_reducible repeat (first | refine blk_drewN ?_ _ | refine blk_drew ?_ | refine blk_alloc ?_ _)); exact BK517.out⟩, ⟨bz⟩⟩
    ·rw [if_neg c9] at H
     exact absurd H (by simp)
   ·rw [if_neg c8] at H; have c8b0 : decide (x4_1 < (l0.length : Int)) = false := decide_eq_false c8; clear c8; have HC52 := Aside0.mk H; clear H
    go_upto_region 10 with (fail)
    go_cut [38] (fun v38 wc => ∃ (kq : Nat) (x38_51 : Bool), v38 = .bool x38_51 ∧ Aside0 (dioramaref10_Length.j1 kq x38_51 x518000_1 x518001_1 x518002_1 = some r) ∧ Aside0 (kq ≤ k1) ∧ Aside0 (Kd.R (Kd.int .i64) 3 wc w.heap.size (fun k_ => some k_ ≠ (u518002 : Value).ownBlock) u518001 x518001_1) ∧ Aside0 (Kd.R (Kd.int .i64) 3 wc w.heap.size (fun k_ => some k_ ≠ (u518001 : Value).ownBlock) u518002 x518002_1) ∧ Aside0 (wc.heap[gb517]? = some (.cells #[.bool x518000_1, u518001, u518002] 95 (0, 0))) ∧ Aside0 (Below w.heap.size w wc))
    case first =>
     have H := HC52.out; clear HC52
     by_cases c53 : x518000_1 = true
     ·subst c53; rw [if_pos rfl] at H; have H' := Aside0.mk H; clear H; obtain ⟨hcz54_0, hcz54_1, hcz54_2, hfz54_0, hfz54_1, hfz54_2⟩ := xc3 BK517; obtain ⟨Ao55, co55, eo55⟩ := Kd.R_slice HO_518001.out; subst eo55
      go_wp2
      go_meet
      case rel => exact ⟨_, (decide ((x518001_1.length : Int) > 0)), jz, H', ⟨by have := HK1.out; first | omega | exact Nat.le_refl _⟩, ⟨rz HO_518001⟩, ⟨rz HO_518002⟩, ⟨kz⟩, ⟨bz⟩⟩
     ·obtain rfl := bf c53; rw [if_neg (show ¬ (false = true) by decide)] at H; have H' := Aside0.mk H; clear H; obtain ⟨hcz56_0, hcz56_1, hcz56_2, hfz56_0, hfz56_1, hfz56_2⟩ := xc3 BK517
      go_wp2
      go_meet
      case rel => exact ⟨_, (false), jz, H', ⟨by have := HK1.out; first | omega | exact Nat.le_refl _⟩, ⟨rz HO_518001⟩, ⟨rz HO_518002⟩, ⟨kz⟩, ⟨bz⟩⟩
    case rest =>
     clear HC52
     try clear c1
     try clear p2
     try clear c5
     try clear p5
     try clear q5
     try clear hx5
     try clear c6
     try clear p6
     try clear c8
     try clear c8b0
     try clear c9
     try clear c9b0
     try clear c10
     try clear c10b0
     try clear p51
     try clear q51
     try clear hx51
     try clear c53
     try clear hcz54_0
     try clear hcz54_1
     try clear hcz54_2
     try clear hcz56_0
     try clear hcz56_1
     try clear hcz56_2
     try clear hfz54_0
     try clear hfz54_1
     try clear hfz54_2
     try clear hfz56_0
     try clear hfz56_1
     try clear hfz56_2
     try clear hx518_0
     try clear hx518_1
     try clear hx518_2
     try clear hx518_3
     try clear p518
     try clear q518
     obtain ⟨kq, x38_51, rfl, HA, HJ51, HO_518001, HO_518002, BK517, HB⟩ := hcut
     cases kq with
     | zero => exact absurd HA.out (by simp [dioramaref10_Length.j1])
     | succ kj51 =>
      have H := HA.out; clear HA; simp only [dioramaref10_Length.j1] at H
      by_cases c57 : x38_51 = true
      ·subst c57; rw [if_pos rfl] at H; obtain rfl := Option.some.inj H
       go_wp2
       go_ret
       exact ⟨ez, bz⟩
      ·obtain rfl := bf c57; rw [if_neg (show ¬ (false = true) by decide)] at H; obtain ⟨⟨t561, t562⟩, A58, H⟩ := ob H
       (try dsimp only at H)
       by_cases c59 : t562 = true
       ·subst c59; rw [if_pos rfl] at H; obtain rfl := Option.some.inj H; obtain ⟨hcz60_0, hcz60_1, hcz60_2, hfz60_0, hfz60_1, hfz60_2⟩ := xc3 BK517; obtain ⟨Ao61, co61, eo61⟩ := Kd.R_slice HO_518001.out; subst eo61
        go_wp2_with (first | ((with_reducible refine gate_callee (f := 70) rfl ?_); refine zC 42 Try.func70 #[.slice Ao61 x518001_1.length co61, .int .i64 1099511627776] ?_; (with_reducible refine (dioramaref02_Small.calls kj51 _ _ x518001_1 1099511627776 t561 true _ ?side1 ?side2 A58.out).mono ?_); (case side1 => exact cr HO_518001); (case side2 => exact (Kd.R_reads' HO_518001.out).2.1); rintro e w62 ⟨rfl, hb⟩; refine ⟨_, rfl, ?_⟩; replace HO_518001 := Aside0.mk (Kd.R_below (rz HO_518001) hb); replace HO_518002 := Aside0.mk (Kd.R_below (rz HO_518002) hb); replace BK517 := kb BK517 hb; replace HB := bp hb; clear hb))
        go_ret
        exact ⟨ez, bz⟩
       ·obtain rfl := bf c59; rw [if_neg (show ¬ (false = true) by decide)] at H; obtain rfl := Option.some.inj H; obtain ⟨hcz63_0, hcz63_1, hcz63_2, hfz63_0, hfz63_1, hfz63_2⟩ := xc3 BK517; obtain ⟨Ao64, co64, eo64⟩ := Kd.R_slice HO_518001.out; subst eo64
        go_wp2_with (first | ((with_reducible refine gate_callee (f := 70) rfl ?_); refine zC 42 Try.func70 #[.slice Ao64 x518001_1.length co64, .int .i64 1099511627776] ?_; (with_reducible refine (dioramaref02_Small.calls kj51 _ _ x518001_1 1099511627776 t561 false _ ?side1 ?side2 A58.out).mono ?_); (case side1 => exact cr HO_518001); (case side2 => exact (Kd.R_reads' HO_518001.out).2.1); rintro e w65 ⟨rfl, hb⟩; refine ⟨_, rfl, ?_⟩; replace HO_518001 := Aside0.mk (Kd.R_below (rz HO_518001) hb); replace HO_518002 := Aside0.mk (Kd.R_below (rz HO_518002) hb); replace BK517 := kb BK517 hb; replace HB := bp hb; clear hb))
        go_ret
        exact ⟨ez, bz⟩
end Go.Proofs.Ytpbhepdgamoiaaa.E
namespace Go.Proofs.Ytpbhepdgamoiaaa.E
open Go.Proofs.Ytpbhepdgamoiaaa.Z Go.RowKit Go.Proofs.YtpbhepdgamoiaaaW.PrintWords Go.Proofs.YtpbhepdgamoiaaaW.PrintLast Go.Proofs.YtpbhepdgamoiaaaW.PrintMore
attribute [local go_sem] max2_int min2_int max_two min_two max_three min_three max_four min_four
set_option linter.unusedVariables false
set_option linter.unusedSimpArgs false
attribute [local go_sem high] eqA77
def dioramalaw10_EditChecks.f (k : Nat) (l0_0 : List (S77)) (a0_1 : Int) (a0_2 : Int) : Option (Bool) := (dioramalaw10_many.f l0_0).bind fun t564 => (if t564 = true then ((dioramalaw10_awake.f k).bind fun t565 => (some t565)) else ((edit_Normal.f k l0_0 a0_1 a0_2).bind fun bt566 => ((dioramaref10_Normal.f k l0_0 a0_1 a0_2).bind fun bt570 => ((dioramalaw10_eq.f k bt566.1 bt566.2 bt570.1 bt570.2).bind fun t574 => (if t574 = true then ((edit_Check.f k l0_0 a0_1 a0_2).bind fun t575 => ((dioramaref10_Check.f k l0_0 a0_1 a0_2).bind fun t576 => (if t575 = t576 then ((edit_Length.f l0_0).bind fun t577 => ((dioramaref10_Length.f k l0_0).bind fun t578 => (if t577 = t578 then ((dioramalaw10_awake.f k).bind fun t579 => (some t579)) else (some false)))) else (some false)))) else (some false))))))
set_option maxHeartbeats 8000000 in
set_option maxRecDepth 100000 in
theorem dioramalaw10_EditChecks.calls (k : Nat) (A0_0 : Option Addr) (c0_0 : Nat) (l0_0 : List (S77)) (a0_1 : Int) (a0_2 : Int) (r : Bool) (w : World) (hr0_0 : Kd.C k77 w A0_0 l0_0.length l0_0) (hc0_0 : l0_0.length ≤ c0_0) (h : dioramalaw10_EditChecks.f k l0_0 a0_1 a0_2 = some r) :
  Calls Try.prog 3 #[.agg #[.slice A0_0 l0_0.length c0_0, .int .i64 a0_1, .int .i64 a0_2]] w fun e w' => e = .returned (.bool r) ∧ Below w.heap.size w w' := by
 have hu24 := Try.underlying24; have HR0_0 := Aside0.mk hr0_0; have HC0_0 := Aside0.mk hc0_0; clear hr0_0 hc0_0; have HB := Aside0.mk (Below.refl w.heap.size w); have H : ((dioramalaw10_many.f l0_0).bind fun t564 => (if t564 = true then ((dioramalaw10_awake.f k).bind fun t565 => (some t565)) else ((edit_Normal.f k l0_0 a0_1 a0_2).bind fun bt566 => ((dioramaref10_Normal.f k l0_0 a0_1 a0_2).bind fun bt570 => ((dioramalaw10_eq.f k bt566.1 bt566.2 bt570.1 bt570.2).bind fun t574 => (if t574 = true then ((edit_Check.f k l0_0 a0_1 a0_2).bind fun t575 => ((dioramaref10_Check.f k l0_0 a0_1 a0_2).bind fun t576 => (if t575 = t576 then ((edit_Length.f l0_0).bind fun t577 => ((dioramaref10_Length.f k l0_0).bind fun t578 => (if t577 = t578 then ((dioramalaw10_awake.f k).bind fun t579 => (some t579)) else (some false)))) else (some false)))) else (some false))))))) = some r := h
 clear h; obtain ⟨t564, A2, H⟩ := ob H
 by_cases c3 : t564 = true
 ·subst c3; rw [if_pos rfl] at H; obtain ⟨t565, A4, H⟩ := ob H; obtain rfl := Option.some.inj H
  go_enter Try.func3, Try.ntmps3
  go_wp2_with (first | ((with_reducible refine gate_dst (N := 1) rfl ?_); refine zB 1 24 #[.slice A0_0 l0_0.length c0_0, .int .i64 a0_1, .int .i64 a0_2] ?_; intro gb563 hg w5 hbox hb; have BK563 := Aside0.mk hbox; have GW563 := gz hg; have GE563 := gz hg; replace HB := bp hb; clear hb hbox hg; obtain ⟨hcz6_0, hcz6_1, hcz6_2, hfz6_0, hfz6_1, hfz6_2⟩ := xc3 BK563) | ((with_reducible refine gate_callee (f := 19) rfl ?_); refine zC 9 Try.func19 #[.slice A0_0 l0_0.length c0_0] ?_; (with_reducible refine (dioramalaw10_many.calls _ _ l0_0 true _ ?side1 ?side2 A2.out).mono ?_); (case side1 => exact cz HR0_0); (case side2 => exact HC0_0.out); rintro e w' ⟨rfl, ⟨nd, rfl⟩⟩; refine ⟨_, rfl, ?_⟩) | ((with_reducible refine gate_callee (f := 20) rfl ?_); refine zC 10 Try.func20 #[] ?_; (with_reducible refine (dioramalaw10_awake.calls k  t565 _ A4.out).mono ?_); rintro e w7 ⟨rfl, hb⟩; refine ⟨_, rfl, ?_⟩; replace BK563 := kb BK563 hb; replace HB := bp hb; clear hb))
  go_ret
  exact ⟨ez, bz⟩
 ·obtain rfl := bf c3; rw [if_neg (show ¬ (false = true) by decide)] at H; obtain ⟨⟨t566, t567⟩, A8, H⟩ := ob H
  (try dsimp only at H)
  obtain ⟨⟨t570, t571⟩, A9, H⟩ := ob H
  (try dsimp only at H)
  obtain ⟨t574, A10, H⟩ := ob H
  by_cases c11 : t574 = true
  ·subst c11; rw [if_pos rfl] at H; obtain ⟨t575, A12, H⟩ := ob H; obtain ⟨t576, A13, H⟩ := ob H
   by_cases c14 : t575 = t576
   ·rw [if_pos c14] at H; have c14b0 : (t575 == t576) = true := beq_iff_eq.mpr c14; have c14b1 : (t575 != t576) = false := bne_eq_false_iff_eq.mpr c14; clear c14; obtain ⟨t577, A15, H⟩ := ob H; obtain ⟨t578, A16, H⟩ := ob H
    by_cases c17 : t577 = t578
    ·rw [if_pos c17] at H; have c17b0 : (t577 == t578) = true := beq_iff_eq.mpr c17; have c17b1 : (t577 != t578) = false := bne_eq_false_iff_eq.mpr c17; clear c17; obtain ⟨t579, A18, H⟩ := ob H; obtain rfl := Option.some.inj H
     go_enter Try.func3, Try.ntmps3
     try go_wp2_with (first | ((with_reducible refine gate_dst (N := 1) rfl ?_); refine zB 1 24 #[.slice A0_0 l0_0.length c0_0, .int .i64 a0_1, .int .i64 a0_2] ?_; intro gb563 hg w19 hbox hb; have BK563 := Aside0.mk hbox; have GW563 := gz hg; have GE563 := gz hg; replace HB := bp hb; clear hb hbox hg; obtain ⟨hcz20_0, hcz20_1, hcz20_2, hfz20_0, hfz20_1, hfz20_2⟩ := xc3 BK563) | ((with_reducible refine gate_callee (f := 19) rfl ?_); refine zC 9 Try.func19 #[.slice A0_0 l0_0.length c0_0] ?_; (with_reducible refine (dioramalaw10_many.calls _ _ l0_0 false _ ?side1 ?side2 A2.out).mono ?_); (case side1 => exact cz HR0_0); (case side2 => exact HC0_0.out); rintro e w' ⟨rfl, ⟨nd, rfl⟩⟩; refine ⟨_, rfl, ?_⟩) | ((with_reducible refine gate_callee (f := 21) rfl ?_); refine zC 18 Try.func21 #[.slice A0_0 l0_0.length c0_0, .int .i64 a0_1, .int .i64 a0_2] ?_; (with_reducible refine (edit_Normal.calls k _ _ l0_0 a0_1 a0_2 t566 t567 _ ?side1 ?side2 A8.out).mono ?_); (case side1 => repeat (first | exact (Kd.C_below HR0_0.out bz) | (with_reducible refine Kd.C_alloc ?_ _) | (with_reducible refine Kd.C_drewN ?_ _) | (with_reducible refine Kd.C_drew ?_))); (case side2 => exact HC0_0.out); rintro e w21 ⟨v568, rfl, ho0, hb⟩; refine ⟨_, rfl, ?_⟩; have HO569 := Aside0.mk (Kd.R_lower ho0 sz); replace BK563 := kb BK563 hb; replace HB := bp hb; clear hb ho0; obtain ⟨hcz22_0, hcz22_1, hcz22_2, hfz22_0, hfz22_1, hfz22_2⟩ := xc3 BK563) | ((with_reducible refine gate_callee (f := 22) rfl ?_); refine zC 28 Try.func22 #[.slice A0_0 l0_0.length c0_0, .int .i64 a0_1, .int .i64 a0_2] ?_; (with_reducible refine (dioramaref10_Normal.calls k _ _ l0_0 a0_1 a0_2 t570 t571 _ ?side1 ?side2 A9.out).mono ?_); (case side1 => exact cz HR0_0); (case side2 => exact HC0_0.out); rintro e w23 ⟨v572, rfl, ho0, hb⟩; refine ⟨_, rfl, ?_⟩; have HO573 := Aside0.mk (Kd.R_lower (Kd.R_new' ho0 (Kd.R_lt (rz HO569))) sz); replace HO569 := Aside0.mk (Kd.R_elder' (rz HO569) (Kd.R_base ho0) hb); replace BK563 := kb BK563 hb; replace HB := bp hb; clear hb ho0))
     replace HO569 := Aside0.mk (Kd.R_drew HO569.out); replace HO573 := Aside0.mk (Kd.R_drew HO573.out); replace BK563 := Aside0.mk (blk_drew BK563.out); replace HB := Aside0.mk (below_drew1 HB.out); obtain ⟨Ao25, co25, eo25⟩ := Kd.R_slice HO569.out
     (first | subst eo25 | (injection eo25 with f1_ f2_ f3_; have f4_ := f1_.symm; have f5_ := f3_.symm; clear f1_ f2_ f3_; subst f4_; subst f5_))
     obtain ⟨Ao26, co26, eo26⟩ := Kd.R_slice HO573.out
     (first | subst eo26 | (injection eo26 with f1_ f2_ f3_; have f4_ := f1_.symm; have f5_ := f3_.symm; clear f1_ f2_ f3_; subst f4_; subst f5_))
     refine start_ (n := 35) (S := fun w' => w'.cell? ⟨gb563, 0, none⟩ = some (.slice A0_0 l0_0.length c0_0) ∧ w'.cell? ⟨gb563, 1, none⟩ = some (.int .i64 a0_1) ∧ w'.cell? ⟨gb563, 2, none⟩ = some (.int .i64 a0_2)) (ds := []) (bs 35 0) (by kernel_rfl) rfl rfl ⟨ct BK563 0, ct BK563 1, ct BK563 2⟩ (fun hHeld => ?_)
     generalize w23.drew = w24 at HO569 HO573 BK563 HB hHeld ⊢; refine zP 0 31 35 1 ?_; refine zP 1 32 35 3 ?_; refine zP 2 33 35 7 ?_; refine zP 3 34 35 15 ?_; refine zN 4 (some 35) 35 31 (fun K hK => ?_); refine zG Try.func23 #[.slice Ao25 t566.length co25, .int .i64 t567, .slice Ao26 t570.length co26, .int .i64 t571] ?_
     with_reducible refine (dioramalaw10_eq.calls k _ _ t566 t567 _ _ t570 t571 true _ ?side1 ?side2 ?side3 ?side4 A10.out).mono ?_
     (case side1 => exact cr HO569)
     (case side2 => exact (Kd.R_reads' HO569.out).2.1)
     (case side3 => exact cr HO573)
     (case side4 => exact (Kd.R_reads' HO573.out).2.1)
     rintro e w' ⟨rfl, ⟨nd, rfl⟩⟩; refine ⟨_, rfl, ?_⟩; refine hK.out _ _ ⟨ct BK563 0, ct BK563 1, ct BK563 2⟩ (fun hHeld => ?_); clear hK K; refine zM 35 ?_; refine zP 5 36 35 63 ?_; refine zP 6 37 35 127 ?_; refine zP 8 39 35 383 ?_; refine zP 10 41 35 1407 ?_; refine zP 13 44 35 9599 ?_; refine zP 15 46 35 42367 ?_; refine zP 17 48 35 173439 ?_; refine zT 7 38 35 173567 hHeld ?_; refine zT 9 40 35 174079 hHeld ?_; refine zT 11 42 35 176127 hHeld ?_; refine zT 14 45 35 192511 hHeld ?_; refine zT 16 47 35 258047 hHeld ?_; refine zT 18 49 35 520191 hHeld ?_; refine zN 12 (some 43) 35 524287 (fun K hK => ?_); refine zG Try.func24 #[.slice A0_0 l0_0.length c0_0, .int .i64 a0_1, .int .i64 a0_2] ?_
     with_reducible refine (edit_Check.calls k _ _ l0_0 a0_1 a0_2 t575 _ ?side1 ?side2 A12.out).mono ?_
     (case side1 => repeat (first | exact (Kd.C_below HR0_0.out bz) | (with_reducible refine Kd.C_alloc ?_ _) | (with_reducible refine Kd.C_drewN ?_ _) | (with_reducible refine Kd.C_drew ?_)))
     (case side2 => exact HC0_0.out)
     rintro e w27 ⟨rfl, hb⟩; refine ⟨_, rfl, ?_⟩; replace HO569 := Aside0.mk (Kd.R_below (rz HO569) hb); replace HO573 := Aside0.mk (Kd.R_below (rz HO573) hb); replace BK563 := kb BK563 hb; replace HB := bp hb; clear hb; refine hK.out _ _ ⟨ct BK563 0, ct BK563 1, ct BK563 2⟩ (fun hHeld => ?_); clear hK K; refine zM 43 ?_; refine zN 19 (some 50) 35 1048575 (fun K hK => ?_); refine zG Try.func25 #[.slice A0_0 l0_0.length c0_0, .int .i64 a0_1, .int .i64 a0_2] ?_
     with_reducible refine (dioramaref10_Check.calls k _ _ l0_0 a0_1 a0_2 t576 _ ?side1 ?side2 A13.out).mono ?_
     (case side1 => exact cz HR0_0)
     (case side2 => exact HC0_0.out)
     rintro e w28 ⟨rfl, hb⟩; refine ⟨_, rfl, ?_⟩; replace HO569 := Aside0.mk (Kd.R_below (rz HO569) hb); replace HO573 := Aside0.mk (Kd.R_below (rz HO573) hb); replace BK563 := kb BK563 hb; replace HB := bp hb; clear hb; refine hK.out _ _ ⟨ct BK563 0, ct BK563 1, ct BK563 2⟩ (fun hHeld => ?_); clear hK K; refine zM 50 ?_; refine zP 20 51 35 2097151 ?_; refine zP 21 52 35 4194303 ?_; refine zP 22 53 35 8388607 ?_; refine zP 23 54 35 16777215 ?_; refine zP 26 57 35 83886079 ?_; refine zT 24 55 35 100663295 hHeld ?_; refine zT 27 58 35 234881023 hHeld ?_; refine zN 25 (some 56) 35 268435455 (fun K hK => ?_); refine zG Try.func26 #[.slice A0_0 l0_0.length c0_0] ?_
     with_reducible refine (edit_Length.calls _ _ l0_0 t577 _ ?side1 ?side2 A15.out).mono ?_
     (case side1 => exact cz HR0_0)
     (case side2 => exact HC0_0.out)
     rintro e w29 ⟨rfl, hb⟩; refine ⟨_, rfl, ?_⟩; replace HO569 := Aside0.mk (Kd.R_below (rz HO569) hb); replace HO573 := Aside0.mk (Kd.R_below (rz HO573) hb); replace BK563 := kb BK563 hb; replace HB := bp hb; clear hb; refine hK.out _ _ ⟨ct BK563 0, ct BK563 1, ct BK563 2⟩ (fun hHeld => ?_); clear hK K; refine zM 56 ?_; refine zN 28 (some 59) 35 536870911 (fun K hK => ?_); refine zG Try.func27 #[.slice A0_0 l0_0.length c0_0] ?_
     with_reducible refine (dioramaref10_Length.calls k _ _ l0_0 t578 _ ?side1 ?side2 A16.out).mono ?_
     (case side1 => exact cz HR0_0)
     (case side2 => exact HC0_0.out)
     rintro e w30 ⟨rfl, hb⟩; refine ⟨_, rfl, ?_⟩; replace HO569 := Aside0.mk (Kd.R_below (rz HO569) hb); replace HO573 := Aside0.mk (Kd.R_below (rz HO573) hb); replace BK563 := kb BK563 hb; replace HB := bp hb; clear hb; refine hK.out _ _ ⟨ct BK563 0, ct BK563 1, ct BK563 2⟩ (fun hHeld => ?_); clear hK K; refine zM 59 ?_; refine zP 29 60 35 1073741823 ?_; refine zP 30 61 35 2147483647 ?_; refine zP 31 62 35 4294967295 ?_; refine zN 32 (some 63) 35 8589934591 (fun K hK => ?_); refine zG Try.func20 #[] ?_
     with_reducible refine (dioramalaw10_awake.calls k  t579 _ A18.out).mono ?_
     rintro e w31 ⟨rfl, hb⟩; refine ⟨_, rfl, ?_⟩; replace HO569 := Aside0.mk (Kd.R_below (rz HO569) hb); replace HO573 := Aside0.mk (Kd.R_below (rz HO573) hb); replace BK563 := kb BK563 hb; replace HB := bp hb; clear hb; refine hK.out _ _ ⟨ct BK563 0, ct BK563 1, ct BK563 2⟩ (fun hHeld => ?_); clear hK K; refine zM 63 ?_; refine zP 33 64 35 17179869183 ?_; refine zP 34 2 35 34359738367 ?_; refine done_ (by kernel_rfl) ?_
     try go_wp2
     go_ret
     exact ⟨ez, bz⟩
    ·rw [if_neg c17] at H; have c17b0 : (t577 == t578) = false := beq_eq_false_iff_ne.mpr c17; have c17b1 : (t577 != t578) = true := bne_iff_ne.mpr c17; obtain rfl := Option.some.inj H
     go_enter Try.func3, Try.ntmps3
     try go_wp2_with (first | ((with_reducible refine gate_dst (N := 1) rfl ?_); refine zB 1 24 #[.slice A0_0 l0_0.length c0_0, .int .i64 a0_1, .int .i64 a0_2] ?_; intro gb563 hg w32 hbox hb; have BK563 := Aside0.mk hbox; have GW563 := gz hg; have GE563 := gz hg; replace HB := bp hb; clear hb hbox hg; obtain ⟨hcz33_0, hcz33_1, hcz33_2, hfz33_0, hfz33_1, hfz33_2⟩ := xc3 BK563) | ((with_reducible refine gate_callee (f := 19) rfl ?_); refine zC 9 Try.func19 #[.slice A0_0 l0_0.length c0_0] ?_; (with_reducible refine (dioramalaw10_many.calls _ _ l0_0 false _ ?side1 ?side2 A2.out).mono ?_); (case side1 => exact cz HR0_0); (case side2 => exact HC0_0.out); rintro e w' ⟨rfl, ⟨nd, rfl⟩⟩; refine ⟨_, rfl, ?_⟩) | ((with_reducible refine gate_callee (f := 21) rfl ?_); refine zC 18 Try.func21 #[.slice A0_0 l0_0.length c0_0, .int .i64 a0_1, .int .i64 a0_2] ?_; (with_reducible refine (edit_Normal.calls k _ _ l0_0 a0_1 a0_2 t566 t567 _ ?side1 ?side2 A8.out).mono ?_); (case side1 => repeat (first | exact (Kd.C_below HR0_0.out bz) | (with_reducible refine Kd.C_alloc ?_ _) | (with_reducible refine Kd.C_drewN ?_ _) | (with_reducible refine Kd.C_drew ?_))); (case side2 => exact HC0_0.out); rintro e w34 ⟨v568, rfl, ho0, hb⟩; refine ⟨_, rfl, ?_⟩; have HO569 := Aside0.mk (Kd.R_lower ho0 sz); replace BK563 := kb BK563 hb; replace HB := bp hb; clear hb ho0; obtain ⟨hcz35_0, hcz35_1, hcz35_2, hfz35_0, hfz35_1, hfz35_2⟩ := xc3 BK563) | ((with_reducible refine gate_callee (f := 22) rfl ?_); refine zC 28 Try.func22 #[.slice A0_0 l0_0.length c0_0, .int .i64 a0_1, .int .i64 a0_2] ?_; (with_reducible refine (dioramaref10_Normal.calls k _ _ l0_0 a0_1 a0_2 t570 t571 _ ?side1 ?side2 A9.out).mono ?_); (case side1 => exact cz HR0_0); (case side2 => exact HC0_0.out); rintro e w36 ⟨v572, rfl, ho0, hb⟩; refine ⟨_, rfl, ?_⟩; have HO573 := Aside0.mk (Kd.R_lower (Kd.R_new' ho0 (Kd.R_lt (rz HO569))) sz); replace HO569 := Aside0.mk (Kd.R_elder' (rz HO569) (Kd.R_base ho0) hb); replace BK563 := kb BK563 hb; replace HB := bp hb; clear hb ho0))
     replace HO569 := Aside0.mk (Kd.R_drew HO569.out); replace HO573 := Aside0.mk (Kd.R_drew HO573.out); replace BK563 := Aside0.mk (blk_drew BK563.out); replace HB := Aside0.mk (below_drew1 HB.out); obtain ⟨Ao38, co38, eo38⟩ := Kd.R_slice HO569.out
     (first | subst eo38 | (injection eo38 with f1_ f2_ f3_; have f4_ := f1_.symm; have f5_ := f3_.symm; clear f1_ f2_ f3_; subst f4_; subst f5_))
     obtain ⟨Ao39, co39, eo39⟩ := Kd.R_slice HO573.out
     (first | subst eo39 | (injection eo39 with f1_ f2_ f3_; have f4_ := f1_.symm; have f5_ := f3_.symm; clear f1_ f2_ f3_; subst f4_; subst f5_))
     refine start_ (n := 35) (S := fun w' => w'.cell? ⟨gb563, 0, none⟩ = some (.slice A0_0 l0_0.length c0_0) ∧ w'.cell? ⟨gb563, 1, none⟩ = some (.int .i64 a0_1) ∧ w'.cell? ⟨gb563, 2, none⟩ = some (.int .i64 a0_2)) (ds := []) (bs 35 0) (by kernel_rfl) rfl rfl ⟨ct BK563 0, ct BK563 1, ct BK563 2⟩ (fun hHeld => ?_)
     generalize w36.drew = w37 at HO569 HO573 BK563 HB hHeld ⊢; refine zP 0 31 35 1 ?_; refine zP 1 32 35 3 ?_; refine zP 2 33 35 7 ?_; refine zP 3 34 35 15 ?_; refine zN 4 (some 35) 35 31 (fun K hK => ?_); refine zG Try.func23 #[.slice Ao38 t566.length co38, .int .i64 t567, .slice Ao39 t570.length co39, .int .i64 t571] ?_
     with_reducible refine (dioramalaw10_eq.calls k _ _ t566 t567 _ _ t570 t571 true _ ?side1 ?side2 ?side3 ?side4 A10.out).mono ?_
     (case side1 => exact cr HO569)
     (case side2 => exact (Kd.R_reads' HO569.out).2.1)
     (case side3 => exact cr HO573)
     (case side4 => exact (Kd.R_reads' HO573.out).2.1)
     rintro e w' ⟨rfl, ⟨nd, rfl⟩⟩; refine ⟨_, rfl, ?_⟩; refine hK.out _ _ ⟨ct BK563 0, ct BK563 1, ct BK563 2⟩ (fun hHeld => ?_); clear hK K; refine zM 35 ?_; refine zP 5 36 35 63 ?_; refine zP 6 37 35 127 ?_; refine zP 8 39 35 383 ?_; refine zP 10 41 35 1407 ?_; refine zP 13 44 35 9599 ?_; refine zP 15 46 35 42367 ?_; refine zP 17 48 35 173439 ?_; refine zT 7 38 35 173567 hHeld ?_; refine zT 9 40 35 174079 hHeld ?_; refine zT 11 42 35 176127 hHeld ?_; refine zT 14 45 35 192511 hHeld ?_; refine zT 16 47 35 258047 hHeld ?_; refine zT 18 49 35 520191 hHeld ?_; refine zN 12 (some 43) 35 524287 (fun K hK => ?_); refine zG Try.func24 #[.slice A0_0 l0_0.length c0_0, .int .i64 a0_1, .int .i64 a0_2] ?_
     with_reducible refine (edit_Check.calls k _ _ l0_0 a0_1 a0_2 t575 _ ?side1 ?side2 A12.out).mono ?_
     (case side1 => repeat (first | exact (Kd.C_below HR0_0.out bz) | (with_reducible refine Kd.C_alloc ?_ _) | (with_reducible refine Kd.C_drewN ?_ _) | (with_reducible refine Kd.C_drew ?_)))
     (case side2 => exact HC0_0.out)
     rintro e w40 ⟨rfl, hb⟩; refine ⟨_, rfl, ?_⟩; replace HO569 := Aside0.mk (Kd.R_below (rz HO569) hb); replace HO573 := Aside0.mk (Kd.R_below (rz HO573) hb); replace BK563 := kb BK563 hb; replace HB := bp hb; clear hb; refine hK.out _ _ ⟨ct BK563 0, ct BK563 1, ct BK563 2⟩ (fun hHeld => ?_); clear hK K; refine zM 43 ?_; refine zN 19 (some 50) 35 1048575 (fun K hK => ?_); refine zG Try.func25 #[.slice A0_0 l0_0.length c0_0, .int .i64 a0_1, .int .i64 a0_2] ?_
     with_reducible refine (dioramaref10_Check.calls k _ _ l0_0 a0_1 a0_2 t576 _ ?side1 ?side2 A13.out).mono ?_
     (case side1 => exact cz HR0_0)
     (case side2 => exact HC0_0.out)
     rintro e w41 ⟨rfl, hb⟩; refine ⟨_, rfl, ?_⟩; replace HO569 := Aside0.mk (Kd.R_below (rz HO569) hb); replace HO573 := Aside0.mk (Kd.R_below (rz HO573) hb); replace BK563 := kb BK563 hb; replace HB := bp hb; clear hb; refine hK.out _ _ ⟨ct BK563 0, ct BK563 1, ct BK563 2⟩ (fun hHeld => ?_); clear hK K; refine zM 50 ?_; refine zP 20 51 35 2097151 ?_; refine zP 21 52 35 4194303 ?_; refine zP 22 53 35 8388607 ?_; refine zP 23 54 35 16777215 ?_; refine zP 26 57 35 83886079 ?_; refine zT 24 55 35 100663295 hHeld ?_; refine zT 27 58 35 234881023 hHeld ?_; refine zN 25 (some 56) 35 268435455 (fun K hK => ?_); refine zG Try.func26 #[.slice A0_0 l0_0.length c0_0] ?_
     with_reducible refine (edit_Length.calls _ _ l0_0 t577 _ ?side1 ?side2 A15.out).mono ?_
     (case side1 => exact cz HR0_0)
     (case side2 => exact HC0_0.out)
     rintro e w42 ⟨rfl, hb⟩; refine ⟨_, rfl, ?_⟩; replace HO569 := Aside0.mk (Kd.R_below (rz HO569) hb); replace HO573 := Aside0.mk (Kd.R_below (rz HO573) hb); replace BK563 := kb BK563 hb; replace HB := bp hb; clear hb; refine hK.out _ _ ⟨ct BK563 0, ct BK563 1, ct BK563 2⟩ (fun hHeld => ?_); clear hK K; refine zM 56 ?_; refine zN 28 (some 59) 35 536870911 (fun K hK => ?_); refine zG Try.func27 #[.slice A0_0 l0_0.length c0_0] ?_
     with_reducible refine (dioramaref10_Length.calls k _ _ l0_0 t578 _ ?side1 ?side2 A16.out).mono ?_
     (case side1 => exact cz HR0_0)
     (case side2 => exact HC0_0.out)
     rintro e w43 ⟨rfl, hb⟩; refine ⟨_, rfl, ?_⟩; replace HO569 := Aside0.mk (Kd.R_below (rz HO569) hb); replace HO573 := Aside0.mk (Kd.R_below (rz HO573) hb); replace BK563 := kb BK563 hb; replace HB := bp hb; clear hb; refine hK.out _ _ ⟨ct BK563 0, ct BK563 1, ct BK563 2⟩ (fun hHeld => ?_); clear hK K; refine zM 59 ?_; refine zP 29 60 35 1073741823 ?_; refine zP 30 61 35 2147483647 ?_; refine zP 31 62 35 4294967295 ?_; refine zO 32 63 35 8589934591 ?_; refine zP 33 64 35 17179869183 ?_; refine zP 34 2 35 34359738367 ?_; refine done_ (by kernel_rfl) ?_
     try go_wp2
     go_ret
     exact ⟨ez, bz⟩
   ·rw [if_neg c14] at H; have c14b0 : (t575 == t576) = false := beq_eq_false_iff_ne.mpr c14; have c14b1 : (t575 != t576) = true := bne_iff_ne.mpr c14; obtain rfl := Option.some.inj H
    go_enter Try.func3, Try.ntmps3
    try go_wp2_with (first | ((with_reducible refine gate_dst (N := 1) rfl ?_); refine zB 1 24 #[.slice A0_0 l0_0.length c0_0, .int .i64 a0_1, .int .i64 a0_2] ?_; intro gb563 hg w44 hbox hb; have BK563 := Aside0.mk hbox; have GW563 := gz hg; have GE563 := gz hg; replace HB := bp hb; clear hb hbox hg; obtain ⟨hcz45_0, hcz45_1, hcz45_2, hfz45_0, hfz45_1, hfz45_2⟩ := xc3 BK563) | ((with_reducible refine gate_callee (f := 19) rfl ?_); refine zC 9 Try.func19 #[.slice A0_0 l0_0.length c0_0] ?_; (with_reducible refine (dioramalaw10_many.calls _ _ l0_0 false _ ?side1 ?side2 A2.out).mono ?_); (case side1 => exact cz HR0_0); (case side2 => exact HC0_0.out); rintro e w' ⟨rfl, ⟨nd, rfl⟩⟩; refine ⟨_, rfl, ?_⟩) | ((with_reducible refine gate_callee (f := 21) rfl ?_); refine zC 18 Try.func21 #[.slice A0_0 l0_0.length c0_0, .int .i64 a0_1, .int .i64 a0_2] ?_; (with_reducible refine (edit_Normal.calls k _ _ l0_0 a0_1 a0_2 t566 t567 _ ?side1 ?side2 A8.out).mono ?_); (case side1 => repeat (first | exact (Kd.C_below HR0_0.out bz) | (with_reducible refine Kd.C_alloc ?_ _) | (with_reducible refine Kd.C_drewN ?_ _) | (with_reducible refine Kd.C_drew ?_))); (case side2 => exact HC0_0.out); rintro e w46 ⟨v568, rfl, ho0, hb⟩; refine ⟨_, rfl, ?_⟩; have HO569 := Aside0.mk (Kd.R_lower ho0 sz); replace BK563 := kb BK563 hb; replace HB := bp hb; clear hb ho0; obtain ⟨hcz47_0, hcz47_1, hcz47_2, hfz47_0, hfz47_1, hfz47_2⟩ := xc3 BK563) | ((with_reducible refine gate_callee (f := 22) rfl ?_); refine zC 28 Try.func22 #[.slice A0_0 l0_0.length c0_0, .int .i64 a0_1, .int .i64 a0_2] ?_; (with_reducible refine (dioramaref10_Normal.calls k _ _ l0_0 a0_1 a0_2 t570 t571 _ ?side1 ?side2 A9.out).mono ?_); (case side1 => exact cz HR0_0); (case side2 => exact HC0_0.out); rintro e w48 ⟨v572, rfl, ho0, hb⟩; refine ⟨_, rfl, ?_⟩; have HO573 := Aside0.mk (Kd.R_lower (Kd.R_new' ho0 (Kd.R_lt (rz HO569))) sz); replace HO569 := Aside0.mk (Kd.R_elder' (rz HO569) (Kd.R_base ho0) hb); replace BK563 := kb BK563 hb; replace HB := bp hb; clear hb ho0))
    replace HO569 := Aside0.mk (Kd.R_drew HO569.out); replace HO573 := Aside0.mk (Kd.R_drew HO573.out); replace BK563 := Aside0.mk (blk_drew BK563.out); replace HB := Aside0.mk (below_drew1 HB.out); obtain ⟨Ao50, co50, eo50⟩ := Kd.R_slice HO569.out
    (first | subst eo50 | (injection eo50 with f1_ f2_ f3_; have f4_ := f1_.symm; have f5_ := f3_.symm; clear f1_ f2_ f3_; subst f4_; subst f5_))
    obtain ⟨Ao51, co51, eo51⟩ := Kd.R_slice HO573.out
    (first | subst eo51 | (injection eo51 with f1_ f2_ f3_; have f4_ := f1_.symm; have f5_ := f3_.symm; clear f1_ f2_ f3_; subst f4_; subst f5_))
    refine start_ (n := 35) (S := fun w' => w'.cell? ⟨gb563, 0, none⟩ = some (.slice A0_0 l0_0.length c0_0) ∧ w'.cell? ⟨gb563, 1, none⟩ = some (.int .i64 a0_1) ∧ w'.cell? ⟨gb563, 2, none⟩ = some (.int .i64 a0_2)) (ds := []) (bs 35 0) (by kernel_rfl) rfl rfl ⟨ct BK563 0, ct BK563 1, ct BK563 2⟩ (fun hHeld => ?_)
    generalize w48.drew = w49 at HO569 HO573 BK563 HB hHeld ⊢; refine zP 0 31 35 1 ?_; refine zP 1 32 35 3 ?_; refine zP 2 33 35 7 ?_; refine zP 3 34 35 15 ?_; refine zN 4 (some 35) 35 31 (fun K hK => ?_); refine zG Try.func23 #[.slice Ao50 t566.length co50, .int .i64 t567, .slice Ao51 t570.length co51, .int .i64 t571] ?_
    with_reducible refine (dioramalaw10_eq.calls k _ _ t566 t567 _ _ t570 t571 true _ ?side1 ?side2 ?side3 ?side4 A10.out).mono ?_
    (case side1 => exact cr HO569)
    (case side2 => exact (Kd.R_reads' HO569.out).2.1)
    (case side3 => exact cr HO573)
    (case side4 => exact (Kd.R_reads' HO573.out).2.1)
    rintro e w' ⟨rfl, ⟨nd, rfl⟩⟩; refine ⟨_, rfl, ?_⟩; refine hK.out _ _ ⟨ct BK563 0, ct BK563 1, ct BK563 2⟩ (fun hHeld => ?_); clear hK K; refine zM 35 ?_; refine zP 5 36 35 63 ?_; refine zP 6 37 35 127 ?_; refine zP 8 39 35 383 ?_; refine zP 10 41 35 1407 ?_; refine zP 13 44 35 9599 ?_; refine zP 15 46 35 42367 ?_; refine zP 17 48 35 173439 ?_; refine zT 7 38 35 173567 hHeld ?_; refine zT 9 40 35 174079 hHeld ?_; refine zT 11 42 35 176127 hHeld ?_; refine zT 14 45 35 192511 hHeld ?_; refine zT 16 47 35 258047 hHeld ?_; refine zT 18 49 35 520191 hHeld ?_; refine zN 12 (some 43) 35 524287 (fun K hK => ?_); refine zG Try.func24 #[.slice A0_0 l0_0.length c0_0, .int .i64 a0_1, .int .i64 a0_2] ?_
    with_reducible refine (edit_Check.calls k _ _ l0_0 a0_1 a0_2 t575 _ ?side1 ?side2 A12.out).mono ?_
    (case side1 => repeat (first | exact (Kd.C_below HR0_0.out bz) | (with_reducible refine Kd.C_alloc ?_ _) | (with_reducible refine Kd.C_drewN ?_ _) | (with_reducible refine Kd.C_drew ?_)))
    (case side2 => exact HC0_0.out)
    rintro e w52 ⟨rfl, hb⟩; refine ⟨_, rfl, ?_⟩; replace HO569 := Aside0.mk (Kd.R_below (rz HO569) hb); replace HO573 := Aside0.mk (Kd.R_below (rz HO573) hb); replace BK563 := kb BK563 hb; replace HB := bp hb; clear hb; refine hK.out _ _ ⟨ct BK563 0, ct BK563 1, ct BK563 2⟩ (fun hHeld => ?_); clear hK K; refine zM 43 ?_; refine zN 19 (some 50) 35 1048575 (fun K hK => ?_); refine zG Try.func25 #[.slice A0_0 l0_0.length c0_0, .int .i64 a0_1, .int .i64 a0_2] ?_
    with_reducible refine (dioramaref10_Check.calls k _ _ l0_0 a0_1 a0_2 t576 _ ?side1 ?side2 A13.out).mono ?_
    (case side1 => exact cz HR0_0)
    (case side2 => exact HC0_0.out)
    rintro e w53 ⟨rfl, hb⟩; refine ⟨_, rfl, ?_⟩; replace HO569 := Aside0.mk (Kd.R_below (rz HO569) hb); replace HO573 := Aside0.mk (Kd.R_below (rz HO573) hb); replace BK563 := kb BK563 hb; replace HB := bp hb; clear hb; refine hK.out _ _ ⟨ct BK563 0, ct BK563 1, ct BK563 2⟩ (fun hHeld => ?_); clear hK K; refine zM 50 ?_; refine zP 20 51 35 2097151 ?_; refine zP 21 52 35 4194303 ?_; refine zP 22 53 35 8388607 ?_; refine zO 23 54 35 16777215 ?_; refine zO 24 55 35 33554431 ?_; refine zO 25 56 35 67108863 ?_; refine zO 26 57 35 134217727 ?_; refine zO 27 58 35 268435455 ?_; refine zO 28 59 35 536870911 ?_; refine zO 29 60 35 1073741823 ?_; refine zP 30 61 35 2147483647 ?_; refine zP 31 62 35 4294967295 ?_; refine zO 32 63 35 8589934591 ?_; refine zP 33 64 35 17179869183 ?_; refine zP 34 2 35 34359738367 ?_; refine done_ (by kernel_rfl) ?_
    try go_wp2
    go_ret
    exact ⟨ez, bz⟩
  ·obtain rfl := bf c11; rw [if_neg (show ¬ (false = true) by decide)] at H; obtain rfl := Option.some.inj H
   go_enter Try.func3, Try.ntmps3
   try go_wp2_with (first | ((with_reducible refine gate_dst (N := 1) rfl ?_); refine zB 1 24 #[.slice A0_0 l0_0.length c0_0, .int .i64 a0_1, .int .i64 a0_2] ?_; intro gb563 hg w54 hbox hb; have BK563 := Aside0.mk hbox; have GW563 := gz hg; have GE563 := gz hg; replace HB := bp hb; clear hb hbox hg; obtain ⟨hcz55_0, hcz55_1, hcz55_2, hfz55_0, hfz55_1, hfz55_2⟩ := xc3 BK563) | ((with_reducible refine gate_callee (f := 19) rfl ?_); refine zC 9 Try.func19 #[.slice A0_0 l0_0.length c0_0] ?_; (with_reducible refine (dioramalaw10_many.calls _ _ l0_0 false _ ?side1 ?side2 A2.out).mono ?_); (case side1 => exact cz HR0_0); (case side2 => exact HC0_0.out); rintro e w' ⟨rfl, ⟨nd, rfl⟩⟩; refine ⟨_, rfl, ?_⟩) | ((with_reducible refine gate_callee (f := 21) rfl ?_); refine zC 18 Try.func21 #[.slice A0_0 l0_0.length c0_0, .int .i64 a0_1, .int .i64 a0_2] ?_; (with_reducible refine (edit_Normal.calls k _ _ l0_0 a0_1 a0_2 t566 t567 _ ?side1 ?side2 A8.out).mono ?_); (case side1 => repeat (first | exact (Kd.C_below HR0_0.out bz) | (with_reducible refine Kd.C_alloc ?_ _) | (with_reducible refine Kd.C_drewN ?_ _) | (with_reducible refine Kd.C_drew ?_))); (case side2 => exact HC0_0.out); rintro e w56 ⟨v568, rfl, ho0, hb⟩; refine ⟨_, rfl, ?_⟩; have HO569 := Aside0.mk (Kd.R_lower ho0 sz); replace BK563 := kb BK563 hb; replace HB := bp hb; clear hb ho0; obtain ⟨hcz57_0, hcz57_1, hcz57_2, hfz57_0, hfz57_1, hfz57_2⟩ := xc3 BK563) | ((with_reducible refine gate_callee (f := 22) rfl ?_); refine zC 28 Try.func22 #[.slice A0_0 l0_0.length c0_0, .int .i64 a0_1, .int .i64 a0_2] ?_; (with_reducible refine (dioramaref10_Normal.calls k _ _ l0_0 a0_1 a0_2 t570 t571 _ ?side1 ?side2 A9.out).mono ?_); (case side1 => exact cz HR0_0); (case side2 => exact HC0_0.out); rintro e w58 ⟨v572, rfl, ho0, hb⟩; refine ⟨_, rfl, ?_⟩; have HO573 := Aside0.mk (Kd.R_lower (Kd.R_new' ho0 (Kd.R_lt (rz HO569))) sz); replace HO569 := Aside0.mk (Kd.R_elder' (rz HO569) (Kd.R_base ho0) hb); replace BK563 := kb BK563 hb; replace HB := bp hb; clear hb ho0))
   replace HO569 := Aside0.mk (Kd.R_drew HO569.out); replace HO573 := Aside0.mk (Kd.R_drew HO573.out); replace BK563 := Aside0.mk (blk_drew BK563.out); replace HB := Aside0.mk (below_drew1 HB.out); obtain ⟨Ao60, co60, eo60⟩ := Kd.R_slice HO569.out
   (first | subst eo60 | (injection eo60 with f1_ f2_ f3_; have f4_ := f1_.symm; have f5_ := f3_.symm; clear f1_ f2_ f3_; subst f4_; subst f5_))
   obtain ⟨Ao61, co61, eo61⟩ := Kd.R_slice HO573.out
   (first | subst eo61 | (injection eo61 with f1_ f2_ f3_; have f4_ := f1_.symm; have f5_ := f3_.symm; clear f1_ f2_ f3_; subst f4_; subst f5_))
   refine start_ (n := 35) (S := fun w' => True) (ds := []) (bs 35 0) (by kernel_rfl) rfl rfl trivial (fun hHeld => ?_); generalize w58.drew = w59 at HO569 HO573 BK563 HB hHeld ⊢; refine zP 0 31 35 1 ?_; refine zP 1 32 35 3 ?_; refine zP 2 33 35 7 ?_; refine zP 3 34 35 15 ?_; refine zN 4 (some 35) 35 31 (fun K hK => ?_); refine zG Try.func23 #[.slice Ao60 t566.length co60, .int .i64 t567, .slice Ao61 t570.length co61, .int .i64 t571] ?_
   with_reducible refine (dioramalaw10_eq.calls k _ _ t566 t567 _ _ t570 t571 false _ ?side1 ?side2 ?side3 ?side4 A10.out).mono ?_
   (case side1 => exact cr HO569)
   (case side2 => exact (Kd.R_reads' HO569.out).2.1)
   (case side3 => exact cr HO573)
   (case side4 => exact (Kd.R_reads' HO573.out).2.1)
   rintro e w' ⟨rfl, ⟨nd, rfl⟩⟩; refine ⟨_, rfl, ?_⟩; refine hK.out _ _ trivial (fun hHeld => ?_); clear hK K; refine zM 35 ?_; refine zP 5 36 35 63 ?_; refine zO 6 37 35 127 ?_; refine zO 7 38 35 255 ?_; refine zO 8 39 35 511 ?_; refine zO 9 40 35 1023 ?_; refine zO 10 41 35 2047 ?_; refine zO 11 42 35 4095 ?_; refine zO 12 43 35 8191 ?_; refine zO 13 44 35 16383 ?_; refine zO 14 45 35 32767 ?_; refine zO 15 46 35 65535 ?_; refine zO 16 47 35 131071 ?_; refine zO 17 48 35 262143 ?_; refine zO 18 49 35 524287 ?_; refine zO 19 50 35 1048575 ?_; refine zO 20 51 35 2097151 ?_; refine zP 21 52 35 4194303 ?_; refine zP 22 53 35 8388607 ?_; refine zO 23 54 35 16777215 ?_; refine zO 24 55 35 33554431 ?_; refine zO 25 56 35 67108863 ?_; refine zO 26 57 35 134217727 ?_; refine zO 27 58 35 268435455 ?_; refine zO 28 59 35 536870911 ?_; refine zO 29 60 35 1073741823 ?_; refine zP 30 61 35 2147483647 ?_; refine zP 31 62 35 4294967295 ?_; refine zO 32 63 35 8589934591 ?_; refine zP 33 64 35 17179869183 ?_; refine zP 34 2 35 34359738367 ?_; refine done_ (by kernel_rfl) ?_
   try go_wp2
   go_ret
   exact ⟨ez, bz⟩
def api_Edit.l0 : Nat → List (S77) → List (S77) → Int → Int → Option (Bool)
  | 0, _, _, _, _ => none
  | k + 1, x0, x1, x12, x13 => if x13 < x12 then (if 0 ≤ x13 then (if x13 < (x0.length : Int) then (if x13 < (x1.length : Int) then (if (!(((rd_T77 x0 x13).f0) == ((rd_T77 x1 x13).f0)) || (!(((rd_T77 x0 x13).f1) == ((rd_T77 x1 x13).f1)) || (!(((rd_T77 x0 x13).f2) == ((rd_T77 x1 x13).f2)) || (!(((rd_T77 x0 x13).f3) == ((rd_T77 x1 x13).f3)))))) = true then (some false) else (api_Edit.l0 k x0 x1 x12 (wrap64 (x13 + 1)))) else (none)) else (none)) else (none)) else (some true)
def api_Edit.f (k : Nat) (l0 : List (S77)) (l1 : List (S77)) : Option (Bool) := if (l0.length : Int) = (l1.length : Int) then (api_Edit.l0 k l0 l1 (l0.length : Int) 0) else (some false)
set_option maxHeartbeats 8000000 in
set_option maxRecDepth 100000 in
theorem api_Edit.calls (k : Nat) (A0 : Option Addr) (c0 : Nat) (l0 : List (S77)) (A1 : Option Addr) (c1 : Nat) (l1 : List (S77)) (r : Bool) (w : World) (hr0 : Kd.C k77 w A0 l0.length l0) (hc0 : l0.length ≤ c0) (hr1 : Kd.C k77 w A1 l1.length l1) (hc1 : l1.length ≤ c1) (h : api_Edit.f k l0 l1 = some r) :
  Calls Try.prog 90 #[.slice A0 l0.length c0, .slice A1 l1.length c1] w fun e w' => e = .returned (.bool r) ∧ Drawn0 w w' := by
 have hu77 := Try.underlying77; have HR0 := Aside0.mk hr0; have HC0 := Aside0.mk hc0; clear hr0 hc0; have HR1 := Aside0.mk hr1; have HC1 := Aside0.mk hc1; clear hr1 hc1; have H : (if (l0.length : Int) = (l1.length : Int) then (api_Edit.l0 k l0 l1 (l0.length : Int) 0) else (some false)) = some r := h; clear h
 by_cases c3 : (l0.length : Int) = (l1.length : Int)
 ·rw [if_pos c3] at H; have c3b0 : ((l0.length : Int) == (l1.length : Int)) = true := beq_iff_eq.mpr c3; have c3b1 : ((l0.length : Int) != (l1.length : Int)) = false := bne_eq_false_iff_eq.mpr c3; have c3b2 : (l0.length == l1.length) = true := by first | simpa using c3 | (simp at c3 ⊢; omega)
  clear c3; have H' := Aside0.mk H; clear H
  go_enter Try.func90, Try.ntmps90
  go_wp2
  repeat (go_quiet (fail); try go_wp2)
  go_loopg [13] k (fun kq v13 w' => ∃ (x13_1 : Int), v13 = .int .i64 x13_1 ∧ Aside0 (api_Edit.l0 kq l0 l1 (l0.length : Int) x13_1 = some r) ∧ Aside0 (kq ≤ k) ∧ Drawn0 w w')
  case atStart => exact ⟨(0), jz, H', ⟨Nat.le_refl _⟩, by repeat (first | exact Drawn0.refl _ | apply Drawn0.step)⟩
  case round =>
   clear H'
   try clear c1
   try clear p2
   try clear c3
   try clear c3b0
   try clear c3b1
   try clear c3b2
   obtain ⟨x13_1, rfl, HA, HK1, ⟨m1, rfl⟩⟩ := hrel
   cases gk with
   | zero => exact absurd HA.out (by simp [api_Edit.l0])
   | succ k1 =>
    have H := HA.out; clear HA; simp only [api_Edit.l0] at H
    by_cases c4 : x13_1 < (l0.length : Int)
    ·rw [if_pos c4] at H; have c4b0 : decide (x13_1 < (l0.length : Int)) = true := decide_eq_true c4; clear c4
     by_cases c5 : 0 ≤ x13_1
     ·rw [if_pos c5] at H; have c5b0 : decide (0 ≤ x13_1) = true := decide_eq_true c5; clear c5
      by_cases c6 : x13_1 < (l0.length : Int)
      ·rw [if_pos c6] at H; have c6b0 : decide (x13_1 < (l0.length : Int)) = true := decide_eq_true c6; clear c6
       by_cases c7 : x13_1 < (l1.length : Int)
       ·rw [if_pos c7] at H; have c7b0 : decide (x13_1 < (l1.length : Int)) = true := decide_eq_true c7; clear c7
        by_cases c8 : (!(((rd_T77 l0 x13_1).f0) == ((rd_T77 l1 x13_1).f0)) || (!(((rd_T77 l0 x13_1).f1) == ((rd_T77 l1 x13_1).f1)) || (!(((rd_T77 l0 x13_1).f2) == ((rd_T77 l1 x13_1).f2)) || (!(((rd_T77 l0 x13_1).f3) == ((rd_T77 l1 x13_1).f3)))))) = true
        ·rw [if_pos c8] at H; have c8b0 : (!(((rd_T77 l0 x13_1).f0) == ((rd_T77 l1 x13_1).f0)) || (!(((rd_T77 l0 x13_1).f1) == ((rd_T77 l1 x13_1).f1)) || (!(((rd_T77 l0 x13_1).f2) == ((rd_T77 l1 x13_1).f2)) || (!(((rd_T77 l0 x13_1).f3) == ((rd_T77 l1 x13_1).f3)))))) = true := c8; clear c8; obtain rfl := Option.some.inj H; have p580 : 0 ≤ (x13_1 : Int) := od; have q580 : x13_1 < (l0.length : Int) := od; obtain ⟨ad580, e580, hx580_0, hx580_1, hx580_2, hx580_3⟩ := at_T77 HR0.out x13_1 p580 q580
         cases e580
         replace p580 := eq_true p580; replace q580 := eq_true q580; have p581 : 0 ≤ (x13_1 : Int) := od; have q581 : x13_1 < (l1.length : Int) := od; obtain ⟨ad581, e581, hx581_0, hx581_1, hx581_2, hx581_3⟩ := at_T77 HR1.out x13_1 p581 q581
         cases e581
         replace p581 := eq_true p581; replace q581 := eq_true q581
         go_wp2
         repeat (go_quiet (fail); try go_wp2)
         go_ret
         exact ⟨by first | rfl | (simp; done) | (simp [*]; done), by repeat (first | exact Drawn0.refl _ | apply Drawn0.step)⟩
        ·rw [if_neg c8] at H; have c8b0 : (!(((rd_T77 l0 x13_1).f0) == ((rd_T77 l1 x13_1).f0)) || (!(((rd_T77 l0 x13_1).f1) == ((rd_T77 l1 x13_1).f1)) || (!(((rd_T77 l0 x13_1).f2) == ((rd_T77 l1 x13_1).f2)) || (!(((rd_T77 l0 x13_1).f3) == ((rd_T77 l1 x13_1).f3)))))) = false := by simpa using c8
         clear c8; have H' := Aside0.mk H; clear H; have p580 : 0 ≤ (x13_1 : Int) := od; have q580 : x13_1 < (l0.length : Int) := od; obtain ⟨ad580, e580, hx580_0, hx580_1, hx580_2, hx580_3⟩ := at_T77 HR0.out x13_1 p580 q580
         cases e580
         replace p580 := eq_true p580; replace q580 := eq_true q580; have p581 : 0 ≤ (x13_1 : Int) := od; have q581 : x13_1 < (l1.length : Int) := od; obtain ⟨ad581, e581, hx581_0, hx581_1, hx581_2, hx581_3⟩ := at_T77 HR1.out x13_1 p581 q581
         cases e581
         replace p581 := eq_true p581; replace q581 := eq_true q581
         go_wp2
         repeat (go_quiet (fail); try go_wp2)
         go_roundg k1
         case measure => have := HK1.out; omega
         case rel => exact ⟨(wrap64 (x13_1 + 1)), jz, H', ⟨by have := HK1.out; omega⟩, by repeat (first | exact Drawn0.refl _ | apply Drawn0.step)⟩
       ·rw [if_neg c7] at H
        exact absurd H (by simp)
      ·rw [if_neg c6] at H
       exact absurd H (by simp)
     ·rw [if_neg c5] at H
      exact absurd H (by simp)
    ·rw [if_neg c4] at H; have c4b0 : decide (x13_1 < (l0.length : Int)) = false := decide_eq_false c4; clear c4; obtain rfl := Option.some.inj H
     go_wp2
     repeat (go_quiet (fail); try go_wp2)
     go_ret
     exact ⟨by first | rfl | (simp; done) | (simp [*]; done), by repeat (first | exact Drawn0.refl _ | apply Drawn0.step)⟩
 ·rw [if_neg c3] at H; have c3b0 : ((l0.length : Int) == (l1.length : Int)) = false := beq_eq_false_iff_ne.mpr c3; have c3b1 : ((l0.length : Int) != (l1.length : Int)) = true := bne_iff_ne.mpr c3; have c3b2 : (l0.length == l1.length) = false := by first | simpa using c3 | (simp at c3 ⊢; omega)
  obtain rfl := Option.some.inj H
  go_enter Try.func90, Try.ntmps90
  go_wp2
  repeat (go_quiet (fail); try go_wp2)
  go_ret
  exact ⟨by first | rfl | (simp; done) | (simp [*]; done), by repeat (first | exact Drawn0.refl _ | apply Drawn0.step)⟩
def edit_Alike.f (k : Nat) (l0 : List (S77)) (l1 : List (S77)) (a2 : Int) (a3 : Int) : Option (Bool × Int) := (edit_Normal.f k l0 a2 a3).bind fun bt582 => (if bt582.2 = 0 then ((edit_Normal.f k l1 a2 a3).bind fun bt586 => (if bt586.2 = 0 then ((api_Edit.f k bt582.1 bt586.1).bind fun t590 => (some (t590, 0))) else (some (false, bt586.2)))) else (some (false, bt582.2)))
set_option maxHeartbeats 8000000 in
set_option maxRecDepth 100000 in
theorem edit_Alike.calls (k : Nat) (A0 : Option Addr) (c0 : Nat) (l0 : List (S77)) (A1 : Option Addr) (c1 : Nat) (l1 : List (S77)) (a2 : Int) (a3 : Int) (r1 : Bool) (r2 : Int) (w : World) (hr0 : Kd.C k77 w A0 l0.length l0) (hc0 : l0.length ≤ c0) (hr1 : Kd.C k77 w A1 l1.length l1) (hc1 : l1.length ≤ c1) (h : edit_Alike.f k l0 l1 a2 a3 = some (r1, r2)) :
  Calls Try.prog 34 #[.slice A0 l0.length c0, .slice A1 l1.length c1, .int .i64 a2, .int .i64 a3] w fun e w' => e = .returned (.tuple #[.bool r1, .int .i64 r2]) ∧ Below w.heap.size w w' := by
 have HR0 := Aside0.mk hr0; have HC0 := Aside0.mk hc0; clear hr0 hc0; have HR1 := Aside0.mk hr1; have HC1 := Aside0.mk hc1; clear hr1 hc1; have HB := Aside0.mk (Below.refl w.heap.size w); have H : ((edit_Normal.f k l0 a2 a3).bind fun bt582 => (if bt582.2 = 0 then ((edit_Normal.f k l1 a2 a3).bind fun bt586 => (if bt586.2 = 0 then ((api_Edit.f k bt582.1 bt586.1).bind fun t590 => (some (t590, 0))) else (some (false, bt586.2)))) else (some (false, bt582.2)))) = some (r1, r2) := h
 clear h; obtain ⟨⟨t582, t583⟩, A5, H⟩ := ob H
 (try dsimp only at H)
 by_cases c6 : t583 = 0
 ·rw [if_pos c6] at H; have c6b0 : (t583 == 0) = true := beq_iff_eq.mpr c6; have c6b1 : (t583 != 0) = false := bne_eq_false_iff_eq.mpr c6; clear c6; obtain ⟨⟨t586, t587⟩, A7, H⟩ := ob H
  (try dsimp only at H)
  by_cases c8 : t587 = 0
  ·rw [if_pos c8] at H; have c8b0 : (t587 == 0) = true := beq_iff_eq.mpr c8; have c8b1 : (t587 != 0) = false := bne_eq_false_iff_eq.mpr c8; clear c8; obtain ⟨t590, A9, H⟩ := ob H; simp only [Option.some.injEq, Prod.mk.injEq] at H; obtain ⟨rfl, rfl⟩ := H
   go_enter Try.func34, Try.ntmps34
   go_wp2_with (first | ((with_reducible refine gate_callee (f := 21) rfl ?_); refine zC 17 Try.func21 #[.slice A0 l0.length c0, .int .i64 a2, .int .i64 a3] ?_; (with_reducible refine (edit_Normal.calls k _ _ l0 a2 a3 t582 t583 _ ?side1 ?side2 A5.out).mono ?_); (case side1 => repeat (first | exact HR0.out | (with_reducible refine Kd.C_alloc ?_ _) | (with_reducible refine Kd.C_drewN ?_ _) | (with_reducible refine Kd.C_drew ?_))); (case side2 => exact HC0.out); rintro e w10 ⟨v584, rfl, ho0, hb⟩; refine ⟨_, rfl, ?_⟩; have HO585 := Aside0.mk (Kd.R_lower ho0 sz); replace HB := bp hb; clear hb ho0) | ((with_reducible refine gate_callee (f := 21) rfl ?_); refine zC 27 Try.func21 #[.slice A1 l1.length c1, .int .i64 a2, .int .i64 a3] ?_; (with_reducible refine (edit_Normal.calls k _ _ l1 a2 a3 t586 t587 _ ?side1 ?side2 A7.out).mono ?_); (case side1 => exact cz HR1); (case side2 => exact HC1.out); rintro e w11 ⟨v588, rfl, ho0, hb⟩; refine ⟨_, rfl, ?_⟩; have HO589 := Aside0.mk (Kd.R_lower (Kd.R_new' ho0 (Kd.R_lt (rz HO585))) sz); replace HO585 := Aside0.mk (Kd.R_elder' (rz HO585) (Kd.R_base ho0) hb); replace HB := bp hb; clear hb ho0; obtain ⟨Ao12, co12, eo12⟩ := Kd.R_slice HO585.out; subst eo12; obtain ⟨Ao13, co13, eo13⟩ := Kd.R_slice HO589.out; subst eo13) | ((with_reducible refine gate_callee (f := 90) rfl ?_); refine zC 35 Try.func90 #[.slice Ao12 t582.length co12, .slice Ao13 t586.length co13] ?_; (with_reducible refine (api_Edit.calls k _ _ t582 _ _ t586 t590 _ ?side1 ?side2 ?side3 ?side4 A9.out).mono ?_); (case side1 => exact cr HO585); (case side2 => exact (Kd.R_reads' HO585.out).2.1); (case side3 => exact cr HO589); (case side4 => exact (Kd.R_reads' HO589.out).2.1); rintro e w' ⟨rfl, ⟨nd, rfl⟩⟩; refine ⟨_, rfl, ?_⟩))
   go_ret2
   exact ⟨ez, bz⟩
  ·rw [if_neg c8] at H; have c8b0 : (t587 == 0) = false := beq_eq_false_iff_ne.mpr c8; have c8b1 : (t587 != 0) = true := bne_iff_ne.mpr c8; simp only [Option.some.injEq, Prod.mk.injEq] at H; obtain ⟨rfl, rfl⟩ := H
   go_enter Try.func34, Try.ntmps34
   go_wp2_with (first | ((with_reducible refine gate_callee (f := 21) rfl ?_); refine zC 17 Try.func21 #[.slice A0 l0.length c0, .int .i64 a2, .int .i64 a3] ?_; (with_reducible refine (edit_Normal.calls k _ _ l0 a2 a3 t582 t583 _ ?side1 ?side2 A5.out).mono ?_); (case side1 => repeat (first | exact HR0.out | (with_reducible refine Kd.C_alloc ?_ _) | (with_reducible refine Kd.C_drewN ?_ _) | (with_reducible refine Kd.C_drew ?_))); (case side2 => exact HC0.out); rintro e w14 ⟨v584, rfl, ho0, hb⟩; refine ⟨_, rfl, ?_⟩; have HO585 := Aside0.mk (Kd.R_lower ho0 sz); replace HB := bp hb; clear hb ho0) | ((with_reducible refine gate_callee (f := 21) rfl ?_); refine zC 27 Try.func21 #[.slice A1 l1.length c1, .int .i64 a2, .int .i64 a3] ?_; (with_reducible refine (edit_Normal.calls k _ _ l1 a2 a3 t586 t587 _ ?side1 ?side2 A7.out).mono ?_); (case side1 => exact cz HR1); (case side2 => exact HC1.out); rintro e w15 ⟨v588, rfl, ho0, hb⟩; refine ⟨_, rfl, ?_⟩; have HO589 := Aside0.mk (Kd.R_lower (Kd.R_new' ho0 (Kd.R_lt (rz HO585))) sz); replace HO585 := Aside0.mk (Kd.R_elder' (rz HO585) (Kd.R_base ho0) hb); replace HB := bp hb; clear hb ho0))
   go_ret2
   exact ⟨ez, bz⟩
 ·rw [if_neg c6] at H; have c6b0 : (t583 == 0) = false := beq_eq_false_iff_ne.mpr c6; have c6b1 : (t583 != 0) = true := bne_iff_ne.mpr c6; simp only [Option.some.injEq, Prod.mk.injEq] at H; obtain ⟨rfl, rfl⟩ := H
  go_enter Try.func34, Try.ntmps34
  go_wp2_with (first | ((with_reducible refine gate_callee (f := 21) rfl ?_); refine zC 17 Try.func21 #[.slice A0 l0.length c0, .int .i64 a2, .int .i64 a3] ?_; (with_reducible refine (edit_Normal.calls k _ _ l0 a2 a3 t582 t583 _ ?side1 ?side2 A5.out).mono ?_); (case side1 => repeat (first | exact HR0.out | (with_reducible refine Kd.C_alloc ?_ _) | (with_reducible refine Kd.C_drewN ?_ _) | (with_reducible refine Kd.C_drew ?_))); (case side2 => exact HC0.out); rintro e w16 ⟨v584, rfl, ho0, hb⟩; refine ⟨_, rfl, ?_⟩; have HO585 := Aside0.mk (Kd.R_lower ho0 sz); replace HB := bp hb; clear hb ho0))
  go_ret2
  exact ⟨ez, bz⟩
end Go.Proofs.Ytpbhepdgamoiaaa.E
namespace Go.Proofs.Ytpbhepdgamoiaaa.E
open Go.Proofs.Ytpbhepdgamoiaaa.Z Go.RowKit Go.Proofs.YtpbhepdgamoiaaaW.PrintWords Go.Proofs.YtpbhepdgamoiaaaW.PrintLast Go.Proofs.YtpbhepdgamoiaaaW.PrintMore
attribute [local go_sem] max2_int min2_int max_two min_two max_three min_three max_four min_four
set_option linter.unusedVariables false
set_option linter.unusedSimpArgs false
mutual
def dioramalaw10_EditEqual.j0 : Nat → List (S77) → List (S77) → List (S77) → Bool → Option (Bool)
  | 0, _, _, _, _ => none
  | k + 1, x0, x1, x2, x24 => if x24 = true then ((dioramalaw10_awake.f k).bind fun t594 => (some t594)) else ((edit_Alike.f k x0 x1 10 20).bind fun bt595 => ((edit_Alike.f k x1 x0 10 20).bind fun bt597 => ((edit_Alike.f k x1 x2 10 20).bind fun bt599 => ((edit_Alike.f k x0 x2 10 20).bind fun bt601 => (if bt595.2 = 0 then (if bt597.2 = 0 then (if bt599.2 = 0 then (dioramalaw10_EditEqual.j1 k x0 x1 bt595.1 bt597.1 bt599.1 bt601.1 (bt601.2 != 0)) else (dioramalaw10_EditEqual.j1 k x0 x1 bt595.1 bt597.1 bt599.1 bt601.1 true)) else (dioramalaw10_EditEqual.j1 k x0 x1 bt595.1 bt597.1 bt599.1 bt601.1 true)) else (dioramalaw10_EditEqual.j1 k x0 x1 bt595.1 bt597.1 bt599.1 bt601.1 true))))))
def dioramalaw10_EditEqual.j1 : Nat → List (S77) → List (S77) → Bool → Bool → Bool → Bool → Bool → Option (Bool)
  | 0, _, _, _, _, _, _, _ => none
  | k + 1, x0, x1, x7, x9, x11, x13, x63 => if x63 = true then ((dioramalaw10_awake.f k).bind fun t603 => (some t603)) else (if (x7 != x9) = true then (some false) else (if x7 = true then (if x11 = true then (if x13 = true then ((edit_Length.f x0).bind fun t604 => ((edit_Length.f x1).bind fun t605 => (if t604 = t605 then ((dioramalaw10_awake.f k).bind fun t606 => (some t606)) else (some false)))) else (some false)) else ((edit_Length.f x0).bind fun t607 => ((edit_Length.f x1).bind fun t608 => (if t607 = t608 then ((dioramalaw10_awake.f k).bind fun t609 => (some t609)) else (some false))))) else ((dioramalaw10_awake.f k).bind fun t610 => (some t610))))
end
def dioramalaw10_EditEqual.f (k : Nat) (l0 : List (S77)) (l1 : List (S77)) (l2 : List (S77)) : Option (Bool) := (dioramalaw10_many.f l0).bind fun t591 => (if t591 = true then (dioramalaw10_EditEqual.j0 k l0 l1 l2 true) else ((dioramalaw10_many.f l1).bind fun t592 => (if t592 = true then (dioramalaw10_EditEqual.j0 k l0 l1 l2 true) else ((dioramalaw10_many.f l2).bind fun t593 => (dioramalaw10_EditEqual.j0 k l0 l1 l2 t593)))))
set_option maxHeartbeats 8000000 in
set_option maxRecDepth 100000 in
theorem dioramalaw10_EditEqual.calls (k : Nat) (A0 : Option Addr) (c0 : Nat) (l0 : List (S77)) (A1 : Option Addr) (c1 : Nat) (l1 : List (S77)) (A2 : Option Addr) (c2 : Nat) (l2 : List (S77)) (r : Bool) (w : World) (hr0 : Kd.C k77 w A0 l0.length l0) (hc0 : l0.length ≤ c0) (hr1 : Kd.C k77 w A1 l1.length l1) (hc1 : l1.length ≤ c1) (hr2 : Kd.C k77 w A2 l2.length l2) (hc2 : l2.length ≤ c2) (h : dioramalaw10_EditEqual.f k l0 l1 l2 = some r) :
  Calls Try.prog 7 #[.slice A0 l0.length c0, .slice A1 l1.length c1, .slice A2 l2.length c2] w fun e w' => e = .returned (.bool r) ∧ Below w.heap.size w w' := by
 have HR0 := Aside0.mk hr0; have HC0 := Aside0.mk hc0; clear hr0 hc0; have HR1 := Aside0.mk hr1; have HC1 := Aside0.mk hc1; clear hr1 hc1; have HR2 := Aside0.mk hr2; have HC2 := Aside0.mk hc2; clear hr2 hc2; have HB := Aside0.mk (Below.refl w.heap.size w); have H : ((dioramalaw10_many.f l0).bind fun t591 => (if t591 = true then (dioramalaw10_EditEqual.j0 k l0 l1 l2 true) else ((dioramalaw10_many.f l1).bind fun t592 => (if t592 = true then (dioramalaw10_EditEqual.j0 k l0 l1 l2 true) else ((dioramalaw10_many.f l2).bind fun t593 => (dioramalaw10_EditEqual.j0 k l0 l1 l2 t593)))))) = some r := h
 clear h; have HC4 := Aside0.mk H; clear H
 go_enter Try.func7, Try.ntmps7
 go_upto_region 1 with (fail)
 go_cut [24] (fun v24 wc => ∃ (kq : Nat) (x24_3 : Bool), v24 = .bool x24_3 ∧ Aside0 (dioramalaw10_EditEqual.j0 kq l0 l1 l2 x24_3 = some r) ∧ Aside0 (kq ≤ k) ∧ Aside0 (Below w.heap.size w wc))
 case first =>
  have H := HC4.out; clear HC4; obtain ⟨t591, A5, H⟩ := ob H
  by_cases c6 : t591 = true
  ·subst c6; rw [if_pos rfl] at H; have H' := Aside0.mk H; clear H
   go_wp2_with (first | ((with_reducible refine gate_callee (f := 19) rfl ?_); refine zC 16 Try.func19 #[.slice A0 l0.length c0] ?_; (with_reducible refine (dioramalaw10_many.calls _ _ l0 true _ ?side1 ?side2 A5.out).mono ?_); (case side1 => exact cz HR0); (case side2 => exact HC0.out); rintro e w' ⟨rfl, ⟨nd, rfl⟩⟩; refine ⟨_, rfl, ?_⟩))
   go_meet
   case rel => exact ⟨_, (true), jz, H', ⟨by first | omega | exact Nat.le_refl _⟩, ⟨bz⟩⟩
  ·obtain rfl := bf c6; rw [if_neg (show ¬ (false = true) by decide)] at H; obtain ⟨t592, A7, H⟩ := ob H
   by_cases c8 : t592 = true
   ·subst c8; rw [if_pos rfl] at H; have H' := Aside0.mk H; clear H
    go_wp2_with (first | ((with_reducible refine gate_callee (f := 19) rfl ?_); refine zC 16 Try.func19 #[.slice A0 l0.length c0] ?_; (with_reducible refine (dioramalaw10_many.calls _ _ l0 false _ ?side1 ?side2 A5.out).mono ?_); (case side1 => exact cz HR0); (case side2 => exact HC0.out); rintro e w' ⟨rfl, ⟨nd, rfl⟩⟩; refine ⟨_, rfl, ?_⟩) | (go_at_call 19; (with_reducible refine (dioramalaw10_many.calls _ _ l1 true _ ?side1 ?side2 A7.out).mono ?_); (case side1 => repeat (first | exact (Kd.C_below HR1.out bz) | (with_reducible refine Kd.C_alloc ?_ _) | (with_reducible refine Kd.C_drewN ?_ _) | (with_reducible refine Kd.C_drew ?_))); (case side2 => exact HC1.out); rintro e w' ⟨rfl, ⟨nd, rfl⟩⟩))
    go_meet
    case rel => exact ⟨_, (true), jz, H', ⟨by first | omega | exact Nat.le_refl _⟩, ⟨bz⟩⟩
   ·obtain rfl := bf c8; rw [if_neg (show ¬ (false = true) by decide)] at H; obtain ⟨t593, A9, H⟩ := ob H; have H' := Aside0.mk H; clear H
    go_wp2_with (first | ((with_reducible refine gate_callee (f := 19) rfl ?_); refine zC 16 Try.func19 #[.slice A0 l0.length c0] ?_; (with_reducible refine (dioramalaw10_many.calls _ _ l0 false _ ?side1 ?side2 A5.out).mono ?_); (case side1 => exact cz HR0); (case side2 => exact HC0.out); rintro e w' ⟨rfl, ⟨nd, rfl⟩⟩; refine ⟨_, rfl, ?_⟩) | (go_at_call 19; (with_reducible refine (dioramalaw10_many.calls _ _ l1 false _ ?side1 ?side2 A7.out).mono ?_); (case side1 => repeat (first | exact (Kd.C_below HR1.out bz) | (with_reducible refine Kd.C_alloc ?_ _) | (with_reducible refine Kd.C_drewN ?_ _) | (with_reducible refine Kd.C_drew ?_))); (case side2 => exact HC1.out); rintro e w' ⟨rfl, ⟨nd, rfl⟩⟩) | (go_at_call 19; (with_reducible refine (dioramalaw10_many.calls _ _ l2 t593 _ ?side1 ?side2 A9.out).mono ?_); (case side1 => repeat (first | exact (Kd.C_below HR2.out bz) | (with_reducible refine Kd.C_alloc ?_ _) | (with_reducible refine Kd.C_drewN ?_ _) | (with_reducible refine Kd.C_drew ?_))); (case side2 => exact HC2.out); rintro e w' ⟨rfl, ⟨nd, rfl⟩⟩))
    go_meet
    case rel => exact ⟨_, (t593), jz, H', ⟨by first | omega | exact Nat.le_refl _⟩, ⟨bz⟩⟩
 case rest =>
  clear HC4
  try clear c1
  try clear c2
  try clear p2
  try clear c6
  try clear c7
  try clear c8
  obtain ⟨kq, x24_3, rfl, HA, HJ3, HB⟩ := hcut
  cases kq with
  | zero => exact absurd HA.out (by simp [dioramalaw10_EditEqual.j0])
  | succ kj3 =>
   have H := HA.out; clear HA; simp only [dioramalaw10_EditEqual.j0] at H
   by_cases c10 : x24_3 = true
   ·subst c10; rw [if_pos rfl] at H; obtain ⟨t594, A11, H⟩ := ob H; obtain rfl := Option.some.inj H
    go_wp2_with (first | ((with_reducible refine gate_callee (f := 20) rfl ?_); refine zC 25 Try.func20 #[] ?_; (with_reducible refine (dioramalaw10_awake.calls kj3  t594 _ A11.out).mono ?_); rintro e w12 ⟨rfl, hb⟩; refine ⟨_, rfl, ?_⟩; replace HB := bp hb; clear hb))
    go_ret
    exact ⟨ez, bz⟩
   ·obtain rfl := bf c10; rw [if_neg (show ¬ (false = true) by decide)] at H; obtain ⟨⟨t595, t596⟩, A13, H⟩ := ob H
    (try dsimp only at H)
    obtain ⟨⟨t597, t598⟩, A14, H⟩ := ob H
    (try dsimp only at H)
    obtain ⟨⟨t599, t600⟩, A15, H⟩ := ob H
    (try dsimp only at H)
    obtain ⟨⟨t601, t602⟩, A16, H⟩ := ob H
    (try dsimp only at H)
    have HC17 := Aside0.mk H; clear H
    go_upto_region 7 with (first | ((with_reducible refine gate_callee (f := 34) rfl ?_); refine zC 29 Try.func34 #[.slice A0 l0.length c0, .slice A1 l1.length c1, .int .i64 10, .int .i64 20] ?_; (with_reducible refine (edit_Alike.calls kj3 _ _ l0 _ _ l1 10 20 t595 t596 _ ?side1 ?side2 ?side3 ?side4 A13.out).mono ?_); (case side1 => exact cz HR0); (case side2 => exact HC0.out); (case side3 => exact cz HR1); (case side4 => exact HC1.out); rintro e w18 ⟨rfl, hb⟩; refine ⟨_, rfl, ?_⟩; replace HB := bp hb; clear hb) | ((with_reducible refine gate_callee (f := 34) rfl ?_); refine zC 35 Try.func34 #[.slice A1 l1.length c1, .slice A0 l0.length c0, .int .i64 10, .int .i64 20] ?_; (with_reducible refine (edit_Alike.calls kj3 _ _ l1 _ _ l0 10 20 t597 t598 _ ?side1 ?side2 ?side3 ?side4 A14.out).mono ?_); (case side1 => exact cz HR1); (case side2 => exact HC1.out); (case side3 => exact cz HR0); (case side4 => exact HC0.out); rintro e w19 ⟨rfl, hb⟩; refine ⟨_, rfl, ?_⟩; replace HB := bp hb; clear hb) | ((with_reducible refine gate_callee (f := 34) rfl ?_); refine zC 41 Try.func34 #[.slice A1 l1.length c1, .slice A2 l2.length c2, .int .i64 10, .int .i64 20] ?_; (with_reducible refine (edit_Alike.calls kj3 _ _ l1 _ _ l2 10 20 t599 t600 _ ?side1 ?side2 ?side3 ?side4 A15.out).mono ?_); (case side1 => exact cz HR1); (case side2 => exact HC1.out); (case side3 => exact cz HR2); (case side4 => exact HC2.out); rintro e w20 ⟨rfl, hb⟩; refine ⟨_, rfl, ?_⟩; replace HB := bp hb; clear hb) | ((with_reducible refine gate_callee (f := 34) rfl ?_); refine zC 47 Try.func34 #[.slice A0 l0.length c0, .slice A2 l2.length c2, .int .i64 10, .int .i64 20] ?_; (with_reducible refine (edit_Alike.calls kj3 _ _ l0 _ _ l2 10 20 t601 t602 _ ?side1 ?side2 ?side3 ?side4 A16.out).mono ?_); (case side1 => exact cz HR0); (case side2 => exact HC0.out); (case side3 => exact cz HR2); (case side4 => exact HC2.out); rintro e w21 ⟨rfl, hb⟩; refine ⟨_, rfl, ?_⟩; replace HB := bp hb; clear hb))
    (try simp only [Act.put, List.setIfInBounds_toArray, List.set_cons_zero, List.set_cons_succ])
    go_cut [63] (fun v63 wc => ∃ (kq : Nat) (x63_16 : Bool), v63 = .bool x63_16 ∧ Aside0 (dioramalaw10_EditEqual.j1 kq l0 l1 t595 t597 t599 t601 x63_16 = some r) ∧ Aside0 (kq ≤ kj3) ∧ Aside0 (Below w.heap.size w wc))
    case first =>
     have H := HC17.out; clear HC17
     by_cases c22 : t596 = 0
     ·rw [if_pos c22] at H; have c22b0 : (t596 == 0) = true := beq_iff_eq.mpr c22; have c22b1 : (t596 != 0) = false := bne_eq_false_iff_eq.mpr c22; clear c22
      (first | rw [c22b0] | (simp only [i64_w, i32_w]; rw [c22b0]) | skip)
      by_cases c23 : t598 = 0
      ·rw [if_pos c23] at H; have c23b0 : (t598 == 0) = true := beq_iff_eq.mpr c23; have c23b1 : (t598 != 0) = false := bne_eq_false_iff_eq.mpr c23; clear c23
       by_cases c24 : t600 = 0
       ·rw [if_pos c24] at H; have c24b0 : (t600 == 0) = true := beq_iff_eq.mpr c24; have c24b1 : (t600 != 0) = false := bne_eq_false_iff_eq.mpr c24; clear c24; have H' := Aside0.mk H; clear H
        go_wp2
        go_meet
        case rel => exact ⟨_, ((t602 != 0)), jz, H', ⟨by have := HJ3.out; first | omega | exact Nat.le_refl _⟩, ⟨bz⟩⟩
       ·rw [if_neg c24] at H; have c24b0 : (t600 == 0) = false := beq_eq_false_iff_ne.mpr c24; have c24b1 : (t600 != 0) = true := bne_iff_ne.mpr c24; have H' := Aside0.mk H; clear H
        go_wp2
        go_meet
        case rel => exact ⟨_, (true), jz, H', ⟨by have := HJ3.out; first | omega | exact Nat.le_refl _⟩, ⟨bz⟩⟩
      ·rw [if_neg c23] at H; have c23b0 : (t598 == 0) = false := beq_eq_false_iff_ne.mpr c23; have c23b1 : (t598 != 0) = true := bne_iff_ne.mpr c23; have H' := Aside0.mk H; clear H
       go_wp2
       go_meet
       case rel => exact ⟨_, (true), jz, H', ⟨by have := HJ3.out; first | omega | exact Nat.le_refl _⟩, ⟨bz⟩⟩
     ·rw [if_neg c22] at H; have c22b0 : (t596 == 0) = false := beq_eq_false_iff_ne.mpr c22; have c22b1 : (t596 != 0) = true := bne_iff_ne.mpr c22
      (first | rw [c22b0] | (simp only [i64_w, i32_w]; rw [c22b0]) | skip)
      have H' := Aside0.mk H; clear H
      go_wp2
      go_meet
      case rel => exact ⟨_, (true), jz, H', ⟨by have := HJ3.out; first | omega | exact Nat.le_refl _⟩, ⟨bz⟩⟩
    case rest =>
     clear HC17
     try clear c1
     try clear c2
     try clear p2
     try clear c3
     try clear c6
     try clear c7
     try clear c8
     try clear c10
     try clear c19
     try clear c20
     try clear c22
     try clear c22b0
     try clear c22b1
     try clear c23
     try clear c23b0
     try clear c23b1
     try clear c24
     try clear c24b0
     try clear c24b1
     try clear p2
     obtain ⟨kq, x63_16, rfl, HA, HJ16, HB⟩ := hcut
     cases kq with
     | zero => exact absurd HA.out (by simp [dioramalaw10_EditEqual.j1])
     | succ kj16 =>
      have H := HA.out; clear HA; simp only [dioramalaw10_EditEqual.j1] at H
      by_cases c25 : x63_16 = true
      ·subst c25; rw [if_pos rfl] at H; obtain ⟨t603, A26, H⟩ := ob H; obtain rfl := Option.some.inj H
       go_wp2_with (first | ((with_reducible refine gate_callee (f := 20) rfl ?_); refine zC 64 Try.func20 #[] ?_; (with_reducible refine (dioramalaw10_awake.calls kj16  t603 _ A26.out).mono ?_); rintro e w27 ⟨rfl, hb⟩; refine ⟨_, rfl, ?_⟩; replace HB := bp hb; clear hb))
       go_ret
       exact ⟨ez, bz⟩
      ·obtain rfl := bf c25; rw [if_neg (show ¬ (false = true) by decide)] at H
       by_cases c28 : (t595 != t597) = true
       ·rw [if_pos c28] at H; have c28b0 : (t595 != t597) = true := c28
        (try (have c28b1 : decide (t595 = t597) = false := by simpa using c28))
        (try (have c28b2 : (t595 == t597) = false := by simpa using c28))
        (try (have c28b3 : ¬ (t595 = t597) := by simpa using c28))
        clear c28; obtain rfl := Option.some.inj H
        go_wp2
        go_ret
        exact ⟨ez, bz⟩
       ·rw [if_neg c28] at H; have c28b0 : (t595 != t597) = false := by simpa using c28
        (try (have c28b1 : decide (t595 = t597) = true := by simpa using c28))
        (try (have c28b2 : (t595 == t597) = true := by simpa using c28))
        clear c28
        by_cases c29 : t595 = true
        ·subst c29; rw [if_pos rfl] at H
         by_cases c30 : t599 = true
         ·subst c30; rw [if_pos rfl] at H
          by_cases c31 : t601 = true
          ·subst c31; rw [if_pos rfl] at H; obtain ⟨t604, A32, H⟩ := ob H; obtain ⟨t605, A33, H⟩ := ob H
           by_cases c34 : t604 = t605
           ·rw [if_pos c34] at H; have c34b0 : (t604 == t605) = true := beq_iff_eq.mpr c34; have c34b1 : (t604 != t605) = false := bne_eq_false_iff_eq.mpr c34; clear c34; obtain ⟨t606, A35, H⟩ := ob H; obtain rfl := Option.some.inj H
            go_wp2_with (first | (go_at_call 26; (with_reducible refine (edit_Length.calls _ _ l0 t604 _ ?side1 ?side2 A32.out).mono ?_); (case side1 => exact cz HR0); (case side2 => exact HC0.out); rintro e w36 ⟨rfl, hb⟩; replace HB := bp hb; clear hb) | (go_at_call 26; (with_reducible refine (edit_Length.calls _ _ l1 t605 _ ?side1 ?side2 A33.out).mono ?_); (case side1 => exact cz HR1); (case side2 => exact HC1.out); rintro e w37 ⟨rfl, hb⟩; replace HB := bp hb; clear hb) | ((with_reducible refine gate_callee (f := 20) rfl ?_); refine zC 88 Try.func20 #[] ?_; (with_reducible refine (dioramalaw10_awake.calls kj16  t606 _ A35.out).mono ?_); rintro e w38 ⟨rfl, hb⟩; refine ⟨_, rfl, ?_⟩; replace HB := bp hb; clear hb))
            go_ret
            exact ⟨ez, bz⟩
           ·rw [if_neg c34] at H; have c34b0 : (t604 == t605) = false := beq_eq_false_iff_ne.mpr c34; have c34b1 : (t604 != t605) = true := bne_iff_ne.mpr c34; obtain rfl := Option.some.inj H
            go_wp2_with (first | (go_at_call 26; (with_reducible refine (edit_Length.calls _ _ l0 t604 _ ?side1 ?side2 A32.out).mono ?_); (case side1 => exact cz HR0); (case side2 => exact HC0.out); rintro e w39 ⟨rfl, hb⟩; replace HB := bp hb; clear hb) | (go_at_call 26; (with_reducible refine (edit_Length.calls _ _ l1 t605 _ ?side1 ?side2 A33.out).mono ?_); (case side1 => exact cz HR1); (case side2 => exact HC1.out); rintro e w40 ⟨rfl, hb⟩; replace HB := bp hb; clear hb))
            go_ret
            exact ⟨ez, bz⟩
          ·obtain rfl := bf c31; rw [if_neg (show ¬ (false = true) by decide)] at H; obtain rfl := Option.some.inj H
           go_wp2
           go_ret
           exact ⟨ez, bz⟩
         ·obtain rfl := bf c30; rw [if_neg (show ¬ (false = true) by decide)] at H; obtain ⟨t607, A41, H⟩ := ob H; obtain ⟨t608, A42, H⟩ := ob H
          by_cases c43 : t607 = t608
          ·rw [if_pos c43] at H; have c43b0 : (t607 == t608) = true := beq_iff_eq.mpr c43; have c43b1 : (t607 != t608) = false := bne_eq_false_iff_eq.mpr c43; clear c43; obtain ⟨t609, A44, H⟩ := ob H; obtain rfl := Option.some.inj H
           go_wp2_with (first | (go_at_call 26; (with_reducible refine (edit_Length.calls _ _ l0 t607 _ ?side1 ?side2 A41.out).mono ?_); (case side1 => exact cz HR0); (case side2 => exact HC0.out); rintro e w45 ⟨rfl, hb⟩; replace HB := bp hb; clear hb) | (go_at_call 26; (with_reducible refine (edit_Length.calls _ _ l1 t608 _ ?side1 ?side2 A42.out).mono ?_); (case side1 => exact cz HR1); (case side2 => exact HC1.out); rintro e w46 ⟨rfl, hb⟩; replace HB := bp hb; clear hb) | ((with_reducible refine gate_callee (f := 20) rfl ?_); refine zC 88 Try.func20 #[] ?_; (with_reducible refine (dioramalaw10_awake.calls kj16  t609 _ A44.out).mono ?_); rintro e w47 ⟨rfl, hb⟩; refine ⟨_, rfl, ?_⟩; replace HB := bp hb; clear hb))
           go_ret
           exact ⟨ez, bz⟩
          ·rw [if_neg c43] at H; have c43b0 : (t607 == t608) = false := beq_eq_false_iff_ne.mpr c43; have c43b1 : (t607 != t608) = true := bne_iff_ne.mpr c43; obtain rfl := Option.some.inj H
           go_wp2_with (first | (go_at_call 26; (with_reducible refine (edit_Length.calls _ _ l0 t607 _ ?side1 ?side2 A41.out).mono ?_); (case side1 => exact cz HR0); (case side2 => exact HC0.out); rintro e w48 ⟨rfl, hb⟩; replace HB := bp hb; clear hb) | (go_at_call 26; (with_reducible refine (edit_Length.calls _ _ l1 t608 _ ?side1 ?side2 A42.out).mono ?_); (case side1 => exact cz HR1); (case side2 => exact HC1.out); rintro e w49 ⟨rfl, hb⟩; replace HB := bp hb; clear hb))
           go_ret
           exact ⟨ez, bz⟩
        ·obtain rfl := bf c29; rw [if_neg (show ¬ (false = true) by decide)] at H; obtain ⟨t610, A50, H⟩ := ob H; obtain rfl := Option.some.inj H
         go_wp2_with (first | ((with_reducible refine gate_callee (f := 20) rfl ?_); refine zC 88 Try.func20 #[] ?_; (with_reducible refine (dioramalaw10_awake.calls kj16  t610 _ A50.out).mono ?_); rintro e w51 ⟨rfl, hb⟩; refine ⟨_, rfl, ?_⟩; replace HB := bp hb; clear hb))
         go_ret
         exact ⟨ez, bz⟩
end Go.Proofs.Ytpbhepdgamoiaaa.E
namespace Go.Proofs.Ytpbhepdgamoiaaa.Pa
open Go.RowKit Go.Proofs.Ytpbhepdgamoiaaa.P Go.Proofs.Ytpbhepdgamoiaaa.E Go.Proofs.YtpbhepdgamoiaaaW.PrintWords Go.Proofs.YtpbhepdgamoiaaaW.PrintLast Go.Proofs.Ytpbhepdgamoiaaa.Ml Go.Proofs.Ytpbhepdgamoiaaa.Mn
set_option linter.unusedVariables false
set_option linter.unusedSimpArgs false
abbrev Bd : Int := 1000000000
abbrev Nn (l : List Int) : Prop := Cn 1000000000 l
theorem top_cons {x : Int} {l : List Int} (h : Top l) (hx : l = [] → x ≠ 0) : Top (x :: l) := by
 intro hne
 cases l with
 | nil => simpa using hx rfl
 | cons y t =>
  rw [List.getLast_cons (by simp)]
  exact h (by simp)
theorem digit_f (l : List Int) (i : Nat) : dioramaref02_digit.f l (i : Int) = some (l.getD i 0) := by
 unfold dioramaref02_digit.f
 by_cases h : i < l.length
 ·rw [if_pos (by omega), if_pos (by omega), rd_nat]
 ·rw [if_neg (by omega), getD_ge (by omega)]
theorem tmodB {x : Int} (h : 0 ≤ x) : Int.tmod x 1000000000 = x % 1000000000 := Int.tmod_eq_emod_of_nonneg h
theorem tdivB {x : Int} (h : 0 ≤ x) : Int.tdiv x 1000000000 = x / 1000000000 := Int.tdiv_eq_ediv_of_nonneg h
theorem of_l (m : Nat) : ∀ (x : Int) (acc : List Int), 0 ≤ x → x < pw 1000000000 m → x ≤ 9223372036854775807 → acc.length + m ≤ 1000 → ∃ r, Ev (fun k => dioramaref02_Of.l0 k x acc) (acc ++ r) ∧ Nn r ∧ dv 1000000000 r = x ∧ r.length ≤ m := by
 induction m with
 | zero =>
  intro x acc h0 h1 _ _
  have hx : x = 0 := by simp [pw] at h1; omega
  subst hx
  exact ⟨[], Ev.step (f := fun _ => some (acc ++ [])) (fun k => by simp [dioramaref02_Of.l0]) (Ev.now _), Cn.nil _, rfl, Nat.le_refl _⟩
 | succ m ih =>
  intro x acc h0 h1 h2 hl
  by_cases hx : x = 0
  ·subst hx
   exact ⟨[], Ev.step (f := fun _ => some (acc ++ [])) (fun k => by simp [dioramaref02_Of.l0]) (Ev.now _), Cn.nil _, rfl, Nat.zero_le _⟩
  ·have hd : x / 1000000000 < pw 1000000000 m := by
    rw [pw_succ] at h1
    omega
   obtain ⟨r, he, hc, hv, hr⟩ := ih (x / 1000000000) (acc ++ [x % 1000000000]) (by omega) hd (by omega) (by simp; omega)
   refine ⟨x % 1000000000 :: r, ?_, ⟨Dg.cons (by omega) (by omega) hc.dg, top_cons hc.top (fun h => ?_)⟩, ?_, by simp; omega⟩
   ·rw [List.append_assoc, List.singleton_append] at he
    refine Ev.step (fun k => ?_) he
    simp only [dioramaref02_Of.l0]
    rw [if_pos (by omega), if_pos (by omega), tdivB h0, tmodB h0, w64 (by omega) (by omega)]
   ·subst h
    simp only [dv] at hv
    omega
   ·simp only [dv] at hv ⊢
    rw [hv]
    omega
theorem of_f (x : Int) (h0 : 0 ≤ x) (h1 : x ≤ 9223372036854775807) : ∃ r, Ev (fun k => dioramaref02_Of.f k x) r ∧ Nn r ∧ dv 1000000000 r = x ∧ r.length ≤ 3 := by
 obtain ⟨r, he, h⟩ := of_l 3 x [] h0 (by simp [pw]; omega) h1 (by simp)
 exact ⟨r, he, h⟩
theorem trimmed_l (l : List Int) (hd : Dg 1000000000 l) (hl : l.length ≤ 1000000) : ∀ n : Nat, n ≤ l.length → dv 1000000000 (l.take n) = dv 1000000000 l → ∃ r, Ev (fun k => dioramaref02_trimmed.l0 k l (n : Int)) r ∧ Nn r ∧ dv 1000000000 r = dv 1000000000 l ∧ r.length ≤ n := by
 intro n
 induction n with
 | zero =>
  intro _ hv
  refine ⟨[], Ev.step (f := fun _ => some []) (fun k => ?_) (Ev.now _), Cn.nil _, by rw [← hv]; rfl, Nat.le_refl _⟩
  simp [dioramaref02_trimmed.l0]
 | succ n ih =>
  intro hn hv
  have hw : wrap64 (((n + 1 : Nat) : Int) - 1) = (n : Int) := by rw [w64 (by omega) (by omega)]; omega
  by_cases hz : l.getD n 0 = 0
  ·obtain ⟨r, he, hc, hr, hlr⟩ := ih (by omega) (by rw [← hv] ; rw [dv_take_succ', hz]; omega)
   refine ⟨r, Ev.step (fun k => ?_) he, hc, hr, by omega⟩
   simp only [dioramaref02_trimmed.l0, hw, rd_nat]
   rw [if_pos (by omega), if_pos (by omega), if_pos (by omega), if_pos hz]
  ·refine ⟨l.take (n + 1), Ev.step (f := fun _ => some (l.take (n + 1))) (fun k => ?_) (Ev.now _), ⟨hd.take _, top_of_getD ?_⟩, hv, by simp; omega⟩
   ·simp only [dioramaref02_trimmed.l0, hw, rd_nat]
    rw [if_pos (by omega), if_pos (by omega), if_pos (by omega), if_neg hz, if_pos (by omega), if_pos (by omega), Int.toNat_natCast]
   ·rw [List.length_take, Nat.min_eq_left (by omega)]
    simp only [Nat.add_sub_cancel]
    rw [List.getD_eq_getElem?_getD, List.getElem?_take_of_lt (by omega), ← List.getD_eq_getElem?_getD]
    exact hz
theorem trimmed_f (l : List Int) (hd : Dg 1000000000 l) (hl : l.length ≤ 1000000) : ∃ r, Ev (fun k => dioramaref02_trimmed.f k l) r ∧ Nn r ∧ dv 1000000000 r = dv 1000000000 l ∧ r.length ≤ l.length :=
 trimmed_l l hd hl l.length (Nat.le_refl _) (by rw [List.take_length])
theorem cmp1 {x y : Int} (h : x < y) : Nd.cmpI x y = -1 := by unfold Nd.cmpI; rw [if_pos h]
theorem cmp2 {x y : Int} (h : y < x) : Nd.cmpI x y = 1 := by unfold Nd.cmpI; rw [if_neg (by omega), if_pos h]
theorem cmp0 {x y : Int} (h : x = y) : Nd.cmpI x y = 0 := by unfold Nd.cmpI; rw [if_neg (by omega), if_neg (by omega)]
theorem compare_l (a b : List Int) (ha : Dg 1000000000 a) (hb : Dg 1000000000 b) (hl : a.length = b.length) (hn : a.length ≤ 1000000) : ∀ i : Nat, i ≤ a.length → dv 1000000000 (a.drop i) = dv 1000000000 (b.drop i) →
  Ev (fun k => dioramaref02_Compare.l0 k a b ((i : Int) - 1)) (Nd.cmpI (dv 1000000000 a) (dv 1000000000 b)) := by
 intro i
 induction i with
 | zero =>
  intro _ h
  refine Ev.step (f := fun _ => some 0) (fun k => ?_) (by rw [cmp0 (by simpa using h)]; exact Ev.now _)
  simp [dioramaref02_Compare.l0]
 | succ i ih =>
  intro hi h
  have e : (((i + 1 : Nat) : Int) - 1) = (i : Int) := by omega
  have hw : wrap64 ((i : Int) - 1) = (i : Int) - 1 := w64 (by omega) (by omega)
  rw [e]
  rcases Int.lt_trichotomy (a.getD i 0) (b.getD i 0) with h1 | h1 | h1
  ·rw [cmp1 (dv_less (by decide) ha hb hl i (by omega) h h1)]
   refine Ev.step (f := fun _ => some (-1)) (fun k => ?_) (Ev.now _)
   simp only [dioramaref02_Compare.l0, rd_nat]
   rw [if_pos (by omega), if_pos (by omega), if_pos (by omega), if_pos (by omega), if_pos h1]
  ·refine Ev.step (fun k => ?_) (ih (by omega) (by rw [dv_drop _ a i (by omega), dv_drop _ b i (by omega), h1, h]))
   simp only [dioramaref02_Compare.l0, rd_nat, hw]
   rw [if_pos (by omega), if_pos (by omega), if_pos (by omega), if_pos (by omega), if_neg (by omega), if_neg (by omega)]
  ·rw [cmp2 (dv_less (by decide) hb ha hl.symm i (by omega) h.symm h1)]
   refine Ev.step (f := fun _ => some 1) (fun k => ?_) (Ev.now _)
   simp only [dioramaref02_Compare.l0, rd_nat]
   rw [if_pos (by omega), if_pos (by omega), if_pos (by omega), if_pos (by omega), if_neg (by omega), if_pos h1]
theorem compare_f (a b : List Int) (ha : Nn a) (hb : Nn b) (hn : a.length ≤ 1000000) (hm : b.length ≤ 1000000) : Ev (fun k => dioramaref02_Compare.f k a b) (Nd.cmpI (dv 1000000000 a) (dv 1000000000 b)) := by
 by_cases hl : a.length = b.length
 ·have h := compare_l a b ha.dg hb.dg hl hn a.length (Nat.le_refl _) (by rw [List.drop_of_length_le (Nat.le_refl _), List.drop_of_length_le (by omega)])
  refine Ev.congr (fun k => ?_) h
  simp only [dioramaref02_Compare.f]
  rw [if_pos (by omega), w64 (by omega) (by omega)]
 ·by_cases h1 : a.length < b.length
  ·rw [cmp1 (dv_len (by decide) ha.dg hb h1)]
   refine Ev.congr (f := fun _ => some (-1)) (fun k => ?_) (Ev.now _)
   simp only [dioramaref02_Compare.f]
   rw [if_neg (by omega), if_pos (by omega)]
  ·rw [cmp2 (dv_len (by decide) hb.dg ha (by omega))]
   refine Ev.congr (f := fun _ => some 1) (fun k => ?_) (Ev.now _)
   simp only [dioramaref02_Compare.f]
   rw [if_neg (by omega), if_neg (by omega)]
end Go.Proofs.Ytpbhepdgamoiaaa.Pa
namespace Go.Proofs.Ytpbhepdgamoiaaa.Pb
open Go.RowKit Go.Proofs.Ytpbhepdgamoiaaa.P Go.Proofs.Ytpbhepdgamoiaaa.E Go.Proofs.YtpbhepdgamoiaaaW.PrintWords Go.Proofs.YtpbhepdgamoiaaaW.PrintLast Go.Proofs.Ytpbhepdgamoiaaa.Ml Go.Proofs.Ytpbhepdgamoiaaa.Mn Go.Proofs.Ytpbhepdgamoiaaa.Pa
set_option linter.unusedVariables false
set_option linter.unusedSimpArgs false
theorem nv_take_all {l : List Int} {n : Nat} (h : l.length ≤ n) : dv 1000000000 (l.take n) = dv 1000000000 l := by rw [List.take_of_length_le h]
theorem dg_snoc {l : List Int} {x : Int} (h : Dg 1000000000 l) (h0 : 0 ≤ x) (h1 : x < 1000000000) : Dg 1000000000 (l ++ [x]) := h.append (Dg.cons h0 h1 (Dg.nil _))
theorem w1 {i : Nat} (h : i ≤ 10000000) : wrap64 ((i : Int) + 1) = ((i + 1 : Nat) : Int) := by rw [w64 (by omega) (by omega)]; omega
theorem minus_l (a b : List Int) (ha : Dg 1000000000 a) (hb : Dg 1000000000 b) (hn : a.length ≤ 1000000) (hlb : b.length ≤ a.length) (hle : dv 1000000000 b ≤ dv 1000000000 a) :
  ∀ (d i : Nat) (out : List Int) (c : Int), i + d = a.length → out.length = i → Dg 1000000000 out → 0 ≤ c → c ≤ 1 → dv 1000000000 out = dv 1000000000 (a.take i) - dv 1000000000 (b.take i) + c * pw 1000000000 i →
  ∃ r, Ev (fun k => dioramaref02_Minus.l0 k a b out c (i : Int)) r ∧ Nn r ∧ dv 1000000000 r = dv 1000000000 a - dv 1000000000 b ∧ r.length ≤ a.length := by
 intro d
 induction d with
 | zero =>
  intro i out c hi hl hd h0 h1 hv
  obtain ⟨r, he, hc, hr, hlr⟩ := trimmed_f out hd (by omega)
  have hlt := dv_lt (by decide) hd
  rw [hl] at hlt
  rw [nv_take_all (by omega), nv_take_all (by omega)] at hv
  have c0 : c = 0 := by
   rcases (show c = 0 ∨ c = 1 by omega) with h | h
   ·exact h
   ·rw [h] at hv
    omega
  refine ⟨r, Ev.step (f := fun k => (dioramaref02_trimmed.f k out).bind fun t => some t) (fun k => ?_) (Ev.bind he (Ev.now _)), hc, by rw [hr, hv, c0]; omega, by omega⟩
  simp only [dioramaref02_Minus.l0]
  rw [if_neg (by omega)]
 | succ d ih =>
  intro i out c hi hl hd h0 h1 hv
  have hx := ha.getD (by decide) i
  have hy := hb.getD (by decide) i
  have e1 := dv_take_succ' 1000000000 a i
  have e2 := dv_take_succ' 1000000000 b i
  have e3 := pw_succ 1000000000 i
  generalize hxv : a.getD i 0 = x at *
  generalize hyv : b.getD i 0 = y at *
  have hw : wrap64 (wrap64 (x - y) - c) = x - y - c := by rw [w64 (x := x - y) (by omega) (by omega), w64 (by omega) (by omega)]
  have hw2 : wrap64 (x - y - c + 1000000000) = x - y - c + 1000000000 := w64 (by omega) (by omega)
  by_cases hneg : x - y - c < 0
  ·obtain ⟨r, he, h⟩ := ih (i + 1) (out ++ [x - y - c + 1000000000]) 1 (by omega) (by simp [hl]) (dg_snoc hd (by omega) (by omega)) (by decide) (by decide) (by
    rw [dv_snoc, hl, hv, e1, e2, e3]
    grind)
   refine ⟨r, Ev.step (fun k => ?_) he, h⟩
   simp only [dioramaref02_Minus.l0]
   rw [if_pos (by omega), digit_f, digit_f, hxv, hyv]
   simp only [Option.bind_some, hw, hw2]
   rw [if_pos hneg, if_pos (by omega), w1 (by omega)]
  ·obtain ⟨r, he, h⟩ := ih (i + 1) (out ++ [x - y - c]) 0 (by omega) (by simp [hl]) (dg_snoc hd (by omega) (by omega)) (by decide) (by decide) (by
    rw [dv_snoc, hl, hv, e1, e2]
    grind)
   refine ⟨r, Ev.step (fun k => ?_) he, h⟩
   simp only [dioramaref02_Minus.l0]
   rw [if_pos (by omega), digit_f, digit_f, hxv, hyv]
   simp only [Option.bind_some, hw, hw2]
   rw [if_neg hneg, if_pos (by omega), w1 (by omega)]
theorem len_le {a b : List Int} (ha : Nn a) (hb : Nn b) (h : dv 1000000000 b ≤ dv 1000000000 a) : b.length ≤ a.length := by
 refine Nat.le_of_not_lt fun hl => ?_
 have := dv_len (by decide) ha.dg hb hl
 omega
theorem minus_f (a b : List Int) (ha : Nn a) (hb : Nn b) (hn : a.length ≤ 1000000) (hle : dv 1000000000 b ≤ dv 1000000000 a) : ∃ r, Ev (fun k => dioramaref02_Minus.f k a b) r ∧ Nn r ∧ dv 1000000000 r = dv 1000000000 a - dv 1000000000 b ∧ r.length ≤ a.length :=
 minus_l a b ha.dg hb.dg hn (len_le ha hb hle) hle a.length 0 [] 0 (by omega) rfl (Dg.nil _) (by decide) (by decide) (by simp [dv])
theorem plus_l (a b : List Int) (ha : Nn a) (hb : Nn b) (hn : a.length ≤ 1000000) (hm : b.length ≤ 1000000) :
  ∀ (d i : Nat) (out : List Int) (c : Int), i + d = max a.length b.length + 1 → out.length = i → Dg 1000000000 out → 0 ≤ c → c ≤ 1 → (i ≤ max a.length b.length ∨ c = 0) → (i < a.length ∨ i < b.length ∨ 0 < c ∨ Top out) → dv 1000000000 out = dv 1000000000 (a.take i) + dv 1000000000 (b.take i) - c * pw 1000000000 i →
  ∃ r, Ev (fun k => dioramaref02_Plus.l0 k a b out c (i : Int)) r ∧ Nn r ∧ dv 1000000000 r = dv 1000000000 a + dv 1000000000 b ∧ r.length ≤ max a.length b.length + 1 := by
 intro d
 induction d with
 | zero =>
  intro i out c hi hl hd h0 h1 hic ht hv
  have c0 : c = 0 := by omega
  subst c0
  rw [nv_take_all (by omega), nv_take_all (by omega)] at hv
  refine ⟨out, Ev.step (f := fun k => dioramaref02_Plus.j1 k a b out 0 (i : Int) (decide ((0 : Int) > 0))) (fun k => ?_) (Ev.step (f := fun _ => some out) (fun k => ?_) (Ev.now _)), ⟨hd, ?_⟩, by rw [hv]; omega, by omega⟩
  ·simp only [dioramaref02_Plus.l0]
   rw [if_neg (by omega), if_neg (by omega)]
  ·simp [dioramaref02_Plus.j1]
  ·rcases ht with h | h | h | h
   ·omega
   ·omega
   ·omega
   ·exact h
 | succ d ih =>
  intro i out c hi hl hd h0 h1 hic ht hv
  by_cases hgo : i < a.length ∨ i < b.length ∨ 0 < c
  ·have hx := ha.dg.getD (by decide) i
   have hy := hb.dg.getD (by decide) i
   have e1 := dv_take_succ' 1000000000 a i
   have e2 := dv_take_succ' 1000000000 b i
   have e3 := pw_succ 1000000000 i
   have zx : a.length ≤ i → a.getD i 0 = 0 := fun h => getD_ge h
   have zy : b.length ≤ i → b.getD i 0 = 0 := fun h => getD_ge h
   have tx : i + 1 = a.length → a.getD i 0 ≠ 0 := fun h => by have := top_getD ha.top (by omega); rwa [← h, Nat.add_sub_cancel] at this
   have ty : i + 1 = b.length → b.getD i 0 ≠ 0 := fun h => by have := top_getD hb.top (by omega); rwa [← h, Nat.add_sub_cancel] at this
   generalize hxv : a.getD i 0 = x at *
   generalize hyv : b.getD i 0 = y at *
   have hw : wrap64 (wrap64 (x + y) + c) = x + y + c := by rw [w64 (x := x + y) (by omega) (by omega), w64 (by omega) (by omega)]
   have hw2 : wrap64 ((x + y + c) / 1000000000) = (x + y + c) / 1000000000 := w64 (by omega) (by omega)
   obtain ⟨r, he, h⟩ := ih (i + 1) (out ++ [(x + y + c) % 1000000000]) ((x + y + c) / 1000000000) (by omega) (by simp [hl]) (dg_snoc hd (by omega) (by omega)) (by omega) (by omega)
    (by
     by_cases hmx : i < max a.length b.length
     ·left; omega
     ·right
      rw [zx (by omega), zy (by omega)]
      omega)
    (by
     by_cases g1 : i + 1 < a.length
     ·exact .inl g1
     ·by_cases g2 : i + 1 < b.length
      ·exact .inr (.inl g2)
      ·by_cases g3 : 0 < (x + y + c) / 1000000000
       ·exact .inr (.inr (.inl g3))
       ·refine .inr (.inr (.inr (top_of_getD ?_)))
        have hne : (x + y + c) % 1000000000 ≠ 0 := by
         rcases hgo with g | g | g
         ·have := tx (by omega); omega
         ·have := ty (by omega); omega
         ·omega
        simp only [List.length_append, List.length_singleton, Nat.add_sub_cancel]
        rw [List.getD_eq_getElem?_getD, List.getElem?_append_right (Nat.le_refl _)]
        simpa using hne)
    (by
     rw [dv_snoc, hl, hv, e1, e2, e3]
     have hdm := Int.mul_ediv_add_emod (x + y + c) 1000000000
     generalize (x + y + c) / 1000000000 = Q at *
     generalize (x + y + c) % 1000000000 = R at *
     have : R = x + y + c - 1000000000 * Q := by omega
     subst this
     grind)
   refine ⟨r, ?_, h⟩
   have hj : Ev (fun k => dioramaref02_Plus.j1 k a b out c (i : Int) true) r := by
    refine Ev.step (fun k => ?_) he
    simp only [dioramaref02_Plus.j1, if_true]
    rw [digit_f, digit_f, hxv, hyv]
    simp only [Option.bind_some, hw]
    rw [if_pos (by omega), tmodB (by omega), tdivB (by omega), hw2, w1 (by omega)]
   refine Ev.step (fun k => ?_) hj
   simp only [dioramaref02_Plus.l0]
   by_cases g1 : i < a.length
   ·rw [if_pos (by omega)]
   ·rw [if_neg (by omega)]
    by_cases g2 : i < b.length
    ·rw [if_pos (by omega)]
    ·rw [if_neg (by omega), decide_eq_true (show c > 0 by omega)]
  ·have c0 : c = 0 := by omega
   subst c0
   rw [nv_take_all (by omega), nv_take_all (by omega)] at hv
   refine ⟨out, Ev.step (f := fun k => dioramaref02_Plus.j1 k a b out 0 (i : Int) (decide ((0 : Int) > 0))) (fun k => ?_) (Ev.step (f := fun _ => some out) (fun k => ?_) (Ev.now _)), ⟨hd, ?_⟩, by rw [hv]; omega, by omega⟩
   ·simp only [dioramaref02_Plus.l0]
    rw [if_neg (by omega), if_neg (by omega)]
   ·simp [dioramaref02_Plus.j1]
   ·rcases ht with h | h | h | h
    ·omega
    ·omega
    ·omega
    ·exact h
theorem plus_f (a b : List Int) (ha : Nn a) (hb : Nn b) (hn : a.length ≤ 1000000) (hm : b.length ≤ 1000000) : ∃ r, Ev (fun k => dioramaref02_Plus.f k a b) r ∧ Nn r ∧ dv 1000000000 r = dv 1000000000 a + dv 1000000000 b ∧ r.length ≤ max a.length b.length + 1 :=
 plus_l a b ha hb hn hm (max a.length b.length + 1) 0 [] 0 (by omega) rfl (Dg.nil _) (by decide) (by decide) (.inr rfl) (.inr (.inr (.inr (fun h => absurd rfl h)))) (by simp [dv])
theorem mulB {c x y o : Int} (hc0 : 0 ≤ c) (hc1 : c < 1000000000) (hx0 : 0 ≤ x) (hx1 : x < 1000000000) (hy0 : 0 ≤ y) (hy1 : y < 1000000000) (ho0 : 0 ≤ o) (ho1 : o < 1000000000) :
  wrap64 (wrap64 (o + wrap64 (x * y)) + c) = o + x * y + c ∧ 0 ≤ o + x * y + c ∧ wrap64 (Int.tdiv (o + x * y + c) 1000000000) = (o + x * y + c) / 1000000000 ∧ (o + x * y + c) / 1000000000 < 1000000000 := by
 obtain ⟨h1, h2⟩ := mul_lt_sq hx0 hx1 hy0 hy1
 have h2' : x * y ≤ 999999998000000001 := h2
 rw [w64 (x := x * y) (by omega) (by omega), w64 (x := o + x * y) (by omega) (by omega), w64 (x := o + x * y + c) (by omega) (by omega), tdivB (by omega), w64 (by omega) (by omega)]
 refine ⟨rfl, by omega, rfl, by omega⟩
set_option maxHeartbeats 1000000 in
theorem times_l1 (a b : List Int) (i : Nat) (x : Int) (hx : a.getD i 0 = x) (hi : i < a.length) (hb : Dg 1000000000 b) (hx0 : 0 ≤ x) (hx1 : x < 1000000000) (hn : a.length + b.length ≤ 1000000) :
  ∀ (d j : Nat) (out : List Int) (c : Int), j + d = b.length → Dg 1000000000 out → out.length = a.length + b.length → 0 ≤ c → c < 1000000000 → (∀ m, i + b.length ≤ m → out.getD m 0 = 0) →
  ∃ out', (∀ r, Ev (fun k => dioramaref02_Times.l0 k a b out' ((i + 1 : Nat) : Int)) r → Ev (fun k => dioramaref02_Times.l1 k a b out (i : Int) c (j : Int)) r) ∧ out'.length = a.length + b.length ∧ Dg 1000000000 out' ∧
   dv 1000000000 out' = dv 1000000000 out + c * pw 1000000000 (i + j) + x * dv 1000000000 (b.drop j) * pw 1000000000 (i + j) ∧ ∀ m, i + 1 + b.length ≤ m → out'.getD m 0 = 0 := by
 intro d
 induction d with
 | zero =>
  intro j out c hj hd hl h0 h1 hz
  obtain rfl : j = b.length := by omega
  have hend : ∀ (out : List Int) (j : Nat) r, b.length ≤ j → Ev (fun k => dioramaref02_Times.l0 k a b out ((i + 1 : Nat) : Int)) r → Ev (fun k => dioramaref02_Times.l1 k a b out (i : Int) 0 (j : Int)) r := by
   intro out j r hj he
   refine Ev.step (fun k => ?_) he
   simp only [dioramaref02_Times.l1]
   rw [if_neg (by omega), if_neg (by omega), w1 (by omega)]
  rw [List.drop_of_length_le (Nat.le_refl _)]
  by_cases hc : c = 0
  ·subst hc
   exact ⟨out, fun r he => hend out _ r (Nat.le_refl _) he, hl, hd, by simp [dv], fun m hm => hz m (by omega)⟩
  ·refine ⟨out.set (i + b.length) c, fun r he => ?_, by simp [hl], hd.set _ h0 h1, ?_, fun m hm => by rw [getD_set (by omega)]; exact hz m (by omega)⟩
   ·have h2 := hend (out.set (i + b.length) c) (b.length + 1) r (by omega) he
    refine Ev.step (fun k => ?_) h2
    have hw : wrap64 ((i : Int) + (b.length : Int)) = ((i + b.length : Nat) : Int) := by rw [w64 (by omega) (by omega)]; omega
    obtain ⟨g1, g2, g3, g4⟩ := mulB (o := 0) (y := 0) h0 h1 hx0 hx1 (by decide) (by decide) (by decide) (by decide)
    have e0 : (0 : Int) + x * 0 + c = c := by omega
    rw [e0] at g1 g3
    simp only [dioramaref02_Times.l1, hw, rd_nat, hx, Int.toNat_natCast]
    rw [if_neg (by omega), if_pos (by omega), if_pos (by omega), if_pos (by omega), if_pos (by omega), if_pos (by omega), digit_f, getD_ge (Nat.le_refl _), hz _ (Nat.le_refl _)]
    simp only [Option.bind_some, g1, g3]
    rw [tmodB h0, Int.emod_eq_of_lt h0 h1, Int.ediv_eq_zero_of_lt h0 h1, w1 (by omega)]
   ·rw [dv_set _ _ _ _ (by omega), hz _ (Nat.le_refl _)]
    simp [dv]
 | succ d ih =>
  intro j out c hj hd hl h0 h1 hz
  have hy := hb.getD (by decide) j
  have ho := hd.getD (by decide) (i + j)
  have c1 : (j : Int) < (b.length : Int) := by omega
  have c2 : 0 ≤ ((i + j : Nat) : Int) := by omega
  have c3 : ((i + j : Nat) : Int) < (out.length : Int) := by omega
  have c4 : 0 ≤ (i : Int) := by omega
  have c5 : (i : Int) < (a.length : Int) := by omega
  have c6 : i + j < out.length := by omega
  have c7 : j < b.length := by omega
  have hw : wrap64 ((i : Int) + (j : Int)) = ((i + j : Nat) : Int) := by rw [w64 (by omega) (by omega)]; omega
  have hw1 := w1 (i := j) (by omega)
  have HW := Aside0.mk (And.intro hw hw1)
  clear hw hw1
  generalize hyv : b.getD j 0 = y at *
  generalize hov : out.getD (i + j) 0 = o at *
  obtain ⟨g1, g2, g3, g4⟩ := mulB h0 h1 hx0 hx1 hy.1 hy.2 ho.1 ho.2
  have gm := Int.mul_ediv_add_emod (o + x * y + c) 1000000000
  have gr0 := Int.emod_nonneg (o + x * y + c) (show (1000000000 : Int) ≠ 0 by decide)
  have gr1 := Int.emod_lt_of_pos (o + x * y + c) (show (0 : Int) < 1000000000 by decide)
  have gq0 : 0 ≤ (o + x * y + c) / 1000000000 := Int.ediv_nonneg g2 (by decide)
  have gt := tmodB g2
  generalize (o + x * y + c) / 1000000000 = q at *
  generalize (o + x * y + c) % 1000000000 = r' at *
  have hs : r' + 1000000000 * q = c + (x * y + o) := by clear g1 g3 gt; omega
  have HG := Aside0.mk (And.intro g1 (And.intro g3 gt))
  clear g1 g3 gt gm
  obtain ⟨out', k1, k2, k3, k4, k5⟩ := ih (j + 1) (out.set (i + j) r') q (by omega) (hd.set _ gr0 gr1) (by simp [hl]) gq0 g4 (fun m hm => by rw [getD_set (by omega)]; exact hz m hm)
  refine ⟨out', fun r he => ?_, k2, k3, ?_, k5⟩
  ·refine Ev.step (fun k => ?_) (k1 r he)
   simp only [dioramaref02_Times.l1, HW.out.1, rd_nat, hx, Int.toNat_natCast]
   rw [if_pos c1, if_pos c2, if_pos c3, if_pos c4, if_pos c5, digit_f, hyv, hov]
   simp only [Option.bind_some, HG.out.1, HG.out.2.1, HG.out.2.2, HW.out.2]
  ·rw [k4, dv_set _ _ _ _ c6, hov, dv_drop 1000000000 b j c7, hyv, ← Nat.add_assoc, pw_succ]
   exact (mul_step hs).symm
theorem times_l0 (a b : List Int) (ha : Dg 1000000000 a) (hb : Dg 1000000000 b) (hn : a.length + b.length ≤ 1000000) :
  ∀ (d i : Nat) (out : List Int), i + d = a.length → Dg 1000000000 out → out.length = a.length + b.length → dv 1000000000 out = dv 1000000000 (a.take i) * dv 1000000000 b → (∀ m, i + b.length ≤ m → out.getD m 0 = 0) →
  ∃ r, Ev (fun k => dioramaref02_Times.l0 k a b out (i : Int)) r ∧ Nn r ∧ dv 1000000000 r = dv 1000000000 a * dv 1000000000 b ∧ r.length ≤ a.length + b.length := by
 intro d
 induction d with
 | zero =>
  intro i out hi hd hl hv hz
  obtain ⟨r, he, hc, hr, hlr⟩ := trimmed_f out hd (by omega)
  refine ⟨r, Ev.step (f := fun k => (dioramaref02_trimmed.f k out).bind fun t => some t) (fun k => ?_) (Ev.bind he (Ev.now _)), hc, by rw [hr, hv, nv_take_all (by omega)], by omega⟩
  simp only [dioramaref02_Times.l0]
  rw [if_neg (by omega)]
 | succ d ih =>
  intro i out hi hd hl hv hz
  have hx := ha.getD (by decide) i
  obtain ⟨out', k1, k2, k3, k4, k5⟩ := times_l1 a b i (a.getD i 0) rfl (by omega) hb hx.1 hx.2 hn b.length 0 out 0 (by omega) hd hl (by decide) (by decide) hz
  obtain ⟨r, he, h⟩ := ih (i + 1) out' (by omega) k3 k2 (by
   rw [k4, hv, dv_take_succ' _ a i]
   simp only [List.drop_zero, Nat.add_zero]
   grind) (fun m hm => k5 m (by omega))
  refine ⟨r, Ev.step (fun k => ?_) (k1 r he), h⟩
  simp only [dioramaref02_Times.l0]
  rw [if_pos (by omega)]
  rfl
theorem times_f (a b : List Int) (ha : Nn a) (hb : Nn b) (hn : a.length + b.length ≤ 1000000) : ∃ r, Ev (fun k => dioramaref02_Times.f k a b) r ∧ Nn r ∧ dv 1000000000 r = dv 1000000000 a * dv 1000000000 b ∧ r.length ≤ a.length + b.length := by
 have e1 : wrap64 ((a.length : Int) + (b.length : Int)) = ((a.length + b.length : Nat) : Int) := by rw [w64 (by omega) (by omega)]; omega
 obtain ⟨r, he, h⟩ := times_l0 a b ha.dg hb.dg hn a.length 0 (List.replicate (a.length + b.length) 0) (by omega) (Dg.replicate (by decide) _) (by simp) (by rw [dv_replicate]; simp [dv]) (fun m _ => by
  rw [List.getD_eq_getElem?_getD, List.getElem?_replicate]
  split <;> rfl)
 refine ⟨r, Ev.congr (fun k => ?_) he, h⟩
 simp only [dioramaref02_Times.f, e1, Int.toNat_natCast]
 rw [if_pos (by omega), if_pos (by omega)]
 rfl
theorem drop_le (l : List Int) (hd : Dg 1000000000 l) (i : Nat) : dv 1000000000 (l.drop i) ≤ dv 1000000000 l ∧ 0 ≤ dv 1000000000 (l.drop i) := by
 have h0 := dv_nonneg (by decide) (hd.drop i)
 refine ⟨?_, h0⟩
 by_cases hi : i ≤ l.length
 ·have h1 := dv_split 1000000000 l i hi
  have h2 := dv_nonneg (by decide) (hd.take i)
  have h3 : 0 < pw 1000000000 i := pow_pos (by decide) i
  have h4 : 1 * dv 1000000000 (l.drop i) ≤ pw 1000000000 i * dv 1000000000 (l.drop i) := Int.mul_le_mul_of_nonneg_right (by omega) h0
  omega
 ·rw [List.drop_of_length_le (by omega)]
  exact dv_nonneg (by decide) hd
theorem small_l (l : List Int) (hd : Dg 1000000000 l) (hn : l.length ≤ 1000000) (hs : dv 1000000000 l ≤ 9223372036854775807) : ∀ i : Nat, i ≤ l.length → Ev (fun k => dioramaref02_Small.l0 k l (dv 1000000000 (l.drop i)) ((i : Int) - 1)) (dv 1000000000 l, true) := by
 intro i
 induction i with
 | zero =>
  intro _
  refine Ev.step (f := fun _ => some (dv 1000000000 l, true)) (fun k => ?_) (Ev.now _)
  simp [dioramaref02_Small.l0]
 | succ i ih =>
  intro hi
  have e : (((i + 1 : Nat) : Int) - 1) = (i : Int) := by omega
  have h1 := dv_drop 1000000000 l i (by omega)
  have h2 := drop_le l hd i
  have h3 := drop_le l hd (i + 1)
  have hx := hd.getD (by decide) i
  rw [e]
  refine Ev.step (fun k => ?_) (ih (by omega))
  simp only [dioramaref02_Small.l0, rd_nat]
  rw [if_pos (by omega), if_pos (by omega), if_pos (by omega), w64 (x := _ * 1000000000) (by omega) (by omega), w64 (x := _ + _) (by omega) (by omega), w64 (x := (i : Int) - 1) (by omega) (by omega), h1]
  congr 1
  omega
theorem small_f (l : List Int) (most : Int) (hl : Nn l) (hn : l.length ≤ 1000000) (h0 : 0 ≤ most) (h1 : most ≤ 9223372036854775807) : Ev (fun k => dioramaref02_Small.f k l most) (if most < dv 1000000000 l then (0, false) else (dv 1000000000 l, true)) := by
 obtain ⟨r, he, hr, hv, hlr⟩ := of_f most h0 h1
 have hc := compare_f l r hl hr hn (by omega)
 rw [hv] at hc
 by_cases hb : most < dv 1000000000 l
 ·rw [if_pos hb]
  rw [cmp2 hb] at hc
  exact Ev.bind he (Ev.bind hc (Ev.congr (f := fun _ => some (0, false)) (fun k => by simp) (Ev.now _)))
 ·rw [if_neg hb]
  have hle : ¬ (Nd.cmpI (dv 1000000000 l) most > 0) := by
   unfold Nd.cmpI
   by_cases h2 : dv 1000000000 l < most
   ·rw [if_pos h2]; decide
   ·rw [if_neg h2, if_neg hb]; decide
  have h2 := small_l l hl.dg hn (by omega) l.length (Nat.le_refl _)
  rw [List.drop_of_length_le (Nat.le_refl _)] at h2
  refine Ev.bind he (Ev.bind hc (Ev.congr (fun k => ?_) h2))
  rw [if_neg hle, w64 (by omega) (by omega)]
  rfl
end Go.Proofs.Ytpbhepdgamoiaaa.Pb
namespace Go.Proofs.Ytpbhepdgamoiaaa.Pc
open Go.RowKit Go.Proofs.Ytpbhepdgamoiaaa.P Go.Proofs.Ytpbhepdgamoiaaa.E Go.Proofs.YtpbhepdgamoiaaaW.PrintWords Go.Proofs.YtpbhepdgamoiaaaW.PrintLast Go.Proofs.Ytpbhepdgamoiaaa.Ml Go.Proofs.Ytpbhepdgamoiaaa.Mn Go.Proofs.Ytpbhepdgamoiaaa.Pa Go.Proofs.Ytpbhepdgamoiaaa.Pb
set_option linter.unusedVariables false
set_option linter.unusedSimpArgs false
theorem drop_set' {l : List Int} {i : Nat} {v : Int} : (l.set i v).drop (i + 1) = l.drop (i + 1) := by
 rw [List.drop_set]
 simp
theorem over_l1 (a b q rest : List Int) (i : Nat) (hb : Nn b) (hr : Nn rest) (hi : i < q.length) (hq : q.length ≤ 1000000) (hlb : b.length ≤ 100000) (hlr : rest.length ≤ 200000) (hbp : 0 < dv 1000000000 b) :
  ∀ (m : Nat) (low high : Int), high - low ≤ m → 0 ≤ low → low ≤ high → high ≤ 999999999 → low * dv 1000000000 b ≤ dv 1000000000 rest → dv 1000000000 rest < (high + 1) * dv 1000000000 b →
  ∃ t rest', 0 ≤ t ∧ t < 1000000000 ∧ Nn rest' ∧ dv 1000000000 rest = t * dv 1000000000 b + dv 1000000000 rest' ∧ dv 1000000000 rest' < dv 1000000000 b ∧ (∀ r, Ev (fun k => dioramaref02_Over.l0 k a b (q.set i t) rest' ((i : Int) - 1)) r → Ev (fun k => dioramaref02_Over.l1 k a b q rest (i : Int) low high) r) := by
 intro m
 induction m with
 | zero =>
  intro low high hm h0 h1 h2 hlo hhi
  obtain rfl : low = high := by omega
  obtain ⟨o, eo, ho, vo, lo⟩ := of_f low h0 (by omega)
  obtain ⟨p, ep, hp, vp, lp⟩ := times_f b o hb ho (by omega)
  have e1 : dv 1000000000 p = low * dv 1000000000 b := by rw [vp, vo, Int.mul_comm]
  obtain ⟨s, es, hs, vs, ls⟩ := minus_f rest p hr hp (by omega) (by omega)
  have e2 : (low + 1) * dv 1000000000 b = low * dv 1000000000 b + dv 1000000000 b := by rw [Int.add_mul]; omega
  refine ⟨low, s, h0, by omega, hs, by omega, by omega, fun r he => ?_⟩
  refine Ev.step (f := fun k => (dioramaref02_Of.f k low).bind fun t197 => ((dioramaref02_Times.f k b t197).bind fun t200 => ((dioramaref02_Minus.f k rest t200).bind fun t203 => (dioramaref02_Over.l0 k a b (q.set i low) t203 ((i : Int) - 1))))) (fun k => ?_) (Ev.bind eo (Ev.bind ep (Ev.bind es he)))
  simp only [dioramaref02_Over.l1, Int.toNat_natCast]
  rw [if_neg (by omega), if_pos (by omega), if_pos (by omega), w64 (by omega) (by omega)]
 | succ m ih =>
  intro low high hm h0 h1 h2 hlo hhi
  by_cases hlt : low < high
  ·have hmid : wrap64 (Int.tdiv (wrap64 (wrap64 (low + high) + 1)) 2) = (low + high + 1) / 2 := by
    rw [w64 (x := low + high) (by omega) (by omega), w64 (x := low + high + 1) (by omega) (by omega), Int.tdiv_eq_ediv_of_nonneg (by omega), w64 (by omega) (by omega)]
   have hm1 : low < (low + high + 1) / 2 := by omega
   have hm2 : (low + high + 1) / 2 ≤ high := by omega
   generalize (low + high + 1) / 2 = mid at *
   obtain ⟨o, eo, ho, vo, lo⟩ := of_f mid (by omega) (by omega)
   obtain ⟨p, ep, hp, vp, lp⟩ := times_f b o hb ho (by omega)
   have e1 : dv 1000000000 p = mid * dv 1000000000 b := by rw [vp, vo, Int.mul_comm]
   have ec := compare_f p rest hp hr (by omega) (by omega)
   rw [e1] at ec
   by_cases hc : mid * dv 1000000000 b ≤ dv 1000000000 rest
   ·obtain ⟨t, rest', g1, g2, g3, g4, g5, g6⟩ := ih mid high (by omega) (by omega) hm2 h2 hc hhi
    have hle : Nd.cmpI (mid * dv 1000000000 b) (dv 1000000000 rest) ≤ 0 := by
     unfold Nd.cmpI
     by_cases h2 : mid * dv 1000000000 b < dv 1000000000 rest
     ·rw [if_pos h2]; decide
     ·rw [if_neg h2, if_neg (by omega)]; decide
    refine ⟨t, rest', g1, g2, g3, g4, g5, fun r he => ?_⟩
    refine Ev.step (f := fun k => (dioramaref02_Of.f k mid).bind fun t206 => ((dioramaref02_Times.f k b t206).bind fun t209 => ((dioramaref02_Compare.f k t209 rest).bind fun t212 => (if t212 ≤ 0 then (dioramaref02_Over.l1 k a b q rest (i : Int) mid high) else (dioramaref02_Over.l1 k a b q rest (i : Int) low (wrap64 (mid - 1))))))) (fun k => ?_) (Ev.bind eo (Ev.bind ep (Ev.bind ec (Ev.congr (fun k => ?_) (g6 r he)))))
    ·simp only [dioramaref02_Over.l1, hmid]
     rw [if_pos hlt]
    ·rw [if_pos hle]
   ·have hw : wrap64 (mid - 1) = mid - 1 := w64 (by omega) (by omega)
    obtain ⟨t, rest', g1, g2, g3, g4, g5, g6⟩ := ih low (mid - 1) (by omega) h0 (by omega) (by omega) hlo (by rw [Int.sub_add_cancel]; omega)
    have hle : ¬ Nd.cmpI (mid * dv 1000000000 b) (dv 1000000000 rest) ≤ 0 := by
     rw [cmp2 (by omega)]; decide
    refine ⟨t, rest', g1, g2, g3, g4, g5, fun r he => ?_⟩
    refine Ev.step (f := fun k => (dioramaref02_Of.f k mid).bind fun t206 => ((dioramaref02_Times.f k b t206).bind fun t209 => ((dioramaref02_Compare.f k t209 rest).bind fun t212 => (if t212 ≤ 0 then (dioramaref02_Over.l1 k a b q rest (i : Int) mid high) else (dioramaref02_Over.l1 k a b q rest (i : Int) low (wrap64 (mid - 1))))))) (fun k => ?_) (Ev.bind eo (Ev.bind ep (Ev.bind ec (Ev.congr (fun k => ?_) (g6 r he)))))
    ·simp only [dioramaref02_Over.l1, hmid]
     rw [if_pos hlt]
    ·rw [if_neg hle, hw]
  ·exact ih low high (by omega) h0 h1 h2 hlo hhi
theorem over_l0 (a b : List Int) (ha : Dg 1000000000 a) (hb : Nn b) (hla : a.length ≤ 100000) (hlb : b.length ≤ 100000) (hbp : 0 < dv 1000000000 b) :
  ∀ (i : Nat) (q rest : List Int), i ≤ a.length → q.length = a.length → Dg 1000000000 q → Nn rest → dv 1000000000 rest < dv 1000000000 b → dv 1000000000 (a.drop i) = dv 1000000000 (q.drop i) * dv 1000000000 b + dv 1000000000 rest →
  ∃ r1 r2, Ev (fun k => dioramaref02_Over.l0 k a b q rest ((i : Int) - 1)) (r1, r2) ∧ Nn r1 ∧ Nn r2 ∧ dv 1000000000 a = dv 1000000000 r1 * dv 1000000000 b + dv 1000000000 r2 ∧ dv 1000000000 r2 < dv 1000000000 b ∧ r1.length ≤ a.length ∧ r2.length ≤ b.length := by
 have hlen : ∀ {l : List Int}, Nn l → dv 1000000000 l < dv 1000000000 b → l.length ≤ b.length := by
  intro l hl h
  refine Nat.le_of_not_lt fun h2 => ?_
  have := dv_len (by decide) hb.dg hl h2
  omega
 intro i
 induction i with
 | zero =>
  intro q rest _ hq dq hr hlt hv
  obtain ⟨r, he, hc, hvr, hlr⟩ := trimmed_f q dq (by omega)
  rw [List.drop_zero, List.drop_zero] at hv
  refine ⟨r, rest, Ev.step (f := fun k => (dioramaref02_trimmed.f k q).bind fun t => some (t, rest)) (fun k => ?_) (Ev.bind he (Ev.now _)), hc, hr, by rw [hvr]; exact hv, hlt, by omega, hlen hr hlt⟩
  simp [dioramaref02_Over.l0]
 | succ i ih =>
  intro q rest hi hq dq hr hlt hv
  have e : (((i + 1 : Nat) : Int) - 1) = (i : Int) := by omega
  have hx := ha.getD (by decide) i
  have hlr := hlen hr hlt
  obtain ⟨u, eu, hu, vu, lu⟩ := trimmed_f (a.getD i 0 :: rest) (Dg.cons hx.1 hx.2 hr.dg) (by simp; omega)
  have vu2 : dv 1000000000 u = a.getD i 0 + 1000000000 * dv 1000000000 rest := vu
  have r0 := dv_nonneg (by decide) hr.dg
  simp only [List.length_cons] at lu
  obtain ⟨t, rest', g1, g2, g3, g4, g5, g6⟩ := over_l1 a b q u i hb hu (by omega) (by omega) hlb (by omega) hbp 999999999 0 999999999 (by decide) (by decide) (by decide) (by decide) (by have := dv_nonneg (by decide) hu.dg ; omega) (by
   have : (1000000000 : Int) * (dv 1000000000 rest + 1) ≤ 1000000000 * dv 1000000000 b := Int.mul_le_mul_of_nonneg_left (by omega) (by decide)
   rw [vu2]
   omega)
  obtain ⟨r1, r2, he, h⟩ := ih (q.set i t) rest' (by omega) (by simpa using hq) (dq.set _ g1 g2) g3 g5 (by
   rw [dv_drop _ a i (by omega), dv_drop _ (q.set i t) i (by simp; omega), drop_set', getD_set_self (by omega), hv]
   have := vu2
   rw [g4] at this
   grind)
  refine ⟨r1, r2, ?_, h⟩
  rw [e]
  refine Ev.step (f := fun k => (dioramaref02_trimmed.f k (a.getD i 0 :: rest)).bind fun t193 => (dioramaref02_Over.l1 k a b q t193 (i : Int) 0 999999999)) (fun k => ?_) (Ev.bind eu (g6 _ he))
  simp only [dioramaref02_Over.l0, rd_nat, Option.bind_some, List.singleton_append, List.length_singleton]
  rw [if_pos (by omega), if_pos (by omega), if_pos (by omega), if_pos (by omega)]
theorem over_f (a b : List Int) (ha : Nn a) (hb : Nn b) (hla : a.length ≤ 100000) (hlb : b.length ≤ 100000) (hbp : 0 < dv 1000000000 b) :
  ∃ r1 r2, Ev (fun k => dioramaref02_Over.f k a b) (r1, r2) ∧ Nn r1 ∧ Nn r2 ∧ dv 1000000000 a = dv 1000000000 r1 * dv 1000000000 b + dv 1000000000 r2 ∧ dv 1000000000 r2 < dv 1000000000 b ∧ r1.length ≤ a.length ∧ r2.length ≤ b.length := by
 obtain ⟨r1, r2, he, h⟩ := over_l0 a b ha.dg hb hla hlb hbp a.length (List.replicate a.length 0) [] (Nat.le_refl _) (by simp) (Dg.replicate (by decide) _) (Cn.nil _) hbp (by rw [List.drop_of_length_le (Nat.le_refl _), List.drop_of_length_le (by simp)]; simp [dv])
 refine ⟨r1, r2, Ev.congr (fun k => ?_) he, h⟩
 simp only [dioramaref02_Over.f, Int.toNat_natCast]
 rw [if_pos (by omega), if_pos (by omega), w64 (by omega) (by omega)]
end Go.Proofs.Ytpbhepdgamoiaaa.Pc
namespace Go.Proofs.Ytpbhepdgamoiaaa.Pe
open Go.RowKit Go Go.Proofs.YtpbhepdgamoiaaaW.PrintWords Go.Proofs.YtpbhepdgamoiaaaW.PrintLast Go.Proofs.YtpbhepdgamoiaaaW.PrintMore Go.Proofs.Ytpbhepdgamoiaaa.Mn Go.Proofs.Ytpbhepdgamoiaaa.Rf Go.Proofs.Ytpbhepdgamoiaaa.Er Go.Proofs.Ytpbhepdgamoiaaa.Ek Go.Proofs.Ytpbhepdgamoiaaa.E
set_option linter.unusedVariables false
set_option linter.unusedSimpArgs false
abbrev Ed := S77
structure Vd (x : Ed) : Prop where
 d0 : 1 ≤ x.f0
 d1 : x.f0 ≤ 1099511627776
 m0 : -1 ≤ x.f1
 m1 : x.f1 ≤ 1099511627776
 n0 : 0 ≤ x.f2
 n1 : x.f2 ≤ 1000
 e0 : 1 ≤ x.f3
 e1 : x.f3 ≤ 1000
 em : x.f1 < 0 → x.f2 = 1 ∧ x.f3 = 1
instance (x : Ed) : Decidable (Vd x) :=
 decidable_of_iff (1 ≤ x.f0 ∧ x.f0 ≤ 1099511627776 ∧ -1 ≤ x.f1 ∧ x.f1 ≤ 1099511627776 ∧ 0 ≤ x.f2 ∧ x.f2 ≤ 1000 ∧ 1 ≤ x.f3 ∧ x.f3 ≤ 1000 ∧ (x.f1 < 0 → x.f2 = 1 ∧ x.f3 = 1))
  ⟨fun ⟨a, b, c, d, e, f, g, h, i⟩ => ⟨a, b, c, d, e, f, g, h, i⟩, fun h => ⟨h.d0, h.d1, h.m0, h.m1, h.n0, h.n1, h.e0, h.e1, h.em⟩⟩
structure Ck (ms ts : Int) : Prop where
 m0 : 1 ≤ ms
 m1 : ms ≤ 1000000
 t0 : 1 ≤ ts
 t1 : ts ≤ 1000000
instance (ms ts : Int) : Decidable (Ck ms ts) :=
 decidable_of_iff (1 ≤ ms ∧ ms ≤ 1000000 ∧ 1 ≤ ts ∧ ts ≤ 1000000) ⟨fun ⟨a, b, c, d⟩ => ⟨a, b, c, d⟩, fun h => ⟨h.m0, h.m1, h.t0, h.t1⟩⟩
theorem valid_f (x : Ed) : edit_valid.f x.f0 x.f1 x.f2 x.f3 = some true ∧ Vd x ∨ edit_valid.f x.f0 x.f1 x.f2 x.f3 = some false ∧ ¬ Vd x := by
 unfold edit_valid.f
 by_cases h1 : x.f0 < 1
 ·rw [if_pos h1]; exact .inr ⟨rfl, fun h => by have := h.d0; omega⟩
 rw [if_neg h1]
 by_cases h2 : x.f0 > 1099511627776
 ·rw [if_pos h2]; exact .inr ⟨rfl, fun h => by have := h.d1; omega⟩
 rw [if_neg h2]
 by_cases h3 : x.f1 < -1
 ·rw [if_pos h3]; exact .inr ⟨rfl, fun h => by have := h.m0; omega⟩
 rw [if_neg h3]
 by_cases h4 : x.f1 > 1099511627776
 ·rw [if_pos h4]; exact .inr ⟨rfl, fun h => by have := h.m1; omega⟩
 rw [if_neg h4]
 by_cases h5 : x.f2 < 0
 ·rw [if_pos h5]; exact .inr ⟨rfl, fun h => by have := h.n0; omega⟩
 rw [if_neg h5]
 by_cases h6 : x.f2 > 1000
 ·rw [if_pos h6]; exact .inr ⟨rfl, fun h => by have := h.n1; omega⟩
 rw [if_neg h6]
 by_cases h7 : x.f3 < 1
 ·rw [if_pos h7]; exact .inr ⟨rfl, fun h => by have := h.e0; omega⟩
 rw [if_neg h7]
 by_cases h8 : x.f3 > 1000
 ·rw [if_pos h8]; exact .inr ⟨rfl, fun h => by have := h.e1; omega⟩
 rw [if_neg h8]
 by_cases h9 : x.f1 ≥ 0
 ·rw [if_pos h9]; exact .inl ⟨rfl, ⟨by omega, by omega, by omega, by omega, by omega, by omega, by omega, by omega, fun h => by omega⟩⟩
 rw [if_neg h9]
 by_cases h10 : x.f2 = 1
 ·rw [if_pos h10]
  by_cases h11 : x.f3 = 1
  ·rw [h11]; exact .inl ⟨rfl, ⟨by omega, by omega, by omega, by omega, by omega, by omega, by omega, by omega, fun h => by omega⟩⟩
  ·exact .inr ⟨by simp [h11], fun h => by have := h.em (by omega); omega⟩
 ·rw [if_neg h10]; exact .inr ⟨rfl, fun h => by have := h.em (by omega); omega⟩
def chk (l : List Ed) (ms ts : Int) : Int := if ¬ Ck ms ts then 1 else if 20 < l.length then 2 else if (∀ x ∈ l, Vd x) ∧ sumD l ≤ 1099511627776 then 0 else 33
theorem chk_ok {l : List Ed} {ms ts : Int} : chk l ms ts = 0 ↔ Ck ms ts ∧ l.length ≤ 20 ∧ (∀ x ∈ l, Vd x) ∧ sumD l ≤ 1099511627776 := by
 unfold chk
 constructor
 ·intro h
  by_cases h1 : Ck ms ts
  ·rw [if_neg (not_not_intro h1)] at h
   by_cases h2 : 20 < l.length
   ·rw [if_pos h2] at h; cases h
   ·rw [if_neg h2] at h
    by_cases h3 : (∀ x ∈ l, Vd x) ∧ sumD l ≤ 1099511627776
    ·exact ⟨h1, by omega, h3.1, h3.2⟩
    ·rw [if_neg h3] at h; cases h
  ·rw [if_pos h1] at h; cases h
 ·rintro ⟨h1, h2, h3, h4⟩
  rw [if_neg (not_not_intro h1), if_neg (by omega), if_pos ⟨h3, h4⟩]
theorem rd_at (pre : List Ed) (x : Ed) (rest : List Ed) : rd_T77 (pre ++ x :: rest) (pre.length : Int) = x := by
 unfold rd_T77
 simp [List.getD_eq_getElem?_getD]
theorem sumD_nonneg {l : List Ed} (h : ∀ x ∈ l, Vd x) : 0 ≤ sumD l := by
 induction l with
 | nil => simp [sumD]
 | cons x t ih =>
  have h1 := (h x (by simp)).d0
  have h2 := ih (fun y hy => h y (by simp [hy]))
  simp only [sumD]
  omega
theorem sumD_le {l : List Ed} (h : ∀ x ∈ l, Vd x) : sumD l ≤ 1099511627776 * l.length := by
 induction l with
 | nil => simp [sumD]
 | cons x t ih =>
  have h1 := (h x (by simp)).d1
  have h2 := ih (fun y hy => h y (by simp [hy]))
  simp only [sumD, List.length_cons]
  omega
theorem check_l (l : List Ed) (hl : l.length ≤ 20) (rest : List Ed) : ∀ pre, l = pre ++ rest → (∀ x ∈ pre, Vd x) → Ev (fun k => edit_Check.l0 k (sumD pre) l (l.length : Int) (pre.length : Int)) (if (∀ x ∈ rest, Vd x) ∧ sumD l ≤ 1099511627776 then 0 else 33) := by
 induction rest with
 | nil =>
  intro pre he hp
  subst he
  refine Ev.step (f := fun _ => some (if (∀ x ∈ ([] : List Ed), Vd x) ∧ sumD (pre ++ []) ≤ 1099511627776 then 0 else 33)) (fun k => ?_) (Ev.now _)
  simp only [edit_Check.l0, List.append_nil]
  rw [if_neg (by omega)]
  by_cases h : sumD pre > 1099511627776
  ·rw [if_pos h, if_neg (by intro hh; omega)]
  ·rw [if_neg h, if_pos ⟨by simp, by omega⟩]
 | cons x t ih =>
  intro pre he hp
  have hlen : l.length = pre.length + (t.length + 1) := by rw [he]; simp
  have hx : rd_T77 l (pre.length : Int) = x := by rw [he]; exact rd_at pre x t
  rcases valid_f x with ⟨hv, hV⟩ | ⟨hv, hV⟩
  ·have hs : sumD (pre ++ [x]) = sumD pre + x.f0 := by rw [sumD_app]; simp [sumD]
   have hb := sumD_le hp
   have h0 := sumD_nonneg hp
   have hr := ih (pre ++ [x]) (by rw [he]; simp) (by intro y hy; simp only [List.mem_append, List.mem_singleton] at hy; rcases hy with hy | rfl; exact hp y hy; exact hV)
   refine Ev.step (fun k => ?_) (Ev.congr (f := fun k => edit_Check.l0 k (sumD (pre ++ [x])) l (l.length : Int) ((pre ++ [x]).length : Int)) (fun k => rfl) ?_)
   ·simp only [edit_Check.l0]
    rw [if_pos (by omega), if_pos (by omega), if_pos (by omega), hx, hv]
    simp only [Option.bind_some, if_true]
    rw [w64 (by have := hV.d0; omega) (by have := hV.d1; omega), w64 (by omega) (by omega), hs]
    simp
   ·have e : ((∀ y ∈ x :: t, Vd y) ∧ sumD l ≤ 1099511627776) = ((∀ y ∈ t, Vd y) ∧ sumD l ≤ 1099511627776) := by
     apply propext
     constructor
     ·rintro ⟨h1, h2⟩; exact ⟨fun y hy => h1 y (by simp [hy]), h2⟩
     ·rintro ⟨h1, h2⟩; exact ⟨fun y hy => by simp only [List.mem_cons] at hy; rcases hy with rfl | hy; exact hV; exact h1 y hy, h2⟩
    simp only [e]
    exact hr
  ·refine Ev.step (f := fun _ => some 33) (fun k => ?_) ?_
   ·simp only [edit_Check.l0]
    rw [if_pos (by omega), if_pos (by omega), if_pos (by omega), hx, hv]
    simp
   ·rw [if_neg (fun h => hV (h.1 x (by simp)))]
    exact Ev.now _
theorem scale_f (n : Int) : edit_isScale.f n = some (decide (1 ≤ n ∧ n ≤ 1000000)) := by
 unfold edit_isScale.f
 by_cases h : n ≥ 1
 ·rw [if_pos h]; simp; omega
 ·rw [if_neg h]; simp; omega
theorem check_f (l : List Ed) (ms ts : Int) : Ev (fun k => edit_Check.f k l ms ts) (chk l ms ts) := by
 have h0 : ∀ b, Ev (fun k => edit_Check.j0 k l b) (if b = true then 1 else if 20 < l.length then 2 else if (∀ x ∈ l, Vd x) ∧ sumD l ≤ 1099511627776 then 0 else 33) := by
  intro b
  by_cases hb : b = true
  ·rw [if_pos hb]
   refine Ev.step (f := fun _ => some 1) (fun k => ?_) (Ev.now _)
   simp only [edit_Check.j0]
   rw [if_pos hb]
  ·rw [if_neg hb]
   by_cases hl : 20 < l.length
   ·rw [if_pos hl]
    refine Ev.step (f := fun _ => some 2) (fun k => ?_) (Ev.now _)
    simp only [edit_Check.j0]
    rw [if_neg hb, if_pos (by omega)]
   ·rw [if_neg hl]
    refine Ev.step (fun k => ?_) (check_l l (by omega) l [] rfl (by simp))
    simp only [edit_Check.j0]
    rw [if_neg hb, if_neg (by omega)]
    rfl
 unfold chk
 by_cases h1 : 1 ≤ ms ∧ ms ≤ 1000000
 ·by_cases h2 : 1 ≤ ts ∧ ts ≤ 1000000
  ·rw [if_neg (not_not_intro ⟨h1.1, h1.2, h2.1, h2.2⟩)]
   refine Ev.congr (fun k => ?_) (h0 false)
   unfold edit_Check.f
   rw [scale_f, scale_f, decide_eq_true h1, decide_eq_true h2]
   rfl
  ·rw [if_pos (fun h => h2 ⟨h.t0, h.t1⟩)]
   refine Ev.congr (fun k => ?_) (h0 true)
   unfold edit_Check.f
   rw [scale_f, scale_f, decide_eq_true h1, decide_eq_false h2]
   rfl
 ·rw [if_pos (fun h => h1 ⟨h.m0, h.m1⟩)]
  refine Ev.congr (fun k => ?_) (h0 true)
  unfold edit_Check.f
  rw [scale_f, decide_eq_false h1]
  rfl
end Go.Proofs.Ytpbhepdgamoiaaa.Pe
namespace Go.Proofs.Ytpbhepdgamoiaaa.Pf
open Go.RowKit Go Go.Proofs.YtpbhepdgamoiaaaW.PrintWords Go.Proofs.YtpbhepdgamoiaaaW.PrintLast Go.Proofs.YtpbhepdgamoiaaaW.PrintMore Go.Proofs.Ytpbhepdgamoiaaa.Mn Go.Proofs.Ytpbhepdgamoiaaa.Rf Go.Proofs.Ytpbhepdgamoiaaa.Er Go.Proofs.Ytpbhepdgamoiaaa.Ek Go.Proofs.Ytpbhepdgamoiaaa.E Go.Proofs.Ytpbhepdgamoiaaa.Pe
set_option linter.unusedVariables false
set_option linter.unusedSimpArgs false
def lowV (x : Ed) : Ed := ⟨x.f0, x.f1, (qq x.f2 x.f3).num, ((qq x.f2 x.f3).den : Int)⟩
def ovV (ms ts : Int) (a b : Ed) : Bool := overB ms ts a.f0 a.f1 a.f2 a.f3 b.f1 b.f2 b.f3
def push (ms ts : Int) : List Ed → Ed → List Ed
 | [], e => [e]
 | a :: t, e => if ovV ms ts a e = true then ⟨a.f0 + e.f0, a.f1, a.f2, a.f3⟩ :: t else e :: a :: t
def nrmR (ms ts : Int) (out l : List Ed) : List Ed := (l.map lowV).foldl (push ms ts) out
def nrm (ms ts : Int) (l : List Ed) : List Ed := (nrmR ms ts [] l).reverse
def fin (out : List Ed) : List Ed × Int := if 20 < out.length then ([], 2) else (out.reverse, 0)
def nrmV (ms ts : Int) (l : List Ed) : List Ed × Int := if 1099511627776 < sumD l then ([], 2) else fin (nrmR ms ts [] l)
structure Wd (x : Ed) : Prop where
 d0 : 1 ≤ x.f0
 m0 : -1 ≤ x.f1
 m1 : x.f1 ≤ 1099511627776
 n0 : 0 ≤ x.f2
 n1 : x.f2 ≤ 1000
 e0 : 1 ≤ x.f3
 e1 : x.f3 ≤ 1000
theorem wd_low {x : Ed} (h : Vd x) : Wd (lowV x) := by
 have hq := qq_low h.n0 h.e0
 have h1 := h.n1
 have h2 := h.e1
 exact ⟨h.d0, h.m0, h.m1, hq.1, by unfold lowV; simp only; omega, hq.2.2.1, by unfold lowV; simp only; omega⟩
theorem low_f {x : Ed} (h : Vd x) : edit_lowest.f x.f0 x.f1 x.f2 x.f3 = some ((lowV x).f0, (lowV x).f1, (lowV x).f2, (lowV x).f3) := by
 unfold edit_lowest.f rateOk
 have h0 := h.n0
 have h1 := h.n1
 have h2 := h.e0
 have h3 := h.e1
 rw [decide_eq_true h0, decide_eq_true (show x.f2 ≤ 1000000 by omega), decide_eq_true h2, decide_eq_true (show x.f3 ≤ 1000000 by omega)]
 rfl
theorem over_f {ms ts : Int} {a b : Ed} (hc : Ck ms ts) (ha : Wd a) (hd : a.f0 ≤ 1099511627776) (hb : Wd b) : edit_clocks_over.f ms ts a.f0 a.f1 a.f2 a.f3 b.f0 b.f1 b.f2 b.f3 = some (ovV ms ts a b) := by
 unfold edit_clocks_over.f overOk in64
 have c0 := hc.m0
 have c1 := hc.m1
 have c2 := hc.t0
 have c3 := hc.t1
 have a0 := ha.d0
 have a1 := ha.m0
 have a2 := ha.m1
 have a3 := ha.n0
 have a4 := ha.n1
 have a5 := ha.e0
 have a6 := ha.e1
 have b1 := hb.m0
 have b2 := hb.m1
 rw [if_pos (by simp only [Bool.and_eq_true, decide_eq_true_eq]; omega)]
 rfl
theorem push_sum (ms ts : Int) (out : List Ed) (e : Ed) : sumD (push ms ts out e) = sumD out + e.f0 := by
 cases out with
 | nil => simp [push, sumD]
 | cons a t =>
  simp only [push]
  split
  ·simp only [sumD]; omega
  ·simp only [sumD]; omega
theorem push_wd {ms ts : Int} {out : List Ed} {e : Ed} (h : ∀ x ∈ out, Wd x) (he : Wd e) : ∀ x ∈ push ms ts out e, Wd x := by
 cases out with
 | nil => simpa [push] using he
 | cons a t =>
  have ha := h a (by simp)
  simp only [push]
  split
  ·intro x hx
   simp only [List.mem_cons] at hx
   rcases hx with rfl | hx
   ·have a0 := ha.d0
    have e0 := he.d0
    exact ⟨by simp only; omega, ha.m0, ha.m1, ha.n0, ha.n1, ha.e0, ha.e1⟩
   ·exact h x (by simp [hx])
  ·intro x hx
   simp only [List.mem_cons] at hx
   rcases hx with rfl | hx
   ·exact he
   ·exact h x (by simpa using hx)
theorem push_len (ms ts : Int) (out : List Ed) (e : Ed) : (push ms ts out e).length ≤ out.length + 1 := by
 cases out with
 | nil => simp [push]
 | cons a t =>
  simp only [push]
  split <;> simp
theorem wd_sum {l : List Ed} (h : ∀ x ∈ l, Wd x) : 0 ≤ sumD l := by
 induction l with
 | nil => simp [sumD]
 | cons x t ih =>
  have h1 := (h x (by simp)).d0
  have h2 := ih (fun y hy => h y (by simp [hy]))
  simp only [sumD]
  omega
theorem normal_l {ms ts : Int} (hc : Ck ms ts) (l : List Ed) (hV : ∀ x ∈ l, Vd x) (hl : l.length ≤ 1000000000) (rest : List Ed) :
  ∀ pre out, l = pre ++ rest → sumD out = sumD pre → sumD pre ≤ 1099511627776 → (∀ x ∈ out, Wd x) → out.length ≤ pre.length →
   Ev (fun k => edit_clocks_normal.l0 k out.reverse (sumD pre) l (l.length : Int) (pre.length : Int) ms ts) (if 1099511627776 < sumD l then ([], 2) else fin (nrmR ms ts out rest)) := by
 induction rest with
 | nil =>
  intro pre out he hs hp hw ho
  subst he
  rw [if_neg (by simp only [List.append_nil]; omega)]
  refine Ev.step (f := fun _ => some (fin (nrmR ms ts out []))) (fun k => ?_) (Ev.now _)
  simp only [edit_clocks_normal.l0, List.append_nil]
  rw [if_neg (by omega)]
  unfold fin nrmR
  simp only [List.map_nil, List.foldl_nil, List.length_reverse]
  by_cases h : 20 < out.length
  ·rw [if_pos h, if_pos (by omega)]
  ·rw [if_neg h, if_neg (by omega)]
 | cons x t ih =>
  intro pre out he hs hp hw ho
  have hlen : l.length = pre.length + (t.length + 1) := by rw [he]; simp
  have hx : rd_T77 l (pre.length : Int) = x := by rw [he]; exact rd_at pre x t
  have hvx : Vd x := hV x (by rw [he]; simp)
  have hst : 0 ≤ sumD t := sumD_nonneg (fun y hy => hV y (by rw [he]; simp [hy]))
  have hsl : sumD l = sumD pre + x.f0 + sumD t := by rw [he, sumD_app]; simp only [sumD]; omega
  have hs0 : 0 ≤ sumD pre := by rw [← hs]; exact wd_sum hw
  have hd0 := hvx.d0
  have hd1 := hvx.d1
  have hsp : sumD (pre ++ [x]) = sumD pre + x.f0 := by rw [sumD_app]; simp [sumD]
  by_cases hbig : sumD pre + x.f0 > 1099511627776
  ·rw [if_pos (by omega)]
   refine Ev.step (f := fun _ => some ([], 2)) (fun k => ?_) (Ev.now _)
   simp only [edit_clocks_normal.l0]
   rw [if_pos (by omega), if_pos (by omega), if_pos (by omega), hx, low_f hvx]
   simp only [Option.bind_some]
   rw [show (lowV x).f0 = x.f0 from rfl, w64 (by omega) (by omega), if_pos hbig]
  ·have hwl := wd_low hvx
   have hr := ih (pre ++ [x]) (push ms ts out (lowV x)) (by rw [he]; simp) (by rw [push_sum, hs, hsp]; rfl) (by omega) (push_wd hw hwl) (by have := push_len ms ts out (lowV x); simp only [List.length_append, List.length_cons, List.length_nil]; omega)
   have hn : nrmR ms ts out (x :: t) = nrmR ms ts (push ms ts out (lowV x)) t := rfl
   rw [hn]
   refine Ev.step (f := fun k => edit_clocks_normal.l1 k out.reverse (sumD (pre ++ [x])) (out.reverse.length : Int) l (l.length : Int) (pre.length : Int) ms ts (lowV x).f0 (lowV x).f1 (lowV x).f2 (lowV x).f3) (fun k => ?_) ?_
   ·simp only [edit_clocks_normal.l0]
    rw [if_pos (by omega), if_pos (by omega), if_pos (by omega), hx, low_f hvx]
    simp only [Option.bind_some]
    rw [show (lowV x).f0 = x.f0 from rfl, w64 (by omega) (by omega), if_neg hbig, hsp]
   ·refine Ev.step (f := fun k => edit_clocks_normal.l0 k (push ms ts out (lowV x)).reverse (sumD (pre ++ [x])) l (l.length : Int) ((pre ++ [x]).length : Int) ms ts) (fun k => ?_) hr
    simp only [edit_clocks_normal.l1]
    have hpl : wrap64 ((pre.length : Int) + 1) = ((pre ++ [x]).length : Int) := by rw [w64 (by omega) (by omega)]; simp
    rw [hpl]
    cases out with
    | nil =>
     rw [if_neg (show ¬ (([] : List Ed).reverse.length : Int) > 0 by simp), if_pos (show ([] : List Ed).reverse.length < 4398046511104 by simp)]
     rfl
    | cons a o =>
     have hla : (a :: o).reverse.length = o.length + 1 := by simp
     have hra : rd_T77 (a :: o).reverse (o.length : Int) = a := by
      rw [List.reverse_cons]
      have := rd_at o.reverse a []
      rw [List.length_reverse] at this
      exact this
     have hol : o.length + 1 ≤ pre.length := ho
     have hsa := wd_sum (l := o) (fun y hy => hw y (by simp [hy]))
     have hda : a.f0 ≤ 1099511627776 := by simp only [sumD] at hs; omega
     rw [hla, if_pos (by omega), w64 (by omega) (by omega), show ((o.length + 1 : Nat) : Int) - 1 = (o.length : Int) by omega, if_pos (by omega), if_pos (by omega), hra]
     have ha0 := (hw a (by simp)).d0
     have hov : edit_clocks_over.f ms ts a.f0 a.f1 a.f2 a.f3 (lowV x).f0 (lowV x).f1 (lowV x).f2 (lowV x).f3 = some (ovV ms ts a (lowV x)) := over_f hc (hw a (by simp)) hda hwl
     rw [hov]
     simp only [Option.bind_some, push]
     by_cases hb : ovV ms ts a (lowV x) = true
     ·rw [if_pos hb, if_pos hb]
      have hf : (lowV x).f0 = x.f0 := rfl
      simp only [sumD] at hs
      rw [w64 (by rw [hf]; omega) (by rw [hf]; omega)]
      congr 1
      rw [List.reverse_cons, List.reverse_cons, Int.toNat_natCast]
      have : o.length = o.reverse.length := by simp
      rw [this, List.set_append_right _ _ (Nat.le_refl _)]
      simp
     ·rw [if_neg hb, if_neg hb, if_pos (by omega)]
      congr 1
      simp
theorem normal_f {ms ts : Int} (hc : Ck ms ts) (l : List Ed) (hV : ∀ x ∈ l, Vd x) (hl : l.length ≤ 1000000000) : Ev (fun k => edit_clocks_normal.f k ms ts l) (nrmV ms ts l) :=
 normal_l hc l hV hl l [] [] rfl rfl (by simp [sumD]) (by simp) (by simp)
theorem nrmR_len (ms ts : Int) (l : List Ed) : ∀ out, (nrmR ms ts out l).length ≤ out.length + l.length := by
 induction l with
 | nil => intro out; simp [nrmR]
 | cons x t ih =>
  intro out
  have h := ih (push ms ts out (lowV x))
  have hn : nrmR ms ts out (x :: t) = nrmR ms ts (push ms ts out (lowV x)) t := rfl
  have h2 := push_len ms ts out (lowV x)
  rw [hn]
  simp only [List.length_cons]
  omega
def norV (ms ts : Int) (l : List Ed) : List Ed × Int := if chk l ms ts = 0 then (nrm ms ts l, 0) else ([], chk l ms ts)
theorem Normal_f (l : List Ed) (ms ts : Int) : Ev (fun k => edit_Normal.f k l ms ts) (norV ms ts l) := by
 unfold norV
 by_cases h0 : chk l ms ts = 0
 ·obtain ⟨hc, hl, hV, hs⟩ := chk_ok.1 h0
  rw [if_pos h0]
  have hr : nrmV ms ts l = (nrm ms ts l, 0) := by
   have := nrmR_len ms ts l []
   simp only [List.length_nil] at this
   unfold nrmV fin nrm
   rw [if_neg (by omega), if_neg (by omega)]
  have h1 := check_f l ms ts
  rw [h0] at h1
  refine Ev.congr (fun k => rfl) (Ev.bind h1 ?_)
  refine Ev.congr (fun k => if_pos rfl) (Ev.bind (normal_f hc l hV (by omega)) ?_)
  rw [hr]
  exact Ev.now _
 ·rw [if_neg h0]
  refine Ev.congr (fun k => rfl) (Ev.bind (check_f l ms ts) ?_)
  refine Ev.congr (fun k => if_neg h0) (Ev.now _)
end Go.Proofs.Ytpbhepdgamoiaaa.Pf
namespace Go.Proofs.Ytpbhepdgamoiaaa.Qr
open Go.RowKit Go Go.Proofs.YtpbhepdgamoiaaaW.PrintWords Go.Proofs.YtpbhepdgamoiaaaW.PrintLast Go.Proofs.YtpbhepdgamoiaaaW.PrintMore Go.Proofs.Ytpbhepdgamoiaaa.Ml Go.Proofs.Ytpbhepdgamoiaaa.Mn Go.Proofs.Ytpbhepdgamoiaaa.Nd Go.Proofs.Ytpbhepdgamoiaaa.Pa Go.Proofs.Ytpbhepdgamoiaaa.Pb Go.Proofs.Ytpbhepdgamoiaaa.Rf Go.Proofs.Ytpbhepdgamoiaaa.Er Go.Proofs.Ytpbhepdgamoiaaa.Ek Go.Proofs.Ytpbhepdgamoiaaa.E Go.Proofs.Ytpbhepdgamoiaaa.Pe Go.Proofs.Ytpbhepdgamoiaaa.Pf
set_option linter.unusedVariables false
set_option linter.unusedSimpArgs false
structure RV (b : Bool) (x y : List Int) (q : Rat) (n : Nat) : Prop where
 nx : Nn x
 ny : Nn y
 pos : 0 < dv 1000000000 y
 eq : q = qq (sg b (dv 1000000000 x)) (dv 1000000000 y)
 lx : x.length ≤ n
 ly : y.length ≤ n
theorem RV.mono {b : Bool} {x y : List Int} {q : Rat} {n m : Nat} (h : RV b x y q n) (hm : n ≤ m) : RV b x y q m := ⟨h.nx, h.ny, h.pos, h.eq, Nat.le_trans h.lx hm, Nat.le_trans h.ly hm⟩
theorem RV.x0 {b : Bool} {x y : List Int} {q : Rat} {n : Nat} (h : RV b x y q n) : 0 ≤ dv 1000000000 x := dv_nonneg (by decide) h.nx.dg
def RE (f : Nat → Option (Bool × List Int × List Int)) (q : Rat) (n : Nat) : Prop := ∃ b x y, Ev f (b, x, y) ∧ RV b x y q n
theorem qq_parts {a b : Int} (hb : 0 < b) : ∃ g : Int, 0 < g ∧ a = (qq a b).num * g ∧ b = ((qq a b).den : Int) * g := by
 obtain ⟨h1, h2⟩ := rat_low (a := a) (b := b) (by omega)
 refine ⟨(Int.gcd a b : Nat), ?_, ?_, ?_⟩
 ·have := Int.gcd_pos_of_ne_zero_right a (show b ≠ 0 by omega)
  omega
 ·rw [← h1]
  unfold Ra.ratN Ea.lowN
  rw [if_neg (by omega)]
  exact (Int.ediv_mul_cancel (Int.gcd_dvd_left a b)).symm
 ·rw [← h2]
  unfold Ra.ratD Ea.lowD
  rw [if_neg (by omega)]
  exact (Int.ediv_mul_cancel (Int.gcd_dvd_right a b)).symm
theorem qq_lt {a b c d : Int} (hb : 0 < b) (hd : 0 < d) : qq a b < qq c d ↔ a * d < c * b := by
 obtain ⟨g, hg, e1, e2⟩ := qq_parts (a := a) hb
 obtain ⟨h, hh, e3, e4⟩ := qq_parts (a := c) hd
 rw [Rat.lt_iff]
 generalize (qq a b).num = N1 at *
 generalize ((qq a b).den : Int) = D1 at *
 generalize (qq c d).num = N2 at *
 generalize ((qq c d).den : Int) = D2 at *
 subst e1 e2 e3 e4
 have k1 : N1 * g * (D2 * h) = N1 * D2 * (g * h) := by grind
 have k2 : N2 * h * (D1 * g) = N2 * D1 * (g * h) := by grind
 rw [k1, k2]
 exact (Int.mul_lt_mul_right (Int.mul_pos hg hh)).symm
theorem ratio_f (n d : Int) (hn : -9223372036854775807 ≤ n) (hn1 : n ≤ 9223372036854775807) (hd : 0 < d) (hd1 : d ≤ 9223372036854775807) : RE (fun k => dioramaref10_ratio.f k n d) (qq n d) 3 := by
 obtain ⟨y, ey, ny, vy, ly⟩ := of_f d (by omega) hd1
 by_cases h : n < 0
 ·obtain ⟨x, ex, nx, vx, lx⟩ := of_f (-n) (by omega) (by omega)
  refine ⟨true, x, y, ?_, ⟨nx, ny, by rw [vy]; exact hd, by rw [vx, vy]; simp [sg], lx, ly⟩⟩
  refine Ev.congr (fun k => if_pos h) ?_
  rw [w64 (by omega) (by omega)]
  exact Ev.bind ex (Ev.bind ey (Ev.now _))
 ·obtain ⟨x, ex, nx, vx, lx⟩ := of_f n (by omega) hn1
  refine ⟨false, x, y, ?_, ⟨nx, ny, by rw [vy]; exact hd, by rw [vx, vy]; simp [sg], lx, ly⟩⟩
  refine Ev.congr (fun k => if_neg h) ?_
  exact Ev.bind ex (Ev.bind ey (Ev.now _))
theorem sg_ne (a b : Bool) (x y : Int) : sg (a != b) (x * y) = sg a x * sg b y := by cases a <;> cases b <;> simp [sg, Int.neg_mul, Int.mul_neg]
theorem timesR_f {b1 b2 : Bool} {x1 y1 x2 y2 : List Int} {p q : Rat} {n m : Nat} (h1 : RV b1 x1 y1 p n) (h2 : RV b2 x2 y2 q m) (hl : n + m ≤ 1000000) : RE (fun k => dioramaref10_times.f k b1 x1 y1 b2 x2 y2) (p * q) (n + m) := by
 have l1 := h1.lx
 have l2 := h1.ly
 have l3 := h2.lx
 have l4 := h2.ly
 obtain ⟨x, ex, nx, vx, lx⟩ := times_f x1 x2 h1.nx h2.nx (by omega)
 obtain ⟨y, ey, ny, vy, ly⟩ := times_f y1 y2 h1.ny h2.ny (by omega)
 refine ⟨b1 != b2, x, y, Ev.congr (fun k => rfl) (Ev.bind ex (Ev.bind ey (Ev.now _))), ⟨nx, ny, by rw [vy]; exact Int.mul_pos h1.pos h2.pos, ?_, by omega, by omega⟩⟩
 rw [h1.eq, h2.eq, vx, vy, sg_ne]
 unfold qq
 rw [Rat.divInt_mul_divInt]
theorem sumR_f {b1 b2 : Bool} {x1 y1 x2 y2 : List Int} {p q : Rat} {n m : Nat} (h1 : RV b1 x1 y1 p n) (h2 : RV b2 x2 y2 q m) (hl : n + m + 2 ≤ 1000000) : RE (fun k => dioramaref02_Sum.f k b1 x1 y1 b2 x2 y2) (p + q) (n + m + 1) := by
 have l1 := h1.lx
 have l2 := h1.ly
 have l3 := h2.lx
 have l4 := h2.ly
 obtain ⟨u, eu, nu, vu, lu⟩ := times_f x1 y2 h1.nx h2.ny (by omega)
 obtain ⟨v, ev, nv, vv, lv⟩ := times_f x2 y1 h2.nx h1.ny (by omega)
 obtain ⟨y, ey, ny, vy, ly⟩ := times_f y1 y2 h1.ny h2.ny (by omega)
 have hpos : 0 < dv 1000000000 y := by rw [vy]; exact Int.mul_pos h1.pos h2.pos
 have heq : p + q = qq (sg b1 (dv 1000000000 u) + sg b2 (dv 1000000000 v)) (dv 1000000000 y) := by
  have e1 : sg b1 (dv 1000000000 u) = sg b1 (dv 1000000000 x1) * dv 1000000000 y2 := by rw [vu]; cases b1 <;> simp [sg, Int.neg_mul]
  have e2 : sg b2 (dv 1000000000 v) = sg b2 (dv 1000000000 x2) * dv 1000000000 y1 := by rw [vv]; cases b2 <;> simp [sg, Int.neg_mul]
  rw [h1.eq, h2.eq, vy, e1, e2]
  unfold qq
  rw [Rat.divInt_add_divInt _ _ (by have := h1.pos; omega) (by have := h2.pos; omega)]
 by_cases hb : b1 = b2
 ·subst hb
  obtain ⟨s, es, ns, vs, ls⟩ := plus_f u v nu nv (by omega) (by omega)
  refine ⟨b1, s, y, ?_, ⟨ns, ny, hpos, ?_, by omega, by omega⟩⟩
  ·refine Ev.congr (fun k => rfl) (Ev.bind eu (Ev.bind ev (Ev.bind ey ?_)))
   exact Ev.congr (fun k => if_pos (by simp)) (Ev.bind es (Ev.now _))
  ·rw [heq, vs]
   cases b1
   ·simp [sg]
   ·simp [sg, Int.neg_add]
 ·have hc := compare_f u v nu nv (by omega) (by omega)
  have hne : ¬ (b1 == b2) = true := by simpa using hb
  by_cases hle : dv 1000000000 v ≤ dv 1000000000 u
  ·obtain ⟨s, es, ns, vs, ls⟩ := minus_f u v nu nv (by omega) hle
   refine ⟨b1, s, y, ?_, ⟨ns, ny, hpos, ?_, by omega, by omega⟩⟩
   ·refine Ev.congr (fun k => rfl) (Ev.bind eu (Ev.bind ev (Ev.bind ey ?_)))
    refine Ev.congr (fun k => if_neg hne) (Ev.bind hc ?_)
    refine Ev.congr (fun k => if_pos ?_) (Ev.bind es (Ev.now _))
    unfold cmpI
    rw [if_neg (by omega)]
    split <;> decide
   ·rw [heq, vs]
    cases b1 <;> cases b2 <;> simp [sg] at hb ⊢ <;> congr 1 <;> omega
  ·obtain ⟨s, es, ns, vs, ls⟩ := minus_f v u nv nu (by omega) (by omega)
   refine ⟨b2, s, y, ?_, ⟨ns, ny, hpos, ?_, by omega, by omega⟩⟩
   ·refine Ev.congr (fun k => rfl) (Ev.bind eu (Ev.bind ev (Ev.bind ey ?_)))
    refine Ev.congr (fun k => if_neg hne) (Ev.bind hc ?_)
    refine Ev.congr (fun k => if_neg ?_) (Ev.bind es (Ev.now _))
    unfold cmpI
    rw [if_pos (by omega)]
    decide
   ·rw [heq, vs]
    cases b1 <;> cases b2 <;> simp [sg] at hb ⊢ <;> congr 1 <;> omega
theorem plusR_f {b1 b2 : Bool} {x1 y1 x2 y2 : List Int} {p q : Rat} {n m : Nat} (h1 : RV b1 x1 y1 p n) (h2 : RV b2 x2 y2 q m) (hl : n + m + 2 ≤ 1000000) : RE (fun k => dioramaref10_plus.f k b1 x1 y1 b2 x2 y2) (p + q) (n + m + 1) := by
 obtain ⟨b, x, y, he, hv⟩ := sumR_f h1 h2 hl
 exact ⟨b, x, y, Ev.congr (fun k => rfl) (Ev.bind he (Ev.now _)), hv⟩
theorem RV.neg {b : Bool} {x y : List Int} {q : Rat} {n : Nat} (h : RV b x y q n) : RV (!b) x y (-q) n := by
 refine ⟨h.nx, h.ny, h.pos, ?_, h.lx, h.ly⟩
 rw [h.eq]
 unfold qq
 rw [Rat.neg_divInt]
 congr 1
 cases b <;> simp [sg]
theorem RV.sign {b : Bool} {x y : List Int} {q : Rat} {n : Nat} (h : RV b x y q n) : (b && decide ((x.length : Int) > 0)) = decide (q < 0) := by
 have h0 := h.x0
 have hz := dv_eq_zero (by decide) h.nx
 have hq : q < 0 ↔ sg b (dv 1000000000 x) < 0 := by
  have e : (0 : Rat) = qq 0 1 := by unfold qq; simp
  rw [h.eq, e, qq_lt h.pos (by decide)]
  simp
 rw [Bool.eq_iff_iff]
 simp only [Bool.and_eq_true, decide_eq_true_eq, hq]
 have hl : (x.length : Int) > 0 ↔ dv 1000000000 x ≠ 0 := by
  rw [ne_eq, hz]
  cases x <;> simp
 rw [hl]
 cases b
 ·simp [sg]; omega
 ·simp [sg]; omega
theorem lessR_f {b1 b2 : Bool} {x1 y1 x2 y2 : List Int} {p q : Rat} {n m : Nat} (h1 : RV b1 x1 y1 p n) (h2 : RV b2 x2 y2 q m) (hl : n + m + 2 ≤ 1000000) : Ev (fun k => dioramaref02_Less.f k b1 x1 y1 b2 x2 y2) (decide (p < q)) := by
 obtain ⟨b, x, y, he, hv⟩ := sumR_f h1 h2.neg hl
 have hs := hv.sign
 have e : decide (p + -q < 0) = decide (p < q) := by
  congr 1
  apply propext
  constructor <;> intro h <;> grind
 rw [e] at hs
 refine Ev.congr (fun k => rfl) (Ev.bind he ?_)
 cases b with
 | true =>
  refine Ev.congr (fun k => if_pos rfl) ?_
  rw [← hs]
  exact Ev.now _
 | false =>
  refine Ev.congr (f := fun _ => some false) (fun k => if_neg (by simp)) ?_
  rw [← hs]
  exact Ev.now _
theorem equalR_f {b1 b2 : Bool} {x1 y1 x2 y2 : List Int} {p q : Rat} {n m : Nat} (h1 : RV b1 x1 y1 p n) (h2 : RV b2 x2 y2 q m) (hl : n + m + 2 ≤ 1000000) : Ev (fun k => dioramaref10_equal.f k b1 x1 y1 b2 x2 y2) (decide (p = q)) := by
 refine Ev.congr (fun k => rfl) (Ev.bind (lessR_f h1 h2 hl) ?_)
 by_cases h : p < q
 ·rw [decide_eq_true h, decide_eq_false (by intro e; subst e; exact Rat.lt_irrefl h)]
  exact Ev.congr (fun k => if_pos rfl) (Ev.now _)
 ·rw [decide_eq_false h]
  refine Ev.congr (fun k => if_neg (by decide)) (Ev.bind (lessR_f h2 h1 (by omega)) ?_)
  have e : (!decide (q < p)) = decide (p = q) := by
   rw [Bool.eq_iff_iff]
   simp only [Bool.not_eq_true', decide_eq_false_iff_not, decide_eq_true_eq]
   constructor
   ·intro h2; grind
   ·intro e; subst e; exact h
  rw [e]
  exact Ev.now _
theorem rate_f (d m n e : Int) (hn : 0 ≤ n) (hn1 : n ≤ 1000000) (he : 1 ≤ e) (he1 : e ≤ 1000000) : RE (fun k => dioramaref10_rate.f k d m n e) (qq n e) 3 := by
 obtain ⟨b, x, y, he, hv⟩ := ratio_f n e (by omega) (by omega) (by omega) (by omega)
 exact ⟨b, x, y, Ev.congr (fun k => rfl) (Ev.bind he (Ev.now _)), hv⟩
theorem media_f {b : Bool} {x y : List Int} {p : Rat} {N : Nat} (d m n e ts : Int) (hn : 0 ≤ n) (hn1 : n ≤ 1000000) (he : 1 ≤ e) (he1 : e ≤ 1000000) (hm : -9223372036854775807 ≤ m) (hm1 : m ≤ 9223372036854775807) (ht : 1 ≤ ts) (ht1 : ts ≤ 1000000) (h : RV b x y p N) (hl : N ≤ 1000) :
  RE (fun k => dioramaref10_media.f k d m n e ts b x y) (qq m ts + p * qq n e) (N + 7) := by
 obtain ⟨b1, x1, y1, e1, v1⟩ := ratio_f m ts hm hm1 (by omega) (by omega)
 obtain ⟨b2, x2, y2, e2, v2⟩ := rate_f d m n e hn hn1 he he1
 obtain ⟨b3, x3, y3, e3, v3⟩ := timesR_f h v2 (by omega)
 obtain ⟨b4, x4, y4, e4, v4⟩ := plusR_f v1 v3 (by omega)
 exact ⟨b4, x4, y4, Ev.congr (fun k => rfl) (Ev.bind e1 (Ev.bind e2 (Ev.bind e3 (Ev.bind e4 (Ev.now _))))), v4.mono (by omega)⟩
end Go.Proofs.Ytpbhepdgamoiaaa.Qr
namespace Go.Proofs.Ytpbhepdgamoiaaa.Pg
open Go.RowKit Go Go.Proofs.YtpbhepdgamoiaaaW.PrintWords Go.Proofs.YtpbhepdgamoiaaaW.PrintLast Go.Proofs.YtpbhepdgamoiaaaW.PrintMore Go.Proofs.Ytpbhepdgamoiaaa.Mn Go.Proofs.Ytpbhepdgamoiaaa.Rf Go.Proofs.Ytpbhepdgamoiaaa.Er Go.Proofs.Ytpbhepdgamoiaaa.Ek Go.Proofs.Ytpbhepdgamoiaaa.E Go.Proofs.Ytpbhepdgamoiaaa.Pe Go.Proofs.Ytpbhepdgamoiaaa.Pf
set_option linter.unusedVariables false
set_option linter.unusedSimpArgs false
instance : DecidableEq Ed := fun x y =>
 decidable_of_iff (x.f0 = y.f0 ∧ x.f1 = y.f1 ∧ x.f2 = y.f2 ∧ x.f3 = y.f3) ⟨fun h => by cases x; cases y; simp_all, fun h => by subst h; simp⟩
theorem ed_ne (x y : Ed) : (!x.f0 == y.f0 || (!x.f1 == y.f1 || (!x.f2 == y.f2 || !x.f3 == y.f3))) = !decide (x = y) := by
 cases x; cases y
 rw [Bool.eq_iff_iff]
 simp
def exL : List Ed := [⟨10, 0, 1, 1⟩, ⟨5, 10, 1, 1⟩]
theorem nrm_ex : nrm 10 10 exL = [⟨15, 0, 1, 1⟩] := by decide +kernel
theorem chk_ex : chk exL 10 10 = 0 := by decide +kernel
theorem awake_f : Ev (fun k => dioramalaw10_awake.f k) true := by
 have h := Normal_f exL 10 10
 unfold norV at h
 rw [if_pos chk_ex, nrm_ex] at h
 refine Ev.congr (fun k => rfl) (Ev.bind h ?_)
 refine Ev.congr (f := fun _ => some true) (fun k => ?_) (Ev.now _)
 rfl
theorem many_f (l : List Ed) : dioramalaw10_many.f l = some (decide (60 < l.length)) := by
 unfold dioramalaw10_many.f
 congr 1
 by_cases h : 60 < l.length
 ·rw [decide_eq_true h, decide_eq_true (by omega)]
 ·rw [decide_eq_false h, decide_eq_false (by omega)]
end Go.Proofs.Ytpbhepdgamoiaaa.Pg
namespace Go.Proofs.Ytpbhepdgamoiaaa.Qn
open Go.RowKit Go Go.Proofs.YtpbhepdgamoiaaaW.PrintWords Go.Proofs.YtpbhepdgamoiaaaW.PrintLast Go.Proofs.YtpbhepdgamoiaaaW.PrintMore Go.Proofs.Ytpbhepdgamoiaaa.Ml Go.Proofs.Ytpbhepdgamoiaaa.Mn Go.Proofs.Ytpbhepdgamoiaaa.Nd Go.Proofs.Ytpbhepdgamoiaaa.Pa Go.Proofs.Ytpbhepdgamoiaaa.Pb Go.Proofs.Ytpbhepdgamoiaaa.Rf Go.Proofs.Ytpbhepdgamoiaaa.Er Go.Proofs.Ytpbhepdgamoiaaa.Ek Go.Proofs.Ytpbhepdgamoiaaa.E Go.Proofs.Ytpbhepdgamoiaaa.Pe Go.Proofs.Ytpbhepdgamoiaaa.Pf Go.Proofs.Ytpbhepdgamoiaaa.Pg Go.Proofs.Ytpbhepdgamoiaaa.Qr
set_option linter.unusedVariables false
set_option linter.unusedSimpArgs false
def Lw (x : Ed) : Prop := (qq x.f2 x.f3).num = x.f2 ∧ ((qq x.f2 x.f3).den : Int) = x.f3
theorem qq_self (q : Rat) : qq q.num (q.den : Int) = q := by unfold qq; exact Rat.num_divInt_den q
theorem lw_low (x : Ed) : Lw (lowV x) := by
 unfold Lw lowV
 simp only [qq_self]
 exact ⟨trivial, trivial⟩
theorem qq_eq {a b c d : Int} (hb : b ≠ 0) (hd : d ≠ 0) : qq a b = qq c d ↔ a * d = c * b := by
 unfold qq
 exact Rat.divInt_eq_divInt_iff hb hd
def ovR (ms ts : Int) (a b : Ed) : Bool :=
 if a.f1 = -1 ∨ b.f1 = -1 then decide (a.f1 = -1 ∧ b.f1 = -1)
 else if a.f2 = 0 ∨ b.f2 = 0 then decide (a.f2 = 0 ∧ b.f2 = 0 ∧ a.f1 = b.f1)
 else decide (a.f2 * b.f3 = b.f2 * a.f3 ∧ qq a.f1 ts + qq a.f0 ms * qq a.f2 a.f3 = qq b.f1 ts)
theorem qq_div (a b : Int) : qq a b = (a : Rat) / (b : Rat) := by unfold qq; exact Rat.divInt_eq_div a b
theorem cast_ne {n : Int} (h : 1 ≤ n) : ((n : Int) : Rat) ≠ 0 := by
 intro e
 have : n = 0 := by exact_mod_cast e
 omega
theorem after_iff {ms ts a b d n e : Int} (hm : 1 ≤ ms) (ht : 1 ≤ ts) (he : 1 ≤ e) : (afterQ ms ts a n e d = qq b 1) ↔ (qq a ts + qq d ms * qq n e = qq b ts) := by
 unfold afterQ
 simp only [qq_div]
 have h1 := cast_ne hm
 have h2 := cast_ne ht
 have h3 := cast_ne he
 have h4 : ((1 : Int) : Rat) = 1 := rfl
 rw [h4]
 generalize (ms : Rat) = M at *
 generalize (ts : Rat) = T at *
 generalize (e : Rat) = E at *
 generalize (n : Rat) = N at *
 generalize (d : Rat) = D at *
 generalize (a : Rat) = A at *
 generalize (b : Rat) = B at *
 constructor
 ·intro h; grind
 ·intro h; grind
theorem cmpQ_zero (p q : Rat) : (cmpQ p q == 0) = decide (p = q) := by
 unfold cmpQ
 by_cases h : p < q
 ·rw [if_pos h, decide_eq_false (by intro e; subst e; exact Rat.lt_irrefl h)]; rfl
 ·rw [if_neg h]
  by_cases h2 : q < p
  ·rw [if_pos h2, decide_eq_false (by intro e; subst e; exact Rat.lt_irrefl h2)]; rfl
  ·rw [if_neg h2, decide_eq_true (by grind)]; rfl
theorem low_zero {n e : Int} (h0 : 0 ≤ n) (he : 1 ≤ e) : (qq n e).num = 0 ↔ n = 0 := by
 obtain ⟨g, hg, e1, e2⟩ := qq_parts (a := n) (b := e) (by omega)
 constructor
 ·intro h; rw [h] at e1; omega
 ·intro h
  rcases Int.mul_eq_zero.1 (e1.symm.trans h) with h2 | h2
  ·exact h2
  ·omega
theorem ovR1 {ms ts : Int} {a b : Ed} (h : a.f1 = -1 ∨ b.f1 = -1) : ovR ms ts a b = decide (a.f1 = -1 ∧ b.f1 = -1) := if_pos h
theorem ovR2 {ms ts : Int} {a b : Ed} (h : ¬ (a.f1 = -1 ∨ b.f1 = -1)) (h2 : a.f2 = 0 ∨ b.f2 = 0) : ovR ms ts a b = decide (a.f2 = 0 ∧ b.f2 = 0 ∧ a.f1 = b.f1) := (if_neg h).trans (if_pos h2)
theorem ovR3 {ms ts : Int} {a b : Ed} (h : ¬ (a.f1 = -1 ∨ b.f1 = -1)) (h2 : ¬ (a.f2 = 0 ∨ b.f2 = 0)) : ovR ms ts a b = decide (a.f2 * b.f3 = b.f2 * a.f3 ∧ qq a.f1 ts + qq a.f0 ms * qq a.f2 a.f3 = qq b.f1 ts) := (if_neg h).trans (if_neg h2)
theorem ov_eq {ms ts : Int} (hc : Ck ms ts) {a b : Ed} (ha : Wd a) (hl : Lw a) (hb : Vd b) : ovV ms ts a (lowV b) = ovR ms ts a b := by
 have c0 := hc.m0
 have c2 := hc.t0
 have a1 := ha.m0
 have a3 := ha.n0
 have a5 := ha.e0
 have b1 := hb.m0
 have b3 := hb.n0
 have b5 := hb.e0
 have hz := low_zero b3 b5
 have hlb : (lowV b).f1 = b.f1 := rfl
 have hlb2 : (lowV b).f2 = (qq b.f2 b.f3).num := rfl
 have hlb3 : (lowV b).f3 = ((qq b.f2 b.f3).den : Int) := rfl
 by_cases ea : a.f1 = -1
 ·rw [ovR1 (Or.inl ea)]
  unfold ovV overB kinB kB kS kN kE
  rw [hlb, hlb2, hlb3, cmpQ_zero, ea]
  by_cases eb : b.f1 = -1
  ·rw [eb]; simp
  ·have : ¬ b.f1 < 0 := by omega
   simp [this, eb]
 ·have na : ¬ a.f1 < 0 := by omega
  by_cases eb : b.f1 = -1
  ·rw [ovR1 (Or.inr eb)]
   unfold ovV overB kinB kB kS kN kE
   rw [hlb, hlb2, hlb3, cmpQ_zero, eb]
   simp [na, ea]
  ·have nb : ¬ b.f1 < 0 := by omega
   have hne : ¬ (a.f1 = -1 ∨ b.f1 = -1) := by omega
   by_cases za : a.f2 = 0
   ·rw [ovR2 hne (Or.inl za)]
    unfold ovV overB kinB kB kS kN kE
    rw [hlb, hlb2, hlb3, cmpQ_zero]
    simp only [if_neg na, if_neg nb, decide_eq_false na, decide_eq_false nb, if_pos za]
    by_cases zb : b.f2 = 0
    ·simp only [if_pos (hz.2 zb)]
     rw [Bool.eq_iff_iff]
     simp [za, zb]
    ·have zb' : ¬ (qq b.f2 b.f3).num = 0 := fun h => zb (hz.1 h)
     simp only [if_neg zb']
     have e1 : ((0 : Int) == (qq b.f2 b.f3).num) = false := by simpa using fun h => zb' h.symm
     rw [Bool.eq_iff_iff]
     simp [za, zb, e1]
   ·by_cases zb : b.f2 = 0
    ·rw [ovR2 hne (Or.inr zb)]
     unfold ovV overB kinB kB kS kN kE
     rw [hlb, hlb2, hlb3, cmpQ_zero]
     simp only [if_neg na, if_neg nb, decide_eq_false na, decide_eq_false nb, if_neg za, if_pos (hz.2 zb)]
     rw [Bool.eq_iff_iff]
     simp [za, zb]
    ·have zb' : ¬ (qq b.f2 b.f3).num = 0 := fun h => zb (hz.1 h)
     rw [ovR3 hne (by omega)]
     unfold ovV overB kinB kB kS kN kE
     rw [hlb, hlb2, hlb3, cmpQ_zero]
     simp only [if_neg na, if_neg nb, decide_eq_false na, decide_eq_false nb, if_neg za, if_neg zb']
     rw [Bool.eq_iff_iff]
     have hza : (a.f2 == 0) = false := by simpa using za
     simp only [Bool.and_eq_true, beq_iff_eq, decide_eq_true_eq, hza, Bool.false_or, true_and, and_true]
     rw [after_iff c0 c2 a5]
     have hk : (a.f2 = (qq b.f2 b.f3).num ∧ a.f3 = ((qq b.f2 b.f3).den : Int)) ↔ a.f2 * b.f3 = b.f2 * a.f3 := by
      rw [← qq_eq (by omega) (by omega)]
      constructor
      ·rintro ⟨h1, h2⟩
       rw [h1, h2, qq_self]
      ·intro h
       rw [← h]
       exact ⟨hl.1.symm, hl.2.symm⟩
     simp [hk]
theorem isEmpty_f (x : Ed) : dioramaref10_isEmpty.f x.f0 x.f1 x.f2 x.f3 = some (decide (x.f1 = -1)) := by
 unfold dioramaref10_isEmpty.f
 congr 1
theorem rover_f {ms ts : Int} (hc : Ck ms ts) {a b : Ed} (ha : Wd a) (hd : a.f0 ≤ 1099511627776) (hb : Vd b) : Ev (fun k => dioramaref10_over.f k a.f0 a.f1 a.f2 a.f3 b.f0 b.f1 b.f2 b.f3 ms ts) (ovR ms ts a b) := by
 have c0 := hc.m0
 have c1 := hc.m1
 have c2 := hc.t0
 have c3 := hc.t1
 have a0 := ha.d0
 have a1 := ha.m0
 have a2 := ha.m1
 have a3 := ha.n0
 have a4 := ha.n1
 have a5 := ha.e0
 have a6 := ha.e1
 have b1 := hb.m0
 have b2 := hb.m1
 have b3 := hb.n0
 have b4 := hb.n1
 have b5 := hb.e0
 have b6 := hb.e1
 have hj0 : ∀ z : Bool, z = decide (a.f1 = -1 ∨ b.f1 = -1) → Ev (fun k => dioramaref10_over.j0 k ms ts z a.f0 a.f1 a.f2 a.f3 b.f0 b.f1 b.f2 b.f3) (ovR ms ts a b) := by
  intro z hz
  refine Ev.step (fun k => by rw [dioramaref10_over.j0]) ?_
  unfold ovR
  by_cases h : a.f1 = -1 ∨ b.f1 = -1
  ·rw [hz, decide_eq_true h, if_pos h]
   refine Ev.congr (fun k => if_pos rfl) ?_
   rw [isEmpty_f, isEmpty_f]
   by_cases h1 : a.f1 = -1
   ·refine Ev.congr (f := fun _ => some (decide (a.f1 = -1 ∧ b.f1 = -1))) (fun k => ?_) (Ev.now _)
    simp [h1]
   ·refine Ev.congr (f := fun _ => some (decide (a.f1 = -1 ∧ b.f1 = -1))) (fun k => ?_) (Ev.now _)
    simp [h1]
  ·rw [hz, decide_eq_false h, if_neg h]
   refine Ev.congr (fun k => if_neg (by decide)) ?_
   have hj1 : ∀ y : Bool, y = decide (a.f2 = 0 ∨ b.f2 = 0) → Ev (fun k => dioramaref10_over.j1 k ms ts y a.f0 a.f1 a.f2 a.f3 b.f0 b.f1 b.f2 b.f3) (if a.f2 = 0 ∨ b.f2 = 0 then decide (a.f2 = 0 ∧ b.f2 = 0 ∧ a.f1 = b.f1) else decide (a.f2 * b.f3 = b.f2 * a.f3 ∧ qq a.f1 ts + qq a.f0 ms * qq a.f2 a.f3 = qq b.f1 ts)) := by
    intro y hy
    refine Ev.step (fun k => by rw [dioramaref10_over.j1]) ?_
    by_cases h2 : a.f2 = 0 ∨ b.f2 = 0
    ·rw [hy, decide_eq_true h2, if_pos h2]
     refine Ev.congr (f := fun _ => some (decide (a.f2 = 0 ∧ b.f2 = 0 ∧ a.f1 = b.f1))) (fun k => ?_) (Ev.now _)
     by_cases z1 : a.f2 = 0
     ·by_cases z2 : b.f2 = 0
      ·rw [if_pos rfl, if_pos z1, if_pos z2]; simp [z1, z2]; rfl
      ·rw [if_pos rfl, if_pos z1, if_neg z2]; simp [z2]
     ·rw [if_pos rfl, if_neg z1]; simp [z1]
    ·rw [hy, decide_eq_false h2, if_neg h2]
     refine Ev.congr (fun k => if_neg (by decide)) ?_
     have p1 : 0 ≤ a.f2 * b.f3 := Int.mul_nonneg a3 (by omega)
     have p2 : a.f2 * b.f3 ≤ 1000 * 1000 := Int.mul_le_mul a4 b6 (by omega) (by omega)
     have p3 : 0 ≤ b.f2 * a.f3 := Int.mul_nonneg b3 (by omega)
     have p4 : b.f2 * a.f3 ≤ 1000 * 1000 := Int.mul_le_mul b4 a6 (by omega) (by omega)
     rw [w64 (by omega) (by omega), w64 (by omega) (by omega)]
     by_cases h3 : a.f2 * b.f3 = b.f2 * a.f3
     ·refine Ev.congr (fun k => if_pos h3) ?_
      obtain ⟨e1, x1, y1, v1, r1⟩ := ratio_f a.f0 ms (by omega) (by omega) (by omega) (by omega)
      obtain ⟨e2, x2, y2, v2, r2⟩ := media_f a.f0 a.f1 a.f2 a.f3 ts a3 (by omega) a5 (by omega) (by omega) (by omega) c2 c3 r1 (by omega)
      obtain ⟨e3, x3, y3, v3, r3⟩ := ratio_f b.f1 ts (by omega) (by omega) (by omega) (by omega)
      have e : decide (a.f2 * b.f3 = b.f2 * a.f3 ∧ qq a.f1 ts + qq a.f0 ms * qq a.f2 a.f3 = qq b.f1 ts) = decide (qq a.f1 ts + qq a.f0 ms * qq a.f2 a.f3 = qq b.f1 ts) := by simp [h3]
      rw [e]
      exact Ev.bind v1 (Ev.bind v2 (Ev.bind v3 (Ev.bind (equalR_f r2 r3 (by omega)) (Ev.now _))))
     ·rw [decide_eq_false (fun h => h3 h.1)]
      exact Ev.congr (fun k => if_neg h3) (Ev.now _)
   by_cases h1 : a.f2 = 0
   ·exact Ev.congr (fun k => if_pos h1) (hj1 true (by simp [h1]))
   ·refine Ev.congr (fun k => if_neg h1) (hj1 _ ?_)
    simp [h1]; rfl
 unfold dioramaref10_over.f
 rw [isEmpty_f, isEmpty_f]
 by_cases h1 : a.f1 = -1
 ·refine Ev.congr (fun k => ?_) (hj0 true (by simp [h1]))
  simp [h1]
 ·refine Ev.congr (fun k => ?_) (hj0 (decide (b.f1 = -1)) (by simp [h1]))
  simp [h1]
end Go.Proofs.Ytpbhepdgamoiaaa.Qn
namespace Go.Proofs.Ytpbhepdgamoiaaa.Qo
open Go.RowKit Go Go.Proofs.YtpbhepdgamoiaaaW.PrintWords Go.Proofs.YtpbhepdgamoiaaaW.PrintLast Go.Proofs.YtpbhepdgamoiaaaW.PrintMore Go.Proofs.Ytpbhepdgamoiaaa.Ml Go.Proofs.Ytpbhepdgamoiaaa.Mn Go.Proofs.Ytpbhepdgamoiaaa.Nd Go.Proofs.Ytpbhepdgamoiaaa.Pa Go.Proofs.Ytpbhepdgamoiaaa.Pb Go.Proofs.Ytpbhepdgamoiaaa.Rf Go.Proofs.Ytpbhepdgamoiaaa.Er Go.Proofs.Ytpbhepdgamoiaaa.Ek Go.Proofs.Ytpbhepdgamoiaaa.E Go.Proofs.Ytpbhepdgamoiaaa.Pe Go.Proofs.Ytpbhepdgamoiaaa.Pf Go.Proofs.Ytpbhepdgamoiaaa.Pg Go.Proofs.Ytpbhepdgamoiaaa.Qr Go.Proofs.Ytpbhepdgamoiaaa.Qn
set_option linter.unusedVariables false
set_option linter.unusedSimpArgs false
theorem rlow_f {x : Ed} (h : Vd x) : dioramaref10_lowest.f x.f0 x.f1 x.f2 x.f3 = some ((lowV x).f0, (lowV x).f1, (lowV x).f2, (lowV x).f3) := low_f h
theorem push_lw {ms ts : Int} {out : List Ed} {e : Ed} (h : ∀ x ∈ out, Lw x) (he : Lw e) : ∀ x ∈ push ms ts out e, Lw x := by
 cases out with
 | nil => simpa [push] using he
 | cons a t =>
  simp only [push]
  split
  ·intro x hx
   simp only [List.mem_cons] at hx
   rcases hx with rfl | hx
   ·exact h a (by simp)
   ·exact h x (by simp [hx])
  ·intro x hx
   simp only [List.mem_cons] at hx
   rcases hx with rfl | hx
   ·exact he
   ·exact h x (by simpa using hx)
theorem rnormal_l {ms ts : Int} (hc : Ck ms ts) (l : List Ed) (hV : ∀ x ∈ l, Vd x) (hl : l.length ≤ 1000000000) (hsum : sumD l ≤ 1099511627776) (rest : List Ed) :
  ∀ pre out, l = pre ++ rest → sumD out = sumD pre → (∀ x ∈ out, Wd x) → (∀ x ∈ out, Lw x) → out.length ≤ pre.length →
   Ev (fun k => dioramaref10_normal.l0 k l ms ts out.reverse (pre.length : Int)) (nrmR ms ts out rest).reverse := by
 induction rest with
 | nil =>
  intro pre out he hs hw hlw ho
  subst he
  refine Ev.step (f := fun _ => some out.reverse) (fun k => ?_) (Ev.now _)
  simp only [dioramaref10_normal.l0, List.append_nil]
  rw [if_neg (by omega)]
 | cons x t ih =>
  intro pre out he hs hw hlw ho
  have hlen : l.length = pre.length + (t.length + 1) := by rw [he]; simp
  have hx : rd_T77 l (pre.length : Int) = x := by rw [he]; exact rd_at pre x t
  have hvx : Vd x := hV x (by rw [he]; simp)
  have hst : 0 ≤ sumD t := sumD_nonneg (fun y hy => hV y (by rw [he]; simp [hy]))
  have hsl : sumD l = sumD pre + x.f0 + sumD t := by rw [he, sumD_app]; simp only [sumD]; omega
  have hs0 : 0 ≤ sumD pre := by rw [← hs]; exact wd_sum hw
  have hd0 := hvx.d0
  have hsp : sumD (pre ++ [x]) = sumD pre + x.f0 := by rw [sumD_app]; simp [sumD]
  have hwl := wd_low hvx
  have hr := ih (pre ++ [x]) (push ms ts out (lowV x)) (by rw [he]; simp) (by rw [push_sum, hs, hsp]; rfl) (push_wd hw hwl) (push_lw hlw (lw_low x)) (by have := push_len ms ts out (lowV x); simp only [List.length_append, List.length_cons, List.length_nil]; omega)
  have hn : nrmR ms ts out (x :: t) = nrmR ms ts (push ms ts out (lowV x)) t := rfl
  have hpl : wrap64 ((pre.length : Int) + 1) = ((pre ++ [x]).length : Int) := by rw [w64 (by omega) (by omega)]; simp
  rw [hn]
  have hstep : ∀ k, dioramaref10_normal.l0 (k + 1) l ms ts out.reverse (pre.length : Int) = (if (out.reverse.length : Int) > 0 then (if 0 ≤ (wrap64 ((out.reverse.length : Int) - 1)) then (if (wrap64 ((out.reverse.length : Int) - 1)) < (out.reverse.length : Int) then ((dioramaref10_over.f k ((rd_T77 out.reverse (wrap64 ((out.reverse.length : Int) - 1))).f0) ((rd_T77 out.reverse (wrap64 ((out.reverse.length : Int) - 1))).f1) ((rd_T77 out.reverse (wrap64 ((out.reverse.length : Int) - 1))).f2) ((rd_T77 out.reverse (wrap64 ((out.reverse.length : Int) - 1))).f3) x.f0 x.f1 x.f2 x.f3 ms ts).bind fun t => (if t = true then (dioramaref10_normal.l0 k l ms ts (out.reverse.set ((wrap64 ((out.reverse.length : Int) - 1)) : Int).toNat (⟨wrap64 (((rd_T77 out.reverse (wrap64 ((out.reverse.length : Int) - 1))).f0) + x.f0), (rd_T77 out.reverse (wrap64 ((out.reverse.length : Int) - 1))).f1, (rd_T77 out.reverse (wrap64 ((out.reverse.length : Int) - 1))).f2, (rd_T77 out.reverse (wrap64 ((out.reverse.length : Int) - 1))).f3⟩ : Ed)) ((pre ++ [x]).length : Int)) else (if out.reverse.length < 4398046511104 then (dioramaref10_normal.l0 k l ms ts (out.reverse ++ [lowV x]) ((pre ++ [x]).length : Int)) else (none)))) else (none)) else (none)) else (if out.reverse.length < 4398046511104 then (dioramaref10_normal.l0 k l ms ts (out.reverse ++ [lowV x]) ((pre ++ [x]).length : Int)) else (none))) := by
   intro k
   simp only [dioramaref10_normal.l0]
   rw [if_pos (by omega), hx, rlow_f hvx, hpl]
   simp only [Option.bind_some, show 0 ≤ (pre.length : Int) by omega, if_true]
  cases out with
  | nil =>
   refine Ev.step (f := fun k => dioramaref10_normal.l0 k l ms ts (push ms ts [] (lowV x)).reverse ((pre ++ [x]).length : Int)) (fun k => ?_) hr
   rw [hstep, if_neg (show ¬ (([] : List Ed).reverse.length : Int) > 0 by simp), if_pos (show ([] : List Ed).reverse.length < 4398046511104 by simp)]
   rfl
  | cons a o =>
   have hla : (a :: o).reverse.length = o.length + 1 := by simp
   have hra : rd_T77 (a :: o).reverse (o.length : Int) = a := by
    rw [List.reverse_cons]
    have := rd_at o.reverse a []
    rw [List.length_reverse] at this
    exact this
   have hol : o.length + 1 ≤ pre.length := ho
   have hsa := wd_sum (l := o) (fun y hy => hw y (by simp [hy]))
   have hda : a.f0 + x.f0 ≤ 1099511627776 := by simp only [sumD] at hs; omega
   have ha0 := (hw a (by simp)).d0
   have hov := rover_f hc (hw a (by simp)) (by omega) hvx
   rw [← ov_eq hc (hw a (by simp)) (hlw a (by simp)) hvx] at hov
   refine Ev.step (f := fun k => (dioramaref10_over.f k a.f0 a.f1 a.f2 a.f3 x.f0 x.f1 x.f2 x.f3 ms ts).bind fun t => (if t = true then (dioramaref10_normal.l0 k l ms ts ((⟨a.f0 + x.f0, a.f1, a.f2, a.f3⟩ : Ed) :: o).reverse ((pre ++ [x]).length : Int)) else (dioramaref10_normal.l0 k l ms ts (lowV x :: a :: o).reverse ((pre ++ [x]).length : Int)))) (fun k => ?_) (Ev.bind hov ?_)
   ·rw [hstep, hla, if_pos (by omega), w64 (by omega) (by omega), show ((o.length + 1 : Nat) : Int) - 1 = (o.length : Int) by omega, if_pos (by omega), if_pos (by omega), hra, w64 (by omega) (by omega), if_pos (show o.length + 1 < 4398046511104 by omega)]
    have e1 : (a :: o).reverse.set (o.length : Int).toNat (⟨a.f0 + x.f0, a.f1, a.f2, a.f3⟩ : Ed) = ((⟨a.f0 + x.f0, a.f1, a.f2, a.f3⟩ : Ed) :: o).reverse := by
     rw [List.reverse_cons, List.reverse_cons, Int.toNat_natCast]
     have : o.length = o.reverse.length := by simp
     rw [this, List.set_append_right _ _ (Nat.le_refl _)]
     simp
    rw [e1, List.reverse_cons (a := lowV x)]
   ·have hp : push ms ts (a :: o) (lowV x) = if ovV ms ts a (lowV x) = true then (⟨a.f0 + (lowV x).f0, a.f1, a.f2, a.f3⟩ : Ed) :: o else lowV x :: a :: o := rfl
    rw [hp] at hr
    rw [hp]
    by_cases hb : ovV ms ts a (lowV x) = true
    ·rw [if_pos hb] at hr ⊢
     exact Ev.congr (fun k => if_pos hb) hr
    ·rw [if_neg hb] at hr ⊢
     exact Ev.congr (fun k => if_neg hb) hr
theorem rnormal_f {ms ts : Int} (hc : Ck ms ts) (l : List Ed) (hV : ∀ x ∈ l, Vd x) (hl : l.length ≤ 1000000000) (hsum : sumD l ≤ 1099511627776) : Ev (fun k => dioramaref10_normal.f k l ms ts) (nrm ms ts l) :=
 rnormal_l hc l hV hl hsum l [] [] rfl rfl (by simp) (by simp) (by simp)
theorem RV.int {b : Bool} {x y : List Int} {z : Int} {n : Nat} (h : RV b x y (qq z 1) n) (hy : dv 1000000000 y = 1) : sg b (dv 1000000000 x) = z := by
 have e := h.eq
 rw [hy, qq_eq (by decide) (by decide)] at e
 omega
structure RZ (b : Bool) (x y : List Int) (z : Int) (n : Nat) : Prop where
 nx : Nn x
 ny : Nn y
 y1 : dv 1000000000 y = 1
 eq : sg b (dv 1000000000 x) = z
 lx : x.length ≤ n
 ly : y.length ≤ n
def ZE (f : Nat → Option (Bool × List Int × List Int)) (z : Int) (n : Nat) : Prop := ∃ b x y, Ev f (b, x, y) ∧ RZ b x y z n
theorem ratioZ_f (n : Int) (hn : -9223372036854775807 ≤ n) (hn1 : n ≤ 9223372036854775807) : ZE (fun k => dioramaref10_ratio.f k n 1) n 3 := by
 obtain ⟨y, ey, ny, vy, ly⟩ := of_f 1 (by omega) (by omega)
 by_cases h : n < 0
 ·obtain ⟨x, ex, nx, vx, lx⟩ := of_f (-n) (by omega) (by omega)
  refine ⟨true, x, y, ?_, ⟨nx, ny, vy, by rw [vx]; simp [sg], lx, ly⟩⟩
  refine Ev.congr (fun k => if_pos h) ?_
  rw [w64 (by omega) (by omega)]
  exact Ev.bind ex (Ev.bind ey (Ev.now _))
 ·obtain ⟨x, ex, nx, vx, lx⟩ := of_f n (by omega) hn1
  refine ⟨false, x, y, ?_, ⟨nx, ny, vy, by rw [vx]; simp [sg], lx, ly⟩⟩
  refine Ev.congr (fun k => if_neg h) ?_
  exact Ev.bind ex (Ev.bind ey (Ev.now _))
theorem plusZ_f {b1 b2 : Bool} {x1 y1 x2 y2 : List Int} {p q : Int} {n m : Nat} (h1 : RZ b1 x1 y1 p n) (h2 : RZ b2 x2 y2 q m) (hl : n + m + 2 ≤ 1000000) : ZE (fun k => dioramaref10_plus.f k b1 x1 y1 b2 x2 y2) (p + q) (n + m + 1) := by
 have l1 := h1.lx
 have l2 := h1.ly
 have l3 := h2.lx
 have l4 := h2.ly
 obtain ⟨u, eu, nu, vu, lu⟩ := times_f x1 y2 h1.nx h2.ny (by omega)
 obtain ⟨v, ev, nv, vv, lv⟩ := times_f x2 y1 h2.nx h1.ny (by omega)
 obtain ⟨y, ey, ny, vy, ly⟩ := times_f y1 y2 h1.ny h2.ny (by omega)
 rw [h2.y1, Int.mul_one] at vu
 rw [h1.y1, Int.mul_one] at vv
 rw [h1.y1, h2.y1] at vy
 have e1 := h1.eq
 have e2 := h2.eq
 rw [← vu] at e1
 rw [← vv] at e2
 by_cases hb : b1 = b2
 ·subst hb
  obtain ⟨s, es, ns, vs, ls⟩ := plus_f u v nu nv (by omega) (by omega)
  refine ⟨b1, s, y, ?_, ⟨ns, ny, vy, ?_, by omega, by omega⟩⟩
  ·refine Ev.congr (fun k => rfl) (Ev.bind (a := (b1, s, y)) (Ev.congr (fun k => rfl) (Ev.bind eu (Ev.bind ev (Ev.bind ey ?_)))) (Ev.now _))
   exact Ev.congr (fun k => if_pos (by simp)) (Ev.bind es (Ev.now _))
  ·rw [vs]
   cases b1 <;> simp [sg] at e1 e2 ⊢ <;> omega
 ·have hcp := compare_f u v nu nv (by omega) (by omega)
  have hne : ¬ (b1 == b2) = true := by simpa using hb
  by_cases hle : dv 1000000000 v ≤ dv 1000000000 u
  ·obtain ⟨s, es, ns, vs, ls⟩ := minus_f u v nu nv (by omega) hle
   refine ⟨b1, s, y, ?_, ⟨ns, ny, vy, ?_, by omega, by omega⟩⟩
   ·refine Ev.congr (fun k => rfl) (Ev.bind (a := (b1, s, y)) (Ev.congr (fun k => rfl) (Ev.bind eu (Ev.bind ev (Ev.bind ey ?_)))) (Ev.now _))
    refine Ev.congr (fun k => if_neg hne) (Ev.bind hcp ?_)
    refine Ev.congr (fun k => if_pos ?_) (Ev.bind es (Ev.now _))
    unfold cmpI
    rw [if_neg (by omega)]
    split <;> decide
   ·rw [vs]
    cases b1 <;> cases b2 <;> simp [sg] at hb e1 e2 ⊢ <;> omega
  ·obtain ⟨s, es, ns, vs, ls⟩ := minus_f v u nv nu (by omega) (by omega)
   refine ⟨b2, s, y, ?_, ⟨ns, ny, vy, ?_, by omega, by omega⟩⟩
   ·refine Ev.congr (fun k => rfl) (Ev.bind (a := (b2, s, y)) (Ev.congr (fun k => rfl) (Ev.bind eu (Ev.bind ev (Ev.bind ey ?_)))) (Ev.now _))
    refine Ev.congr (fun k => if_neg hne) (Ev.bind hcp ?_)
    refine Ev.congr (fun k => if_neg ?_) (Ev.bind es (Ev.now _))
    unfold cmpI
    rw [if_pos (by omega)]
    decide
   ·rw [vs]
    cases b1 <;> cases b2 <;> simp [sg] at hb e1 e2 ⊢ <;> omega
theorem told_l {ms ts : Int} (hc : Ck ms ts) (l : List Ed) (hV : ∀ x ∈ l, Vd x) (hl : l.length ≤ 10000) (rest : List Ed) :
  ∀ pre b x y, l = pre ++ rest → RZ b x y (sumD pre) (3 + 4 * pre.length) → Ev (fun k => dioramaref10_told.l0 k l ms ts (pre.length : Int) b x y) (nrmV ms ts l) := by
 induction rest with
 | nil =>
  intro pre b x y he hz
  simp only [List.append_nil] at he
  subst he
  have h0 : 0 ≤ sumD l := sumD_nonneg hV
  have hx0 : 0 ≤ dv 1000000000 x := dv_nonneg (by decide) hz.nx.dg
  have hxe : dv 1000000000 x = sumD l := by
   have := hz.eq
   cases b <;> simp [sg] at this <;> omega
  have hsm := small_f x 1099511627776 hz.nx (by have := hz.lx; omega) (by decide) (by decide)
  rw [hxe] at hsm
  refine Ev.step (fun k => by rw [dioramaref10_told.l0]) ?_
  refine Ev.congr (fun k => if_neg (by omega)) (Ev.bind hsm ?_)
  unfold nrmV
  by_cases hb : 1099511627776 < sumD l
  ·rw [if_pos hb, if_pos hb]
   exact Ev.congr (fun k => if_neg (by simp)) (Ev.now _)
  ·rw [if_neg hb, if_neg hb]
   refine Ev.congr (fun k => if_pos rfl) (Ev.bind (rnormal_f hc l hV (by omega) (by omega)) ?_)
   unfold fin nrm
   by_cases h20 : 20 < (nrmR ms ts [] l).length
   ·rw [if_pos h20]
    exact Ev.congr (fun k => if_pos (by rw [List.length_reverse]; omega)) (Ev.now _)
   ·rw [if_neg h20]
    exact Ev.congr (fun k => if_neg (by rw [List.length_reverse]; omega)) (Ev.now _)
 | cons e t ih =>
  intro pre b x y he hz
  have hlen : l.length = pre.length + (t.length + 1) := by rw [he]; simp
  have hx : rd_T77 l (pre.length : Int) = e := by rw [he]; exact rd_at pre e t
  have hv : Vd e := hV e (by rw [he]; simp)
  have hd0 := hv.d0
  have hd1 := hv.d1
  obtain ⟨b2, x2, y2, e2, z2⟩ := ratioZ_f e.f0 (by omega) (by omega)
  obtain ⟨b3, x3, y3, e3, z3⟩ := plusZ_f hz z2 (by omega)
  have hsp : sumD (pre ++ [e]) = sumD pre + e.f0 := by rw [sumD_app]; simp [sumD]
  have hr := ih (pre ++ [e]) b3 x3 y3 (by rw [he]; simp) (by
   rw [hsp]
   refine ⟨z3.nx, z3.ny, z3.y1, z3.eq, ?_, ?_⟩
   ·have := z3.lx; simp only [List.length_append, List.length_cons, List.length_nil]; omega
   ·have := z3.ly; simp only [List.length_append, List.length_cons, List.length_nil]; omega)
  refine Ev.step (fun k => by rw [dioramaref10_told.l0]) ?_
  refine Ev.congr (fun k => if_pos (by omega)) (Ev.congr (fun k => if_pos (by omega)) ?_)
  rw [hx]
  refine Ev.bind e2 (Ev.bind e3 ?_)
  have hpl : wrap64 ((pre.length : Int) + 1) = ((pre ++ [e]).length : Int) := by rw [w64 (by omega) (by omega)]; simp
  rw [hpl]
  exact hr
theorem told_f {ms ts : Int} (hc : Ck ms ts) (l : List Ed) (hV : ∀ x ∈ l, Vd x) (hl : l.length ≤ 10000) : Ev (fun k => dioramaref10_told.f k l ms ts) (nrmV ms ts l) := by
 obtain ⟨b, x, y, e, z⟩ := ratioZ_f 0 (by decide) (by decide)
 exact Ev.congr (fun k => rfl) (Ev.bind e (told_l hc l hV hl l [] b x y rfl z))
end Go.Proofs.Ytpbhepdgamoiaaa.Qo
namespace Go.Proofs.Ytpbhepdgamoiaaa.Qw
open Go.RowKit Go Go.Proofs.YtpbhepdgamoiaaaW.PrintWords Go.Proofs.YtpbhepdgamoiaaaW.PrintLast Go.Proofs.YtpbhepdgamoiaaaW.PrintMore Go.Proofs.Ytpbhepdgamoiaaa.Ml Go.Proofs.Ytpbhepdgamoiaaa.Mn Go.Proofs.Ytpbhepdgamoiaaa.Nd Go.Proofs.Ytpbhepdgamoiaaa.Pa Go.Proofs.Ytpbhepdgamoiaaa.Pb Go.Proofs.Ytpbhepdgamoiaaa.Pc Go.Proofs.Ytpbhepdgamoiaaa.Rf Go.Proofs.Ytpbhepdgamoiaaa.Er Go.Proofs.Ytpbhepdgamoiaaa.Ek Go.Proofs.Ytpbhepdgamoiaaa.E Go.Proofs.Ytpbhepdgamoiaaa.Pe Go.Proofs.Ytpbhepdgamoiaaa.Pf Go.Proofs.Ytpbhepdgamoiaaa.Qr Go.Proofs.Ytpbhepdgamoiaaa.Qn
set_option linter.unusedVariables false
set_option linter.unusedSimpArgs false
def whV (q : Rat) : Int × Int := if q.den = 1 then (if 1099511627776 < q.num then (0, 2) else (q.num, 0)) else (0, 20)
theorem qq_one (z : Int) : qq z 1 = (z : Rat) := by
 rw [qq_div, show ((1 : Int) : Rat) = 1 from rfl]
 grind
theorem whV_qq {a b : Int} (hb : 0 < b) : whV (qq a b) = if a % b = 0 then (if 1099511627776 < a / b then (0, 2) else (a / b, 0)) else (0, 20) := by
 by_cases h : a % b = 0
 ·have e : qq a b = ((a / b : Int) : Rat) := by
   rw [← qq_one, qq_eq (by omega) (by decide)]
   have := Int.mul_ediv_add_emod a b
   rw [h, Int.add_zero] at this
   rw [Int.mul_one, Int.mul_comm]
   exact this.symm
  rw [if_pos h, e]
  unfold whV
  rw [if_pos (Rat.den_intCast _), Rat.num_intCast]
 ·rw [if_neg h]
  unfold whV
  refine if_neg fun hd => h ?_
  obtain ⟨g, hg, e1, e2⟩ := qq_parts (a := a) hb
  rw [hd] at e2
  have : b = g := by rw [e2]; simp
  rw [e1, this]
  exact Int.mul_emod_left _ _
theorem whole_f {b : Bool} {x y : List Int} {q : Rat} {n : Nat} (h : RV b x y q n) (hn : n ≤ 1000) (hq : ¬ q < 0) : Ev (fun k => dioramaref10_whole.f k b x y) (whV q) := by
 have lx := h.lx
 have ly := h.ly
 have hz : q = qq (dv 1000000000 x) (dv 1000000000 y) := by
  have hs := h.sign
  have he := h.eq
  rw [decide_eq_false hq] at hs
  cases b with
  | false => exact he
  | true =>
   have h0 : x.length = 0 := by
    rw [Bool.true_and, decide_eq_false_iff_not] at hs
    omega
   have h1 : x = [] := by cases x with | nil => rfl | cons a t => simp at h0
   rw [he, h1]
   simp [sg, dv]
 obtain ⟨r1, r2, he, n1, n2, e1, e2, l1, l2⟩ := over_f x y h.nx h.ny (by omega) (by omega) h.pos
 have h2 : 0 ≤ dv 1000000000 r2 := dv_nonneg (by decide) n2.dg
 have hu := (Int.ediv_emod_unique (a := dv 1000000000 x) (b := dv 1000000000 y) (q := dv 1000000000 r1) (r := dv 1000000000 r2) h.pos).2 ⟨by rw [e1, Int.add_comm, Int.mul_comm], h2, e2⟩
 rw [hz, whV_qq h.pos, hu.1, hu.2]
 have hr : dv 1000000000 r2 = 0 ↔ r2 = [] := dv_eq_zero (by decide) n2
 refine Ev.congr (fun k => rfl) (Ev.bind he ?_)
 by_cases h0 : dv 1000000000 r2 = 0
 ·rw [if_pos h0]
  have hl : ¬ ((r2.length : Int) > 0) := by rw [hr.1 h0]; simp
  have hs := small_f r1 1099511627776 n1 (by omega) (by decide) (by decide)
  refine Ev.congr (fun k => if_neg hl) (Ev.bind hs ?_)
  by_cases hb : 1099511627776 < dv 1000000000 r1
  ·rw [if_pos hb, if_pos hb]
   exact Ev.congr (fun k => if_neg (by simp)) (Ev.now _)
  ·rw [if_neg hb, if_neg hb]
   exact Ev.congr (fun k => if_pos rfl) (Ev.now _)
 ·rw [if_neg h0]
  have hl : (r2.length : Int) > 0 := by
   cases r2 with
   | nil => exact absurd (hr.2 rfl) h0
   | cons a t => simp
  exact Ev.congr (fun k => if_pos hl) (Ev.now _)
theorem qq_nonneg {a b : Int} (ha : 0 ≤ a) (hb : 0 < b) : ¬ qq a b < 0 := by
 have e : (0 : Rat) = qq 0 1 := by unfold qq; simp
 rw [e, qq_lt hb (by decide)]
 omega
end Go.Proofs.Ytpbhepdgamoiaaa.Qw

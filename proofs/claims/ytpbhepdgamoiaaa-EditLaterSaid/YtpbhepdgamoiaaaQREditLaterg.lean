/-
  The reference's natural numbers, in digits of nine decimal places: what its printed functions compute. The reference's natural numbers: sums, differences, products, quotients, small ones.
-/
import Derived.Test.YtpbhepdgamoiaaaQREditLatera
import Derived.Test.YtpbhepdgamoiaaaQREditLaterd
import Derived.Test.YtpbhepdgamoiaaaQREditLatere
import Derived.Test.YtpbhepdgamoiaaaQREditLaterf
import Derived.Test.YtpbhepdgamoiaaaQREditLaterc
namespace Go.Proofs.Ytpbhepdgamoiaaa.E
open Go.Proofs.Ytpbhepdgamoiaaa.Z Go.RowKit Go.Proofs.YtpbhepdgamoiaaaW.PrintWords Go.Proofs.YtpbhepdgamoiaaaW.PrintLast Go.Proofs.YtpbhepdgamoiaaaW.PrintMore
attribute [local go_sem] max2_int min2_int max_two min_two max_three min_three max_four min_four
set_option linter.unusedVariables false
set_option linter.unusedSimpArgs false
def edit_clocks_cut.l0 : Nat → Int → Int → List (S77) → Int → List (S77) → Int → Int → Int → Int → Option ((List (S77)) × Int)
  | 0, _, _, _, _, _, _, _, _, _ => none
  | k + 1, x2, x3, x10, x11, x19, x20, x21, x866000, x866001 => if x21 < x20 then (if 0 ≤ x21 then (if x21 < (x19.length : Int) then (if (mx x11 x2) ≥ (mn (wrap64 (x11 + ((rd_T77 x19 x21).f0))) x3) then (edit_clocks_cut.l0 k x2 x3 x10 (wrap64 (x11 + ((rd_T77 x19 x21).f0))) x19 x20 (wrap64 (x21 + 1)) x866000 x866001) else (if ((rd_T77 x19 x21).f1) ≥ 0 then ((edit_clocks_after.f x866000 x866001 (wrap64 ((mn (wrap64 (x11 + ((rd_T77 x19 x21).f0))) x3) - (mx x11 x2))) ((rd_T77 x19 x21).f1) ((rd_T77 x19 x21).f2) ((rd_T77 x19 x21).f3) (wrap64 ((mx x11 x2) - x11))).bind fun bt872 => (if bt872.2 = 0 then (if x10.length < 4398046511104 then (edit_clocks_cut.l0 k x2 x3 (x10 ++ [(⟨wrap64 ((mn (wrap64 (x11 + ((rd_T77 x19 x21).f0))) x3) - (mx x11 x2)), bt872.1, (rd_T77 x19 x21).f2, (rd_T77 x19 x21).f3⟩ : S77)]) (wrap64 (x11 + ((rd_T77 x19 x21).f0))) x19 x20 (wrap64 (x21 + 1)) x866000 x866001) else (none)) else (some (([] : List (S77)), bt872.2)))) else (if x10.length < 4398046511104 then (edit_clocks_cut.l0 k x2 x3 (x10 ++ [(⟨wrap64 ((mn (wrap64 (x11 + ((rd_T77 x19 x21).f0))) x3) - (mx x11 x2)), (rd_T77 x19 x21).f1, (rd_T77 x19 x21).f2, (rd_T77 x19 x21).f3⟩ : S77)]) (wrap64 (x11 + ((rd_T77 x19 x21).f0))) x19 x20 (wrap64 (x21 + 1)) x866000 x866001) else (none)))) else (none)) else (none)) else ((edit_clocks_normal.f k x866000 x866001 x10).bind fun bt866 => (some (bt866.1, bt866.2)))
def edit_clocks_cut.f (k : Nat) (a0_0 : Int) (a0_1 : Int) (l1 : List (S77)) (a2 : Int) (a3 : Int) : Option ((List (S77)) × Int) := edit_clocks_cut.l0 k a2 a3 ([] : List (S77)) 0 l1 (l1.length : Int) 0 a0_0 a0_1
set_option maxHeartbeats 8000000 in
set_option maxRecDepth 100000 in
theorem edit_clocks_cut.calls (k : Nat) (a0_0 : Int) (a0_1 : Int) (A1 : Option Addr) (c1 : Nat) (l1 : List (S77)) (a2 : Int) (a3 : Int) (r1 : List (S77)) (r2 : Int) (w : World) (hr1 : Kd.C k77 w A1 l1.length l1) (hc1 : l1.length ≤ c1) (h : edit_clocks_cut.f k a0_0 a0_1 l1 a2 a3 = some (r1, r2)) :
  Calls Try.prog 93 #[.agg #[.int .i64 a0_0, .int .i64 a0_1], .slice A1 l1.length c1, .int .i64 a2, .int .i64 a3] w fun e w' => ∃ v0_ : Value, e = .returned (.tuple #[v0_, .int .i64 r2]) ∧ Kd.R k77 77 w' w.heap.size (fun _ => True) v0_ r1 ∧ Below w.heap.size w w' := by
 have hu79 := Try.underlying79; have hu77 := Try.underlying77; have HR1 := Aside0.mk hr1; have HC1 := Aside0.mk hc1; clear hr1 hc1; have HB := Aside0.mk (Below.refl w.heap.size w); have H : (edit_clocks_cut.l0 k a2 a3 ([] : List (S77)) 0 l1 (l1.length : Int) 0 a0_0 a0_1) = some (r1, r2) := h; clear h; have H' := Aside0.mk H; clear H
 go_enter Try.func93, Try.ntmps93
 go_wp2_with (first | ((with_reducible refine gate_dst (N := 4) rfl ?_); refine zB 4 79 #[.int .i64 a0_0, .int .i64 a0_1] ?_; intro gb865 hg w5 hbox hb; have BK865 := Aside0.mk hbox; have GW865 := gz hg; have GE865 := gz hg; replace HB := bp hb; clear hb hbox hg))
 repeat (go_quiet (first | ((with_reducible refine gate_dst (N := 4) rfl ?_); refine zB 4 79 #[.int .i64 a0_0, .int .i64 a0_1] ?_; intro gb865 hg w5 hbox hb; have n0_ := bp hb; have n1_ := Aside0.mk hbox; have n2_ := gz hg; have n3_ := gz hg; clear HB; have HB := n0_; have BK865 := n1_; have GW865 := n2_; have GE865 := n3_; clear n0_ n1_ n2_ n3_; clear hb hbox hg)); try go_wp2_with (first | ((with_reducible refine gate_dst (N := 4) rfl ?_); refine zB 4 79 #[.int .i64 a0_0, .int .i64 a0_1] ?_; intro gb865 hg w5 hbox hb; have BK865 := Aside0.mk hbox; have GW865 := gz hg; have GE865 := gz hg; replace HB := bp hb; clear hb hbox hg)))
 go_loopg [10, 11, 21] k (fun kq v10 v11 v21 w' => ∃ (x10_1 : List (S77)) (x11_1 : Int) (x21_1 : Int), v11 = .int .i64 x11_1 ∧ v21 = .int .i64 x21_1 ∧ Aside0 (edit_clocks_cut.l0 kq a2 a3 x10_1 x11_1 l1 (l1.length : Int) x21_1 a0_0 a0_1 = some (r1, r2)) ∧ Aside0 (kq ≤ k) ∧ Aside0 (Kd.R k77 77 w' w.heap.size (fun _ => True) v10 x10_1) ∧ Aside0 (w'.heap[gb865]? = some (.cells #[.int .i64 a0_0, .int .i64 a0_1] 79 (0, 0))) ∧ Aside0 (Below w.heap.size w w'))
 case atStart => exact ⟨(([] : List (S77))), (0), (0), jz, jz, H', ⟨Nat.le_refl _⟩, ⟨by first | exact Kd.R_nil _ _ _ _ _ | exact Kd.N_nil _ _ _ _ _ | exact Kd.V_nil _ _ _ _ _ | exact Kd.Q_nil _ _ _ _ _ | exact Kd.S_nil _ _ _ _ _⟩, ⟨kz⟩, ⟨bz⟩⟩
 case round =>
  clear H'
  try clear c1
  try clear p2
  obtain ⟨x10_1, x11_1, x21_1, rfl, rfl, HA, HK1, HO_10, BK865, HB⟩ := hrel
  cases gk with
  | zero => exact absurd HA.out (by simp [edit_clocks_cut.l0])
  | succ k1 =>
   have H := HA.out; clear HA; simp only [edit_clocks_cut.l0] at H
   by_cases c6 : x21_1 < (l1.length : Int)
   ·rw [if_pos c6] at H; have c6b0 : decide (x21_1 < (l1.length : Int)) = true := decide_eq_true c6; clear c6
    by_cases c7 : 0 ≤ x21_1
    ·rw [if_pos c7] at H; have c7b0 : decide (0 ≤ x21_1) = true := decide_eq_true c7; clear c7
     by_cases c8 : x21_1 < (l1.length : Int)
     ·rw [if_pos c8] at H; have c8b0 : decide (x21_1 < (l1.length : Int)) = true := decide_eq_true c8; clear c8; obtain ⟨ji9, hji9⟩ : ∃ j_ : Int, (mx x11_1 a2) = j_ := ⟨_, rfl⟩; replace H : (if (ji9) ≥ (mn (wrap64 (x11_1 + ((rd_T77 l1 x21_1).f0))) a3) then (edit_clocks_cut.l0 k1 a2 a3 x10_1 (wrap64 (x11_1 + ((rd_T77 l1 x21_1).f0))) l1 (l1.length : Int) (wrap64 (x21_1 + 1)) a0_0 a0_1) else (if ((rd_T77 l1 x21_1).f1) ≥ 0 then ((edit_clocks_after.f a0_0 a0_1 (wrap64 ((mn (wrap64 (x11_1 + ((rd_T77 l1 x21_1).f0))) a3) - (ji9))) ((rd_T77 l1 x21_1).f1) ((rd_T77 l1 x21_1).f2) ((rd_T77 l1 x21_1).f3) (wrap64 ((ji9) - x11_1))).bind fun bt872 => (if bt872.2 = 0 then (if x10_1.length < 4398046511104 then (edit_clocks_cut.l0 k1 a2 a3 (x10_1 ++ [(⟨wrap64 ((mn (wrap64 (x11_1 + ((rd_T77 l1 x21_1).f0))) a3) - (ji9)), bt872.1, (rd_T77 l1 x21_1).f2, (rd_T77 l1 x21_1).f3⟩ : S77)]) (wrap64 (x11_1 + ((rd_T77 l1 x21_1).f0))) l1 (l1.length : Int) (wrap64 (x21_1 + 1)) a0_0 a0_1) else (none)) else (some (([] : List (S77)), bt872.2)))) else (if x10_1.length < 4398046511104 then (edit_clocks_cut.l0 k1 a2 a3 (x10_1 ++ [(⟨wrap64 ((mn (wrap64 (x11_1 + ((rd_T77 l1 x21_1).f0))) a3) - (ji9)), (rd_T77 l1 x21_1).f1, (rd_T77 l1 x21_1).f2, (rd_T77 l1 x21_1).f3⟩ : S77)]) (wrap64 (x11_1 + ((rd_T77 l1 x21_1).f0))) l1 (l1.length : Int) (wrap64 (x21_1 + 1)) a0_0 a0_1) else (none)))) = some (r1, r2) := by first | (rw [hji9] at H; exact H) | (simp only [hji9] at H ⊢; exact H)
      have hji9_ : (if x11_1 < a2 then a2 else x11_1) = ji9 := hji9; obtain ⟨ji10, hji10⟩ : ∃ j_ : Int, (mn (wrap64 (x11_1 + ((rd_T77 l1 x21_1).f0))) a3) = j_ := ⟨_, rfl⟩; replace H : (if (ji9) ≥ (ji10) then (edit_clocks_cut.l0 k1 a2 a3 x10_1 (wrap64 (x11_1 + ((rd_T77 l1 x21_1).f0))) l1 (l1.length : Int) (wrap64 (x21_1 + 1)) a0_0 a0_1) else (if ((rd_T77 l1 x21_1).f1) ≥ 0 then ((edit_clocks_after.f a0_0 a0_1 (wrap64 ((ji10) - (ji9))) ((rd_T77 l1 x21_1).f1) ((rd_T77 l1 x21_1).f2) ((rd_T77 l1 x21_1).f3) (wrap64 ((ji9) - x11_1))).bind fun bt872 => (if bt872.2 = 0 then (if x10_1.length < 4398046511104 then (edit_clocks_cut.l0 k1 a2 a3 (x10_1 ++ [(⟨wrap64 ((ji10) - (ji9)), bt872.1, (rd_T77 l1 x21_1).f2, (rd_T77 l1 x21_1).f3⟩ : S77)]) (wrap64 (x11_1 + ((rd_T77 l1 x21_1).f0))) l1 (l1.length : Int) (wrap64 (x21_1 + 1)) a0_0 a0_1) else (none)) else (some (([] : List (S77)), bt872.2)))) else (if x10_1.length < 4398046511104 then (edit_clocks_cut.l0 k1 a2 a3 (x10_1 ++ [(⟨wrap64 ((ji10) - (ji9)), (rd_T77 l1 x21_1).f1, (rd_T77 l1 x21_1).f2, (rd_T77 l1 x21_1).f3⟩ : S77)]) (wrap64 (x11_1 + ((rd_T77 l1 x21_1).f0))) l1 (l1.length : Int) (wrap64 (x21_1 + 1)) a0_0 a0_1) else (none)))) = some (r1, r2) := by first | (rw [hji10] at H; exact H) | (simp only [hji10] at H ⊢; exact H)
      have hji10_ : (if a3 < (wrap64 (x11_1 + ((rd_T77 l1 x21_1).f0))) then a3 else (wrap64 (x11_1 + ((rd_T77 l1 x21_1).f0)))) = ji10 := hji10
      by_cases c11 : (ji9) ≥ (ji10)
      ·rw [if_pos c11] at H; have c11b0 : decide ((ji10) ≤ (ji9)) = true := decide_eq_true c11; clear c11; have H' := Aside0.mk H; clear H; have p870 : 0 ≤ (x21_1 : Int) := od; have q870 : x21_1 < (l1.length : Int) := od; obtain ⟨ad870, e870, hx870_0, hx870_1, hx870_2, hx870_3⟩ := at_T77 HR1.out x21_1 p870 q870
       cases e870
       replace hx870_0 := cl HB hx870_0; replace hx870_1 := cl HB hx870_1; replace hx870_2 := cl HB hx870_2; replace hx870_3 := cl HB hx870_3; replace p870 := eq_true p870; replace q870 := eq_true q870
       go_wp2_with (first | ((with_reducible refine gate_dst (N := 13) rfl ?_); refine zB 13 77 #[.int .i64 0, .int .i64 0, .int .i64 0, .int .i64 0] ?_; intro gb871 hg w12 hbox hb; replace HO_10 := Aside0.mk (Kd.R_below (Kd.R_elderB (rz HO_10) gb871 (Nat.le_of_eq hg.symm)) hb); have BK871 := Aside0.mk hbox; have GW871 := gz hg; have GE871 := gz hg; replace HB := bp hb; have NB865_871 := Aside0.mk ((by rw [hg]; exact Nat.ne_of_lt (bl BK865) : gb865 ≠ gb871)); have NB871_865 := Aside0.mk ((by rw [hg]; exact Nat.ne_of_gt (bl BK865) : gb871 ≠ gb865)); replace BK865 := kb BK865 hb; clear hb hbox hg; have hnb13 := NB871_865.out; have hnc13 := NB865_871.out; obtain ⟨hcz14_0, hcz14_1, hcz14_2, hcz14_3, hfz14_0, hfz14_1, hfz14_2, hfz14_3⟩ := xc4 BK871))
       repeat (go_quiet (first | ((with_reducible refine gate_dst (N := 13) rfl ?_); refine zB 13 77 #[.int .i64 0, .int .i64 0, .int .i64 0, .int .i64 0] ?_; intro gb871 hg w12 hbox hb; have n0_ := Aside0.mk (Kd.R_below (Kd.R_elderB (rz HO_10) gb871 (Nat.le_of_eq hg.symm)) hb); have n1_ := kb BK865 hb; have n2_ := bp hb; have n3_ := Aside0.mk hbox; have n4_ := gz hg; have n5_ := gz hg; have n6_ := Aside0.mk ((by rw [hg]; exact Nat.ne_of_lt (bl BK865) : gb865 ≠ gb871)); have n7_ := Aside0.mk ((by rw [hg]; exact Nat.ne_of_gt (bl BK865) : gb871 ≠ gb865)); clear HO_10; clear BK865; clear HB; have HO_10 := n0_; have BK865 := n1_; have HB := n2_; have BK871 := n3_; have GW871 := n4_; have GE871 := n5_; have NB865_871 := n6_; have NB871_865 := n7_; clear n0_ n1_ n2_ n3_ n4_ n5_ n6_ n7_; clear hb hbox hg; have hnb13 := NB871_865.out; have hnc13 := NB865_871.out; have hcz14_0 : w12.cell? ⟨gb871, 0, none⟩ = some (.int .i64 0) := ct BK871 0; have hcz14_1 : w12.cell? ⟨gb871, 1, none⟩ = some (.int .i64 0) := ct BK871 1; have hcz14_2 : w12.cell? ⟨gb871, 2, none⟩ = some (.int .i64 0) := ct BK871 2; have hcz14_3 : w12.cell? ⟨gb871, 3, none⟩ = some (.int .i64 0) := ct BK871 3; have hfz14_0 := blk_frozen BK871.out 0; have hfz14_1 := blk_frozen BK871.out 1; have hfz14_2 := blk_frozen BK871.out 2; have hfz14_3 := blk_frozen BK871.out 3)); try go_wp2_with (first | ((with_reducible refine gate_dst (N := 13) rfl ?_); refine zB 13 77 #[.int .i64 0, .int .i64 0, .int .i64 0, .int .i64 0] ?_; intro gb871 hg w12 hbox hb; replace HO_10 := Aside0.mk (Kd.R_below (Kd.R_elderB (rz HO_10) gb871 (Nat.le_of_eq hg.symm)) hb); have BK871 := Aside0.mk hbox; have GW871 := gz hg; have GE871 := gz hg; replace HB := bp hb; have NB865_871 := Aside0.mk ((by rw [hg]; exact Nat.ne_of_lt (bl BK865) : gb865 ≠ gb871)); have NB871_865 := Aside0.mk ((by rw [hg]; exact Nat.ne_of_gt (bl BK865) : gb871 ≠ gb865)); replace BK865 := kb BK865 hb; clear hb hbox hg; have hnb13 := NB871_865.out; have hnc13 := NB865_871.out; have hcz14_0 : w12.cell? ⟨gb871, 0, none⟩ = some (.int .i64 0) := ct BK871 0; have hcz14_1 : w12.cell? ⟨gb871, 1, none⟩ = some (.int .i64 0) := ct BK871 1; have hcz14_2 : w12.cell? ⟨gb871, 2, none⟩ = some (.int .i64 0) := ct BK871 2; have hcz14_3 : w12.cell? ⟨gb871, 3, none⟩ = some (.int .i64 0) := ct BK871 3; have hfz14_0 := blk_frozen BK871.out 0; have hfz14_1 := blk_frozen BK871.out 1; have hfz14_2 := blk_frozen BK871.out 2; have hfz14_3 := blk_frozen BK871.out 3)))
       go_roundg k1
       case measure => have := HK1.out; omega
       case rel => exact ⟨(x10_1), (wrap64 (x11_1 + ((rd_T77 l1 x21_1).f0))), (wrap64 (x21_1 + 1)), jz, jz, H', ⟨by have := HK1.out; omega⟩, ⟨by (with_reducible repeat (first | apply Kd.R_alloc | apply Kd.R_drewN | apply Kd.R_drew)); exact Kd.R_mono (Kd.R_far (p := ⟨gb871, 3, none⟩) (Kd.R_far (p := ⟨gb871, 2, none⟩) (Kd.R_far (p := ⟨gb871, 1, none⟩) (Kd.R_far (p := ⟨gb871, 0, none⟩) (Kd.R_mono HO_10.out (fun k_ hk => (⟨hk, hk.2⟩ : _ ∧ k_ ≠ gb871))) (fun _ hk => hk.2) (.int .i64 ((rd_T77 l1 x21_1).f0))) (fun _ hk => hk.2) (.int .i64 ((rd_T77 l1 x21_1).f1))) (fun _ hk => hk.2) (.int .i64 ((rd_T77 l1 x21_1).f2))) (fun _ hk => hk.2) (.int .i64 ((rd_T77 l1 x21_1).f3))) (fun _ hk => trivial)⟩, ⟨by (with_reducible repeat (first | refine blk_drewN ?_ _ | refine blk_drew ?_ | refine blk_alloc ?_ _)); refine blk_far ?_ NB865_871.out _; (with_reducible repeat (first | refine blk_drewN ?_ _ | refine blk_drew ?_ | refine blk_alloc ?_ _)); refine blk_far ?_ NB865_871.out _; (with_reducible repeat (first | refine blk_drewN ?_ _ | refine blk_drew ?_ | refine blk_alloc ?_ _)); refine blk_far ?_ NB865_871.out _; (with_reducible repeat (first | refine blk_drewN ?_ _ | refine blk_drew ?_ | refine blk_alloc ?_ _)); refine blk_far ?_ NB865_871.out _; (with_reducible repeat (first | refine blk_drewN ?_ _ | refine blk_drew ?_ | refine blk_alloc ?_ _)); exact BK865.out⟩, ⟨bz⟩⟩
      ·rw [if_neg c11] at H; have c11b0 : decide ((ji10) ≤ (ji9)) = false := decide_eq_false c11; clear c11
       by_cases c15 : ((rd_T77 l1 x21_1).f1) ≥ 0
       ·rw [if_pos c15] at H; have c15b0 : decide (0 ≤ ((rd_T77 l1 x21_1).f1)) = true := decide_eq_true c15; clear c15; obtain ⟨⟨t872, t873⟩, A16, H⟩ := ob H
        (try dsimp only at H)
        by_cases c17 : t873 = 0
        ·rw [if_pos c17] at H; have c17b0 : (t873 == 0) = true := beq_iff_eq.mpr c17; have c17b1 : (t873 != 0) = false := bne_eq_false_iff_eq.mpr c17; clear c17
         by_cases c18 : x10_1.length < 4398046511104
         ·rw [if_pos c18] at H; have LMc18 := Aside0.mk c18; clear c18; obtain ⟨y874, hy874⟩ : ∃ y_ : List (S77), y_ = (x10_1 ++ [(⟨wrap64 ((ji10) - (ji9)), t872, (rd_T77 l1 x21_1).f2, (rd_T77 l1 x21_1).f3⟩ : S77)]) := ⟨_, rfl⟩; replace H : (edit_clocks_cut.l0 k1 a2 a3 y874 (wrap64 (x11_1 + ((rd_T77 l1 x21_1).f0))) l1 (l1.length : Int) (wrap64 (x21_1 + 1)) a0_0 a0_1) = some (r1, r2) := by first | (rw [hy874]; with_reducible exact H) | (have H2_ := (Option.bind_some _ _).symm.trans H; rw [hy874]; with_reducible exact H2_) | (have H2_ := (Option.bind_some _ _).symm.trans H; with_reducible exact H2_) | with_reducible exact H | (rw [hy874]; exact H) | exact H
          have Ny874 := Aside0.mk hy874; clear hy874; have H' := Aside0.mk H; clear H; have p870 : 0 ≤ (x21_1 : Int) := od; have q870 : x21_1 < (l1.length : Int) := od; obtain ⟨ad870, e870, hx870_0, hx870_1, hx870_2, hx870_3⟩ := at_T77 HR1.out x21_1 p870 q870
          cases e870
          replace hx870_0 := cl HB hx870_0; replace hx870_1 := cl HB hx870_1; replace hx870_2 := cl HB hx870_2; replace hx870_3 := cl HB hx870_3; replace p870 := eq_true p870; replace q870 := eq_true q870
          go_wp2_with (first | ((with_reducible refine gate_dst (N := 13) rfl ?_); refine zB 13 77 #[.int .i64 0, .int .i64 0, .int .i64 0, .int .i64 0] ?_; intro gb871 hg w19 hbox hb; replace HO_10 := Aside0.mk (Kd.R_below (Kd.R_elderB (rz HO_10) gb871 (Nat.le_of_eq hg.symm)) hb); have BK871 := Aside0.mk hbox; have GW871 := gz hg; have GE871 := gz hg; replace HB := bp hb; have NB865_871 := Aside0.mk ((by rw [hg]; exact Nat.ne_of_lt (bl BK865) : gb865 ≠ gb871)); have NB871_865 := Aside0.mk ((by rw [hg]; exact Nat.ne_of_gt (bl BK865) : gb871 ≠ gb865)); replace BK865 := kb BK865 hb; clear hb hbox hg; have hnb20 := NB871_865.out; have hnc20 := NB865_871.out; obtain ⟨hcz21_0, hcz21_1, hcz21_2, hcz21_3, hfz21_0, hfz21_1, hfz21_2, hfz21_3⟩ := xc4 BK871; obtain ⟨hcz22_0, hcz22_1, hfz22_0, hfz22_1⟩ := xc2 BK865) | (go_at_call 135; (with_reducible refine (wa1 A16.out _).mono ?_); rintro e w23a ⟨gq1, rfl, hs_⟩; have HS1 := Aside0.mk hs_; clear hs_) | (go_at_call 76; (with_reducible refine (wa2 A16.out HS1.out).mono ?_); rintro e w23 ⟨rfl, hb⟩; clear HS1; replace HO_10 := Aside0.mk (Kd.R_below (by (with_reducible repeat (first | apply Kd.R_alloc | apply Kd.R_drewN | apply Kd.R_drew)); exact (Kd.R_mono (Kd.R_far (p := ⟨gb871, 0, none⟩) (Kd.R_far (p := ⟨gb871, 3, none⟩) (Kd.R_far (p := ⟨gb871, 2, none⟩) (Kd.R_far (p := ⟨gb871, 1, none⟩) (Kd.R_far (p := ⟨gb871, 0, none⟩) (Kd.R_mono HO_10.out (fun k_ hk => (⟨hk, hk.2⟩ : _ ∧ k_ ≠ gb871))) (fun _ hk => hk.2) (.int .i64 ((rd_T77 l1 x21_1).f0))) (fun _ hk => hk.2) (.int .i64 ((rd_T77 l1 x21_1).f1))) (fun _ hk => hk.2) (.int .i64 ((rd_T77 l1 x21_1).f2))) (fun _ hk => hk.2) (.int .i64 ((rd_T77 l1 x21_1).f3))) (fun _ hk => hk.2) (.int .i64 (wrap64 ((ji10) - (ji9))))) (fun _ h_ => h_.1))) hb); replace BK865 := Aside0.mk (blk_below (g := gb865) (o := .cells #[.int .i64 a0_0, .int .i64 a0_1] 79 (0, 0)) (by (with_reducible repeat (first | refine blk_drewN ?_ _ | refine blk_drew ?_ | refine blk_alloc ?_ _)); refine blk_far ?_ NB865_871.out _; (with_reducible repeat (first | refine blk_drewN ?_ _ | refine blk_drew ?_ | refine blk_alloc ?_ _)); refine blk_far ?_ NB865_871.out _; (with_reducible repeat (first | refine blk_drewN ?_ _ | refine blk_drew ?_ | refine blk_alloc ?_ _)); refine blk_far ?_ NB865_871.out _; (with_reducible repeat (first | refine blk_drewN ?_ _ | refine blk_drew ?_ | refine blk_alloc ?_ _)); refine blk_far ?_ NB865_871.out _; (with_reducible repeat (first | refine blk_drewN ?_ _ | refine blk_drew ?_ | refine blk_alloc ?_ _)); refine blk_far ?_ NB865_871.out _; (with_reducible repeat (first | refine blk_drewN ?_ _ | refine blk_drew ?_ | refine blk_alloc ?_ _)); exact BK865.out) hb); replace BK871 := Aside0.mk (blk_below (g := gb871) (o := .cells #[.int .i64 (wrap64 ((ji10) - (ji9))), .int .i64 ((rd_T77 l1 x21_1).f1), .int .i64 ((rd_T77 l1 x21_1).f2), .int .i64 ((rd_T77 l1 x21_1).f3)] 77 (0, 0)) (by (with_reducible repeat (first | refine blk_drewN ?_ _ | refine blk_drew ?_ | refine blk_alloc ?_ _)); refine blk_put (cs := #[.int .i64 ((rd_T77 l1 x21_1).f0), .int .i64 ((rd_T77 l1 x21_1).f1), .int .i64 ((rd_T77 l1 x21_1).f2), .int .i64 ((rd_T77 l1 x21_1).f3)]) ?_ 0 _ rfl; (with_reducible repeat (first | refine blk_drewN ?_ _ | refine blk_drew ?_ | refine blk_alloc ?_ _)); refine blk_put (cs := #[.int .i64 ((rd_T77 l1 x21_1).f0), .int .i64 ((rd_T77 l1 x21_1).f1), .int .i64 ((rd_T77 l1 x21_1).f2), .int .i64 0]) ?_ 3 _ rfl; (with_reducible repeat (first | refine blk_drewN ?_ _ | refine blk_drew ?_ | refine blk_alloc ?_ _)); refine blk_put (cs := #[.int .i64 ((rd_T77 l1 x21_1).f0), .int .i64 ((rd_T77 l1 x21_1).f1), .int .i64 0, .int .i64 0]) ?_ 2 _ rfl; (with_reducible repeat (first | refine blk_drewN ?_ _ | refine blk_drew ?_ | refine blk_alloc ?_ _)); refine blk_put (cs := #[.int .i64 ((rd_T77 l1 x21_1).f0), .int .i64 0, .int .i64 0, .int .i64 0]) ?_ 1 _ rfl; (with_reducible repeat (first | refine blk_drewN ?_ _ | refine blk_drew ?_ | refine blk_alloc ?_ _)); refine blk_put (cs := #[.int .i64 0, .int .i64 0, .int .i64 0, .int .i64 0]) ?_ 0 _ rfl; (with_reducible repeat (first | refine blk_drewN ?_ _ | refine blk_drew ?_ | refine blk_alloc ?_ _)); exact BK871.out) hb); replace HB := bp hb; clear hb; obtain ⟨hcz24_0, hcz24_1, hcz24_2, hcz24_3, hfz24_0, hfz24_1, hfz24_2, hfz24_3⟩ := xc4 BK871) | ((with_reducible refine gate_builtin (b := .append) (xs := #[.tmp 64, .tmp 66]) rfl ?_); at_builtin; refine Kd.R_append k77 (w0 := w) w.heap.size rfl (.tmp 64) (.tmp 66) 22 77 (.agg #[(.int .i64 0), (.int .i64 0), (.int .i64 0), (.int .i64 0)]) 32 rfl Try.underlying22 info77 rfl (by decide) (by omega) u10 x10_1 (⟨wrap64 ((ji10) - (ji9)), t872, (rd_T77 l1 x21_1).f2, (rd_T77 l1 x21_1).f3⟩ : S77) [.int .i64 (wrap64 ((ji10) - (ji9))), .int .i64 t872, .int .i64 ((rd_T77 l1 x21_1).f2), .int .i64 ((rd_T77 l1 x21_1).f3)] (fun k_ => k_ ≠ gb871) (fun _ => False) rfl (by first | (go_simp; done) | (go_simp; rfl)) ?aP (fun _ hk => hk.elim) ?aF ?aO ?aB ?aS ?aL ?_; (case aP => exact k77_mkM _ _ _ (⟨wrap64 ((ji10) - (ji9)), t872, (rd_T77 l1 x21_1).f2, (rd_T77 l1 x21_1).f3⟩ : S77)); (case aB => exact bz); (case aF => exact (fun k_ hk => Kd.freshB (g := gb871) (o := .cells #[.int .i64 (wrap64 ((ji10) - (ji9))), .int .i64 t872, .int .i64 ((rd_T77 l1 x21_1).f2), .int .i64 ((rd_T77 l1 x21_1).f3)] 77 (0, 0)) (by (with_reducible repeat (first | refine blk_drewN ?_ _ | refine blk_drew ?_ | refine blk_alloc ?_ _)); refine blk_put (cs := #[.int .i64 (wrap64 ((ji10) - (ji9))), .int .i64 ((rd_T77 l1 x21_1).f1), .int .i64 ((rd_T77 l1 x21_1).f2), .int .i64 ((rd_T77 l1 x21_1).f3)]) ?_ 1 _ rfl; (with_reducible repeat (first | refine blk_drewN ?_ _ | refine blk_drew ?_ | refine blk_alloc ?_ _)); exact BK871.out) k_ hk)); (case aO => exact (by (with_reducible repeat (first | apply Kd.R_alloc | apply Kd.R_drewN | apply Kd.R_drew)); exact Kd.R_mono (Kd.R_far (p := ⟨gb871, 1, none⟩) (Kd.R_mono HO_10.out (fun k_ hk => (⟨hk, hk.2⟩ : _ ∧ k_ ≠ gb871))) (fun _ hk => hk.2) (.int .i64 t872)) (fun _ hk => hk.1.2))); (case aS => exact sz); (case aL => have := LMc18.out; omega); intro v875 w25 ho hb hg hat; rw [← Ny874.out] at ho; replace BK865 := Aside0.mk (blk_grown (g := gb865) (o := .cells #[.int .i64 a0_0, .int .i64 a0_1] 79 (0, 0)) (by (with_reducible repeat (first | refine blk_drewN ?_ _ | refine blk_drew ?_ | refine blk_alloc ?_ _)); refine blk_far ?_ NB865_871.out _; (with_reducible repeat (first | refine blk_drewN ?_ _ | refine blk_drew ?_ | refine blk_alloc ?_ _)); exact BK865.out) hg (Kd.R_ne HO_10.out BK865.out (by decide))); replace BK871 := Aside0.mk (blk_grown (g := gb871) (o := .cells #[.int .i64 (wrap64 ((ji10) - (ji9))), .int .i64 t872, .int .i64 ((rd_T77 l1 x21_1).f2), .int .i64 ((rd_T77 l1 x21_1).f3)] 77 (0, 0)) (by (with_reducible repeat (first | refine blk_drewN ?_ _ | refine blk_drew ?_ | refine blk_alloc ?_ _)); refine blk_put (cs := #[.int .i64 (wrap64 ((ji10) - (ji9))), .int .i64 ((rd_T77 l1 x21_1).f1), .int .i64 ((rd_T77 l1 x21_1).f2), .int .i64 ((rd_T77 l1 x21_1).f3)]) ?_ 1 _ rfl; (with_reducible repeat (first | refine blk_drewN ?_ _ | refine blk_drew ?_ | refine blk_alloc ?_ _)); exact BK871.out) hg (Kd.R_away HO_10.out (fun _ hk => hk.2))); replace HB := Aside0.mk (hb); have HO876 := Aside0.mk (ho); clear HO_10; clear ho hb hg hat))
          repeat (go_quiet (first | ((with_reducible refine gate_dst (N := 13) rfl ?_); refine zB 13 77 #[.int .i64 0, .int .i64 0, .int .i64 0, .int .i64 0] ?_; intro gb871 hg w19 hbox hb; replace HO_10 := Aside0.mk (Kd.R_below (Kd.R_elderB (rz HO_10) gb871 (Nat.le_of_eq hg.symm)) hb); have BK871 := Aside0.mk hbox; have GW871 := gz hg; have GE871 := gz hg; replace HB := bp hb; have NB865_871 := Aside0.mk ((by rw [hg]; exact Nat.ne_of_lt (bl BK865) : gb865 ≠ gb871)); have NB871_865 := Aside0.mk ((by rw [hg]; exact Nat.ne_of_gt (bl BK865) : gb871 ≠ gb865)); replace BK865 := kb BK865 hb; clear hb hbox hg; have hnb20 := NB871_865.out; have hnc20 := NB865_871.out; obtain ⟨hcz21_0, hcz21_1, hcz21_2, hcz21_3, hfz21_0, hfz21_1, hfz21_2, hfz21_3⟩ := xc4 BK871; obtain ⟨hcz22_0, hcz22_1, hfz22_0, hfz22_1⟩ := xc2 BK865) | (go_at_call 135; (with_reducible refine (wa1 A16.out _).mono ?_); rintro e w23a ⟨gq1, rfl, hs_⟩; have HS1 := Aside0.mk hs_; clear hs_) | (go_at_call 76; (with_reducible refine (wa2 A16.out HS1.out).mono ?_); rintro e w23 ⟨rfl, hb⟩; clear HS1; replace HO_10 := Aside0.mk (Kd.R_below (by (with_reducible repeat (first | apply Kd.R_alloc | apply Kd.R_drewN | apply Kd.R_drew)); exact (Kd.R_mono (Kd.R_far (p := ⟨gb871, 0, none⟩) (Kd.R_far (p := ⟨gb871, 3, none⟩) (Kd.R_far (p := ⟨gb871, 2, none⟩) (Kd.R_far (p := ⟨gb871, 1, none⟩) (Kd.R_far (p := ⟨gb871, 0, none⟩) (Kd.R_mono HO_10.out (fun k_ hk => (⟨hk, hk.2⟩ : _ ∧ k_ ≠ gb871))) (fun _ hk => hk.2) (.int .i64 ((rd_T77 l1 x21_1).f0))) (fun _ hk => hk.2) (.int .i64 ((rd_T77 l1 x21_1).f1))) (fun _ hk => hk.2) (.int .i64 ((rd_T77 l1 x21_1).f2))) (fun _ hk => hk.2) (.int .i64 ((rd_T77 l1 x21_1).f3))) (fun _ hk => hk.2) (.int .i64 (wrap64 ((ji10) - (ji9))))) (fun _ h_ => h_.1))) hb); replace BK865 := Aside0.mk (blk_below (g := gb865) (o := .cells #[.int .i64 a0_0, .int .i64 a0_1] 79 (0, 0)) (by (with_reducible repeat (first | refine blk_drewN ?_ _ | refine blk_drew ?_ | refine blk_alloc ?_ _)); refine blk_far ?_ NB865_871.out _; (with_reducible repeat (first | refine blk_drewN ?_ _ | refine blk_drew ?_ | refine blk_alloc ?_ _)); refine blk_far ?_ NB865_871.out _; (with_reducible repeat (first | refine blk_drewN ?_ _ | refine blk_drew ?_ | refine blk_alloc ?_ _)); refine blk_far ?_ NB865_871.out _; (with_reducible repeat (first | refine blk_drewN ?_ _ | refine blk_drew ?_ | refine blk_alloc ?_ _)); refine blk_far ?_ NB865_871.out _; (with_reducible repeat (first | refine blk_drewN ?_ _ | refine blk_drew ?_ | refine blk_alloc ?_ _)); refine blk_far ?_ NB865_871.out _; (with_reducible repeat (first | refine blk_drewN ?_ _ | refine blk_drew ?_ | refine blk_alloc ?_ _)); exact BK865.out) hb); replace BK871 := Aside0.mk (blk_below (g := gb871) (o := .cells #[.int .i64 (wrap64 ((ji10) - (ji9))), .int .i64 ((rd_T77 l1 x21_1).f1), .int .i64 ((rd_T77 l1 x21_1).f2), .int .i64 ((rd_T77 l1 x21_1).f3)] 77 (0, 0)) (by (with_reducible repeat (first | refine blk_drewN ?_ _ | refine blk_drew ?_ | refine blk_alloc ?_ _)); refine blk_put (cs := #[.int .i64 ((rd_T77 l1 x21_1).f0), .int .i64 ((rd_T77 l1 x21_1).f1), .int .i64 ((rd_T77 l1 x21_1).f2), .int .i64 ((rd_T77 l1 x21_1).f3)]) ?_ 0 _ rfl; (with_reducible repeat (first | refine blk_drewN ?_ _ | refine blk_drew ?_ | refine blk_alloc ?_ _)); refine blk_put (cs := #[.int .i64 ((rd_T77 l1 x21_1).f0), .int .i64 ((rd_T77 l1 x21_1).f1), .int .i64 ((rd_T77 l1 x21_1).f2), .int .i64 0]) ?_ 3 _ rfl; (with_reducible repeat (first | refine blk_drewN ?_ _ | refine blk_drew ?_ | refine blk_alloc ?_ _)); refine blk_put (cs := #[.int .i64 ((rd_T77 l1 x21_1).f0), .int .i64 ((rd_T77 l1 x21_1).f1), .int .i64 0, .int .i64 0]) ?_ 2 _ rfl; (with_reducible repeat (first | refine blk_drewN ?_ _ | refine blk_drew ?_ | refine blk_alloc ?_ _)); refine blk_put (cs := #[.int .i64 ((rd_T77 l1 x21_1).f0), .int .i64 0, .int .i64 0, .int .i64 0]) ?_ 1 _ rfl; (with_reducible repeat (first | refine blk_drewN ?_ _ | refine blk_drew ?_ | refine blk_alloc ?_ _)); refine blk_put (cs := #[.int .i64 0, .int .i64 0, .int .i64 0, .int .i64 0]) ?_ 0 _ rfl; (with_reducible repeat (first | refine blk_drewN ?_ _ | refine blk_drew ?_ | refine blk_alloc ?_ _)); exact BK871.out) hb); replace HB := bp hb; clear hb; obtain ⟨hcz24_0, hcz24_1, hcz24_2, hcz24_3, hfz24_0, hfz24_1, hfz24_2, hfz24_3⟩ := xc4 BK871) | ((with_reducible refine gate_builtin (b := .append) (xs := #[.tmp 64, .tmp 66]) rfl ?_); at_builtin; refine Kd.R_append k77 (w0 := w) w.heap.size rfl (.tmp 64) (.tmp 66) 22 77 (.agg #[(.int .i64 0), (.int .i64 0), (.int .i64 0), (.int .i64 0)]) 32 rfl Try.underlying22 info77 rfl (by decide) (by omega) u10 x10_1 (⟨wrap64 ((ji10) - (ji9)), t872, (rd_T77 l1 x21_1).f2, (rd_T77 l1 x21_1).f3⟩ : S77) [.int .i64 (wrap64 ((ji10) - (ji9))), .int .i64 t872, .int .i64 ((rd_T77 l1 x21_1).f2), .int .i64 ((rd_T77 l1 x21_1).f3)] (fun k_ => k_ ≠ gb871) (fun _ => False) rfl (by first | (go_simp; done) | (go_simp; rfl)) ?aP (fun _ hk => hk.elim) ?aF ?aO ?aB ?aS ?aL ?_; (case aP => exact k77_mkM _ _ _ (⟨wrap64 ((ji10) - (ji9)), t872, (rd_T77 l1 x21_1).f2, (rd_T77 l1 x21_1).f3⟩ : S77)); (case aB => exact bz); (case aF => exact (fun k_ hk => Kd.freshB (g := gb871) (o := .cells #[.int .i64 (wrap64 ((ji10) - (ji9))), .int .i64 t872, .int .i64 ((rd_T77 l1 x21_1).f2), .int .i64 ((rd_T77 l1 x21_1).f3)] 77 (0, 0)) (by (with_reducible repeat (first | refine blk_drewN ?_ _ | refine blk_drew ?_ | refine blk_alloc ?_ _)); refine blk_put (cs := #[.int .i64 (wrap64 ((ji10) - (ji9))), .int .i64 ((rd_T77 l1 x21_1).f1), .int .i64 ((rd_T77 l1 x21_1).f2), .int .i64 ((rd_T77 l1 x21_1).f3)]) ?_ 1 _ rfl; (with_reducible repeat (first | refine blk_drewN ?_ _ | refine blk_drew ?_ | refine blk_alloc ?_ _)); exact BK871.out) k_ hk)); (case aO => exact (by (with_reducible repeat (first | apply Kd.R_alloc | apply Kd.R_drewN | apply Kd.R_drew)); exact Kd.R_mono (Kd.R_far (p := ⟨gb871, 1, none⟩) (Kd.R_mono HO_10.out (fun k_ hk => (⟨hk, hk.2⟩ : _ ∧ k_ ≠ gb871))) (fun _ hk => hk.2) (.int .i64 t872)) (fun _ hk => hk.1.2))); (case aS => exact sz); (case aL => have := LMc18.out; omega); intro v875 w25 ho hb hg hat; rw [← Ny874.out] at ho; have n0_ := Aside0.mk (blk_grown (g := gb865) (o := .cells #[.int .i64 a0_0, .int .i64 a0_1] 79 (0, 0)) (by (with_reducible repeat (first | refine blk_drewN ?_ _ | refine blk_drew ?_ | refine blk_alloc ?_ _)); refine blk_far ?_ NB865_871.out _; (with_reducible repeat (first | refine blk_drewN ?_ _ | refine blk_drew ?_ | refine blk_alloc ?_ _)); exact BK865.out) hg (Kd.R_ne HO_10.out BK865.out (by decide))); have n1_ := Aside0.mk (blk_grown (g := gb871) (o := .cells #[.int .i64 (wrap64 ((ji10) - (ji9))), .int .i64 t872, .int .i64 ((rd_T77 l1 x21_1).f2), .int .i64 ((rd_T77 l1 x21_1).f3)] 77 (0, 0)) (by (with_reducible repeat (first | refine blk_drewN ?_ _ | refine blk_drew ?_ | refine blk_alloc ?_ _)); refine blk_put (cs := #[.int .i64 (wrap64 ((ji10) - (ji9))), .int .i64 ((rd_T77 l1 x21_1).f1), .int .i64 ((rd_T77 l1 x21_1).f2), .int .i64 ((rd_T77 l1 x21_1).f3)]) ?_ 1 _ rfl; (with_reducible repeat (first | refine blk_drewN ?_ _ | refine blk_drew ?_ | refine blk_alloc ?_ _)); exact BK871.out) hg (Kd.R_away HO_10.out (fun _ hk => hk.2))); have n2_ := Aside0.mk (hb); have n3_ := Aside0.mk (ho); clear BK865; clear BK871; clear HB; clear HO_10; have BK865 := n0_; have BK871 := n1_; have HB := n2_; have HO876 := n3_; clear n0_ n1_ n2_ n3_; clear ho hb hg hat)); try go_wp2_with (first | ((with_reducible refine gate_dst (N := 13) rfl ?_); refine zB 13 77 #[.int .i64 0, .int .i64 0, .int .i64 0, .int .i64 0] ?_; intro gb871 hg w19 hbox hb; replace HO_10 := Aside0.mk (Kd.R_below (Kd.R_elderB (rz HO_10) gb871 (Nat.le_of_eq hg.symm)) hb); have BK871 := Aside0.mk hbox; have GW871 := gz hg; have GE871 := gz hg; replace HB := bp hb; have NB865_871 := Aside0.mk ((by rw [hg]; exact Nat.ne_of_lt (bl BK865) : gb865 ≠ gb871)); have NB871_865 := Aside0.mk ((by rw [hg]; exact Nat.ne_of_gt (bl BK865) : gb871 ≠ gb865)); replace BK865 := kb BK865 hb; clear hb hbox hg; have hnb20 := NB871_865.out; have hnc20 := NB865_871.out; obtain ⟨hcz21_0, hcz21_1, hcz21_2, hcz21_3, hfz21_0, hfz21_1, hfz21_2, hfz21_3⟩ := xc4 BK871; obtain ⟨hcz22_0, hcz22_1, hfz22_0, hfz22_1⟩ := xc2 BK865) | (go_at_call 135; (with_reducible refine (wa1 A16.out _).mono ?_); rintro e w23a ⟨gq1, rfl, hs_⟩; have HS1 := Aside0.mk hs_; clear hs_) | (go_at_call 76; (with_reducible refine (wa2 A16.out HS1.out).mono ?_); rintro e w23 ⟨rfl, hb⟩; clear HS1; replace HO_10 := Aside0.mk (Kd.R_below (by (with_reducible repeat (first | apply Kd.R_alloc | apply Kd.R_drewN | apply Kd.R_drew)); exact (Kd.R_mono (Kd.R_far (p := ⟨gb871, 0, none⟩) (Kd.R_far (p := ⟨gb871, 3, none⟩) (Kd.R_far (p := ⟨gb871, 2, none⟩) (Kd.R_far (p := ⟨gb871, 1, none⟩) (Kd.R_far (p := ⟨gb871, 0, none⟩) (Kd.R_mono HO_10.out (fun k_ hk => (⟨hk, hk.2⟩ : _ ∧ k_ ≠ gb871))) (fun _ hk => hk.2) (.int .i64 ((rd_T77 l1 x21_1).f0))) (fun _ hk => hk.2) (.int .i64 ((rd_T77 l1 x21_1).f1))) (fun _ hk => hk.2) (.int .i64 ((rd_T77 l1 x21_1).f2))) (fun _ hk => hk.2) (.int .i64 ((rd_T77 l1 x21_1).f3))) (fun _ hk => hk.2) (.int .i64 (wrap64 ((ji10) - (ji9))))) (fun _ h_ => h_.1))) hb); replace BK865 := Aside0.mk (blk_below (g := gb865) (o := .cells #[.int .i64 a0_0, .int .i64 a0_1] 79 (0, 0)) (by (with_reducible repeat (first | refine blk_drewN ?_ _ | refine blk_drew ?_ | refine blk_alloc ?_ _)); refine blk_far ?_ NB865_871.out _; (with_reducible repeat (first | refine blk_drewN ?_ _ | refine blk_drew ?_ | refine blk_alloc ?_ _)); refine blk_far ?_ NB865_871.out _; (with_reducible repeat (first | refine blk_drewN ?_ _ | refine blk_drew ?_ | refine blk_alloc ?_ _)); refine blk_far ?_ NB865_871.out _; (with_reducible repeat (first | refine blk_drewN ?_ _ | refine blk_drew ?_ | refine blk_alloc ?_ _)); refine blk_far ?_ NB865_871.out _; (with_reducible repeat (first | refine blk_drewN ?_ _ | refine blk_drew ?_ | refine blk_alloc ?_ _)); refine blk_far ?_ NB865_871.out _; (with_reducible repeat (first | refine blk_drewN ?_ _ | refine blk_drew ?_ | refine blk_alloc ?_ _)); exact BK865.out) hb); replace BK871 := Aside0.mk (blk_below (g := gb871) (o := .cells #[.int .i64 (wrap64 ((ji10) - (ji9))), .int .i64 ((rd_T77 l1 x21_1).f1), .int .i64 ((rd_T77 l1 x21_1).f2), .int .i64 ((rd_T77 l1 x21_1).f3)] 77 (0, 0)) (by (with_reducible repeat (first | refine blk_drewN ?_ _ | refine blk_drew ?_ | refine blk_alloc ?_ _)); refine blk_put (cs := #[.int .i64 ((rd_T77 l1 x21_1).f0), .int .i64 ((rd_T77 l1 x21_1).f1), .int .i64 ((rd_T77 l1 x21_1).f2), .int .i64 ((rd_T77 l1 x21_1).f3)]) ?_ 0 _ rfl; (with_reducible repeat (first | refine blk_drewN ?_ _ | refine blk_drew ?_ | refine blk_alloc ?_ _)); refine blk_put (cs := #[.int .i64 ((rd_T77 l1 x21_1).f0), .int .i64 ((rd_T77 l1 x21_1).f1), .int .i64 ((rd_T77 l1 x21_1).f2), .int .i64 0]) ?_ 3 _ rfl; (with_reducible repeat (first | refine blk_drewN ?_ _ | refine blk_drew ?_ | refine blk_alloc ?_ _)); refine blk_put (cs := #[.int .i64 ((rd_T77 l1 x21_1).f0), .int .i64 ((rd_T77 l1 x21_1).f1), .int .i64 0, .int .i64 0]) ?_ 2 _ rfl; (with_reducible repeat (first | refine blk_drewN ?_ _ | refine blk_drew ?_ | refine blk_alloc ?_ _)); refine blk_put (cs := #[.int .i64 ((rd_T77 l1 x21_1).f0), .int .i64 0, .int .i64 0, .int .i64 0]) ?_ 1 _ rfl; (with_reducible repeat (first | refine blk_drewN ?_ _ | refine blk_drew ?_ | refine blk_alloc ?_ _)); refine blk_put (cs := #[.int .i64 0, .int .i64 0, .int .i64 0, .int .i64 0]) ?_ 0 _ rfl; (with_reducible repeat (first | refine blk_drewN ?_ _ | refine blk_drew ?_ | refine blk_alloc ?_ _)); exact BK871.out) hb); replace HB := bp hb; clear hb; obtain ⟨hcz24_0, hcz24_1, hcz24_2, hcz24_3, hfz24_0, hfz24_1, hfz24_2, hfz24_3⟩ := xc4 BK871) | ((with_reducible refine gate_builtin (b := .append) (xs := #[.tmp 64, .tmp 66]) rfl ?_); at_builtin; refine Kd.R_append k77 (w0 := w) w.heap.size rfl (.tmp 64) (.tmp 66) 22 77 (.agg #[(.int .i64 0), (.int .i64 0), (.int .i64 0), (.int .i64 0)]) 32 rfl Try.underlying22 info77 rfl (by decide) (by omega) u10 x10_1 (⟨wrap64 ((ji10) - (ji9)), t872, (rd_T77 l1 x21_1).f2, (rd_T77 l1 x21_1).f3⟩ : S77) [.int .i64 (wrap64 ((ji10) - (ji9))), .int .i64 t872, .int .i64 ((rd_T77 l1 x21_1).f2), .int .i64 ((rd_T77 l1 x21_1).f3)] (fun k_ => k_ ≠ gb871) (fun _ => False) rfl (by first | (go_simp; done) | (go_simp; rfl)) ?aP (fun _ hk => hk.elim) ?aF ?aO ?aB ?aS ?aL ?_; (case aP => exact k77_mkM _ _ _ (⟨wrap64 ((ji10) - (ji9)), t872, (rd_T77 l1 x21_1).f2, (rd_T77 l1 x21_1).f3⟩ : S77)); (case aB => exact bz); (case aF => exact (fun k_ hk => Kd.freshB (g := gb871) (o := .cells #[.int .i64 (wrap64 ((ji10) - (ji9))), .int .i64 t872, .int .i64 ((rd_T77 l1 x21_1).f2), .int .i64 ((rd_T77 l1 x21_1).f3)] 77 (0, 0)) (by (with_reducible repeat (first | refine blk_drewN ?_ _ | refine blk_drew ?_ | refine blk_alloc ?_ _)); refine blk_put (cs := #[.int .i64 (wrap64 ((ji10) - (ji9))), .int .i64 ((rd_T77 l1 x21_1).f1), .int .i64 ((rd_T77 l1 x21_1).f2), .int .i64 ((rd_T77 l1 x21_1).f3)]) ?_ 1 _ rfl; (with_reducible repeat (first | refine blk_drewN ?_ _ | refine blk_drew ?_ | refine blk_alloc ?_ _)); exact BK871.out) k_ hk)); (case aO => exact (by (with_reducible repeat (first | apply Kd.R_alloc | apply Kd.R_drewN | apply Kd.R_drew)); exact Kd.R_mono (Kd.R_far (p := ⟨gb871, 1, none⟩) (Kd.R_mono HO_10.out (fun k_ hk => (⟨hk, hk.2⟩ : _ ∧ k_ ≠ gb871))) (fun _ hk => hk.2) (.int .i64 t872)) (fun _ hk => hk.1.2))); (case aS => exact sz); (case aL => have := LMc18.out; omega); intro v875 w25 ho hb hg hat; rw [← Ny874.out] at ho; replace BK865 := Aside0.mk (blk_grown (g := gb865) (o := .cells #[.int .i64 a0_0, .int .i64 a0_1] 79 (0, 0)) (by (with_reducible repeat (first | refine blk_drewN ?_ _ | refine blk_drew ?_ | refine blk_alloc ?_ _)); refine blk_far ?_ NB865_871.out _; (with_reducible repeat (first | refine blk_drewN ?_ _ | refine blk_drew ?_ | refine blk_alloc ?_ _)); exact BK865.out) hg (Kd.R_ne HO_10.out BK865.out (by decide))); replace BK871 := Aside0.mk (blk_grown (g := gb871) (o := .cells #[.int .i64 (wrap64 ((ji10) - (ji9))), .int .i64 t872, .int .i64 ((rd_T77 l1 x21_1).f2), .int .i64 ((rd_T77 l1 x21_1).f3)] 77 (0, 0)) (by (with_reducible repeat (first | refine blk_drewN ?_ _ | refine blk_drew ?_ | refine blk_alloc ?_ _)); refine blk_put (cs := #[.int .i64 (wrap64 ((ji10) - (ji9))), .int .i64 ((rd_T77 l1 x21_1).f1), .int .i64 ((rd_T77 l1 x21_1).f2), .int .i64 ((rd_T77 l1 x21_1).f3)]) ?_ 1 _ rfl; (with_reducible repeat (first | refine blk_drewN ?_ _ | refine blk_drew ?_ | refine blk_alloc ?_ _)); exact BK871.out) hg (Kd.R_away HO_10.out (fun _ hk => hk.2))); replace HB := Aside0.mk (hb); have HO876 := Aside0.mk (ho); clear HO_10; clear ho hb hg hat)))
          go_roundg k1
          case measure => have := HK1.out; omega
          case rel => exact ⟨(y874), (wrap64 (x11_1 + ((rd_T77 l1 x21_1).f0))), (wrap64 (x21_1 + 1)), jz, jz, H', ⟨by have := HK1.out; omega⟩, ⟨by (with_reducible repeat (first | apply Kd.R_alloc | apply Kd.R_drewN | apply Kd.R_drew)); exact Kd.R_mono HO876.out (fun _ hk => trivial)⟩, ⟨kz⟩, ⟨bz⟩⟩
         ·rw [if_neg c18] at H
          exact absurd H (by simp)
        ·rw [if_neg c17] at H; have c17b0 : (t873 == 0) = false := beq_eq_false_iff_ne.mpr c17; have c17b1 : (t873 != 0) = true := bne_iff_ne.mpr c17; simp only [Option.some.injEq, Prod.mk.injEq] at H; obtain ⟨rfl, rfl⟩ := H; have p870 : 0 ≤ (x21_1 : Int) := od; have q870 : x21_1 < (l1.length : Int) := od; obtain ⟨ad870, e870, hx870_0, hx870_1, hx870_2, hx870_3⟩ := at_T77 HR1.out x21_1 p870 q870
         cases e870
         replace hx870_0 := cl HB hx870_0; replace hx870_1 := cl HB hx870_1; replace hx870_2 := cl HB hx870_2; replace hx870_3 := cl HB hx870_3; replace p870 := eq_true p870; replace q870 := eq_true q870
         go_wp2_with (first | ((with_reducible refine gate_dst (N := 13) rfl ?_); refine zB 13 77 #[.int .i64 0, .int .i64 0, .int .i64 0, .int .i64 0] ?_; intro gb871 hg w26 hbox hb; replace HO_10 := Aside0.mk (Kd.R_below (Kd.R_elderB (rz HO_10) gb871 (Nat.le_of_eq hg.symm)) hb); have BK871 := Aside0.mk hbox; have GW871 := gz hg; have GE871 := gz hg; replace HB := bp hb; have NB865_871 := Aside0.mk ((by rw [hg]; exact Nat.ne_of_lt (bl BK865) : gb865 ≠ gb871)); have NB871_865 := Aside0.mk ((by rw [hg]; exact Nat.ne_of_gt (bl BK865) : gb871 ≠ gb865)); replace BK865 := kb BK865 hb; clear hb hbox hg; have hnb27 := NB871_865.out; have hnc27 := NB865_871.out; obtain ⟨hcz28_0, hcz28_1, hcz28_2, hcz28_3, hfz28_0, hfz28_1, hfz28_2, hfz28_3⟩ := xc4 BK871; obtain ⟨hcz29_0, hcz29_1, hfz29_0, hfz29_1⟩ := xc2 BK865) | (go_at_call 135; (with_reducible refine (wa1 A16.out _).mono ?_); rintro e w30a ⟨gq1, rfl, hs_⟩; have HS1 := Aside0.mk hs_; clear hs_) | (go_at_call 76; (with_reducible refine (wa2 A16.out HS1.out).mono ?_); rintro e w30 ⟨rfl, hb⟩; clear HS1; replace HO_10 := Aside0.mk (Kd.R_below (by (with_reducible repeat (first | apply Kd.R_alloc | apply Kd.R_drewN | apply Kd.R_drew)); exact (Kd.R_mono (Kd.R_far (p := ⟨gb871, 0, none⟩) (Kd.R_far (p := ⟨gb871, 3, none⟩) (Kd.R_far (p := ⟨gb871, 2, none⟩) (Kd.R_far (p := ⟨gb871, 1, none⟩) (Kd.R_far (p := ⟨gb871, 0, none⟩) (Kd.R_mono HO_10.out (fun k_ hk => (⟨hk, hk.2⟩ : _ ∧ k_ ≠ gb871))) (fun _ hk => hk.2) (.int .i64 ((rd_T77 l1 x21_1).f0))) (fun _ hk => hk.2) (.int .i64 ((rd_T77 l1 x21_1).f1))) (fun _ hk => hk.2) (.int .i64 ((rd_T77 l1 x21_1).f2))) (fun _ hk => hk.2) (.int .i64 ((rd_T77 l1 x21_1).f3))) (fun _ hk => hk.2) (.int .i64 (wrap64 ((ji10) - (ji9))))) (fun _ h_ => h_.1))) hb); replace BK865 := Aside0.mk (blk_below (g := gb865) (o := .cells #[.int .i64 a0_0, .int .i64 a0_1] 79 (0, 0)) (by (with_reducible repeat (first | refine blk_drewN ?_ _ | refine blk_drew ?_ | refine blk_alloc ?_ _)); refine blk_far ?_ NB865_871.out _; (with_reducible repeat (first | refine blk_drewN ?_ _ | refine blk_drew ?_ | refine blk_alloc ?_ _)); refine blk_far ?_ NB865_871.out _; (with_reducible repeat (first | refine blk_drewN ?_ _ | refine blk_drew ?_ | refine blk_alloc ?_ _)); refine blk_far ?_ NB865_871.out _; (with_reducible repeat (first | refine blk_drewN ?_ _ | refine blk_drew ?_ | refine blk_alloc ?_ _)); refine blk_far ?_ NB865_871.out _; (with_reducible repeat (first | refine blk_drewN ?_ _ | refine blk_drew ?_ | refine blk_alloc ?_ _)); refine blk_far ?_ NB865_871.out _; (with_reducible repeat (first | refine blk_drewN ?_ _ | refine blk_drew ?_ | refine blk_alloc ?_ _)); exact BK865.out) hb); replace BK871 := Aside0.mk (blk_below (g := gb871) (o := .cells #[.int .i64 (wrap64 ((ji10) - (ji9))), .int .i64 ((rd_T77 l1 x21_1).f1), .int .i64 ((rd_T77 l1 x21_1).f2), .int .i64 ((rd_T77 l1 x21_1).f3)] 77 (0, 0)) (by (with_reducible repeat (first | refine blk_drewN ?_ _ | refine blk_drew ?_ | refine blk_alloc ?_ _)); refine blk_put (cs := #[.int .i64 ((rd_T77 l1 x21_1).f0), .int .i64 ((rd_T77 l1 x21_1).f1), .int .i64 ((rd_T77 l1 x21_1).f2), .int .i64 ((rd_T77 l1 x21_1).f3)]) ?_ 0 _ rfl; (with_reducible repeat (first | refine blk_drewN ?_ _ | refine blk_drew ?_ | refine blk_alloc ?_ _)); refine blk_put (cs := #[.int .i64 ((rd_T77 l1 x21_1).f0), .int .i64 ((rd_T77 l1 x21_1).f1), .int .i64 ((rd_T77 l1 x21_1).f2), .int .i64 0]) ?_ 3 _ rfl; (with_reducible repeat (first | refine blk_drewN ?_ _ | refine blk_drew ?_ | refine blk_alloc ?_ _)); refine blk_put (cs := #[.int .i64 ((rd_T77 l1 x21_1).f0), .int .i64 ((rd_T77 l1 x21_1).f1), .int .i64 0, .int .i64 0]) ?_ 2 _ rfl; (with_reducible repeat (first | refine blk_drewN ?_ _ | refine blk_drew ?_ | refine blk_alloc ?_ _)); refine blk_put (cs := #[.int .i64 ((rd_T77 l1 x21_1).f0), .int .i64 0, .int .i64 0, .int .i64 0]) ?_ 1 _ rfl; (with_reducible repeat (first | refine blk_drewN ?_ _ | refine blk_drew ?_ | refine blk_alloc ?_ _)); refine blk_put (cs := #[.int .i64 0, .int .i64 0, .int .i64 0, .int .i64 0]) ?_ 0 _ rfl; (with_reducible repeat (first | refine blk_drewN ?_ _ | refine blk_drew ?_ | refine blk_alloc ?_ _)); exact BK871.out) hb); replace HB := bp hb; clear hb))
         repeat (go_quiet (first | ((with_reducible refine gate_dst (N := 13) rfl ?_); refine zB 13 77 #[.int .i64 0, .int .i64 0, .int .i64 0, .int .i64 0] ?_; intro gb871 hg w26 hbox hb; replace HO_10 := Aside0.mk (Kd.R_below (Kd.R_elderB (rz HO_10) gb871 (Nat.le_of_eq hg.symm)) hb); have BK871 := Aside0.mk hbox; have GW871 := gz hg; have GE871 := gz hg; replace HB := bp hb; have NB865_871 := Aside0.mk ((by rw [hg]; exact Nat.ne_of_lt (bl BK865) : gb865 ≠ gb871)); have NB871_865 := Aside0.mk ((by rw [hg]; exact Nat.ne_of_gt (bl BK865) : gb871 ≠ gb865)); replace BK865 := kb BK865 hb; clear hb hbox hg; have hnb27 := NB871_865.out; have hnc27 := NB865_871.out; obtain ⟨hcz28_0, hcz28_1, hcz28_2, hcz28_3, hfz28_0, hfz28_1, hfz28_2, hfz28_3⟩ := xc4 BK871; obtain ⟨hcz29_0, hcz29_1, hfz29_0, hfz29_1⟩ := xc2 BK865) | (go_at_call 135; (with_reducible refine (wa1 A16.out _).mono ?_); rintro e w30a ⟨gq1, rfl, hs_⟩; have HS1 := Aside0.mk hs_; clear hs_) | (go_at_call 76; (with_reducible refine (wa2 A16.out HS1.out).mono ?_); rintro e w30 ⟨rfl, hb⟩; clear HS1; have n0_ := Aside0.mk (Kd.R_below (by (with_reducible repeat (first | apply Kd.R_alloc | apply Kd.R_drewN | apply Kd.R_drew)); exact (Kd.R_mono (Kd.R_far (p := ⟨gb871, 0, none⟩) (Kd.R_far (p := ⟨gb871, 3, none⟩) (Kd.R_far (p := ⟨gb871, 2, none⟩) (Kd.R_far (p := ⟨gb871, 1, none⟩) (Kd.R_far (p := ⟨gb871, 0, none⟩) (Kd.R_mono HO_10.out (fun k_ hk => (⟨hk, hk.2⟩ : _ ∧ k_ ≠ gb871))) (fun _ hk => hk.2) (.int .i64 ((rd_T77 l1 x21_1).f0))) (fun _ hk => hk.2) (.int .i64 ((rd_T77 l1 x21_1).f1))) (fun _ hk => hk.2) (.int .i64 ((rd_T77 l1 x21_1).f2))) (fun _ hk => hk.2) (.int .i64 ((rd_T77 l1 x21_1).f3))) (fun _ hk => hk.2) (.int .i64 (wrap64 ((ji10) - (ji9))))) (fun _ h_ => h_.1))) hb); have n1_ := Aside0.mk (blk_below (g := gb865) (o := .cells #[.int .i64 a0_0, .int .i64 a0_1] 79 (0, 0)) (by (with_reducible repeat (first | refine blk_drewN ?_ _ | refine blk_drew ?_ | refine blk_alloc ?_ _)); refine blk_far ?_ NB865_871.out _; (with_reducible repeat (first | refine blk_drewN ?_ _ | refine blk_drew ?_ | refine blk_alloc ?_ _)); refine blk_far ?_ NB865_871.out _; (with_reducible repeat (first | refine blk_drewN ?_ _ | refine blk_drew ?_ | refine blk_alloc ?_ _)); refine blk_far ?_ NB865_871.out _; (with_reducible repeat (first | refine blk_drewN ?_ _ | refine blk_drew ?_ | refine blk_alloc ?_ _)); refine blk_far ?_ NB865_871.out _; (with_reducible repeat (first | refine blk_drewN ?_ _ | refine blk_drew ?_ | refine blk_alloc ?_ _)); refine blk_far ?_ NB865_871.out _; (with_reducible repeat (first | refine blk_drewN ?_ _ | refine blk_drew ?_ | refine blk_alloc ?_ _)); exact BK865.out) hb); have n2_ := Aside0.mk (blk_below (g := gb871) (o := .cells #[.int .i64 (wrap64 ((ji10) - (ji9))), .int .i64 ((rd_T77 l1 x21_1).f1), .int .i64 ((rd_T77 l1 x21_1).f2), .int .i64 ((rd_T77 l1 x21_1).f3)] 77 (0, 0)) (by (with_reducible repeat (first | refine blk_drewN ?_ _ | refine blk_drew ?_ | refine blk_alloc ?_ _)); refine blk_put (cs := #[.int .i64 ((rd_T77 l1 x21_1).f0), .int .i64 ((rd_T77 l1 x21_1).f1), .int .i64 ((rd_T77 l1 x21_1).f2), .int .i64 ((rd_T77 l1 x21_1).f3)]) ?_ 0 _ rfl; (with_reducible repeat (first | refine blk_drewN ?_ _ | refine blk_drew ?_ | refine blk_alloc ?_ _)); refine blk_put (cs := #[.int .i64 ((rd_T77 l1 x21_1).f0), .int .i64 ((rd_T77 l1 x21_1).f1), .int .i64 ((rd_T77 l1 x21_1).f2), .int .i64 0]) ?_ 3 _ rfl; (with_reducible repeat (first | refine blk_drewN ?_ _ | refine blk_drew ?_ | refine blk_alloc ?_ _)); refine blk_put (cs := #[.int .i64 ((rd_T77 l1 x21_1).f0), .int .i64 ((rd_T77 l1 x21_1).f1), .int .i64 0, .int .i64 0]) ?_ 2 _ rfl; (with_reducible repeat (first | refine blk_drewN ?_ _ | refine blk_drew ?_ | refine blk_alloc ?_ _)); refine blk_put (cs := #[.int .i64 ((rd_T77 l1 x21_1).f0), .int .i64 0, .int .i64 0, .int .i64 0]) ?_ 1 _ rfl; (with_reducible repeat (first | refine blk_drewN ?_ _ | refine blk_drew ?_ | refine blk_alloc ?_ _)); refine blk_put (cs := #[.int .i64 0, .int .i64 0, .int .i64 0, .int .i64 0]) ?_ 0 _ rfl; (with_reducible repeat (first | refine blk_drewN ?_ _ | refine blk_drew ?_ | refine blk_alloc ?_ _)); exact BK871.out) hb); have n3_ := bp hb; clear HO_10; clear BK865; clear BK871; clear HB; have HO_10 := n0_; have BK865 := n1_; have BK871 := n2_; have HB := n3_; clear n0_ n1_ n2_ n3_; (try clear hb); (try clear hb2); (try clear hk); (try clear hi))); try go_wp2_with (first | ((with_reducible refine gate_dst (N := 13) rfl ?_); refine zB 13 77 #[.int .i64 0, .int .i64 0, .int .i64 0, .int .i64 0] ?_; intro gb871 hg w26 hbox hb; replace HO_10 := Aside0.mk (Kd.R_below (Kd.R_elderB (rz HO_10) gb871 (Nat.le_of_eq hg.symm)) hb); have BK871 := Aside0.mk hbox; have GW871 := gz hg; have GE871 := gz hg; replace HB := bp hb; have NB865_871 := Aside0.mk ((by rw [hg]; exact Nat.ne_of_lt (bl BK865) : gb865 ≠ gb871)); have NB871_865 := Aside0.mk ((by rw [hg]; exact Nat.ne_of_gt (bl BK865) : gb871 ≠ gb865)); replace BK865 := kb BK865 hb; clear hb hbox hg; have hnb27 := NB871_865.out; have hnc27 := NB865_871.out; obtain ⟨hcz28_0, hcz28_1, hcz28_2, hcz28_3, hfz28_0, hfz28_1, hfz28_2, hfz28_3⟩ := xc4 BK871; obtain ⟨hcz29_0, hcz29_1, hfz29_0, hfz29_1⟩ := xc2 BK865) | (go_at_call 135; (with_reducible refine (wa1 A16.out _).mono ?_); rintro e w30a ⟨gq1, rfl, hs_⟩; have HS1 := Aside0.mk hs_; clear hs_) | (go_at_call 76; (with_reducible refine (wa2 A16.out HS1.out).mono ?_); rintro e w30 ⟨rfl, hb⟩; clear HS1; replace HO_10 := Aside0.mk (Kd.R_below (by (with_reducible repeat (first | apply Kd.R_alloc | apply Kd.R_drewN | apply Kd.R_drew)); exact (Kd.R_mono (Kd.R_far (p := ⟨gb871, 0, none⟩) (Kd.R_far (p := ⟨gb871, 3, none⟩) (Kd.R_far (p := ⟨gb871, 2, none⟩) (Kd.R_far (p := ⟨gb871, 1, none⟩) (Kd.R_far (p := ⟨gb871, 0, none⟩) (Kd.R_mono HO_10.out (fun k_ hk => (⟨hk, hk.2⟩ : _ ∧ k_ ≠ gb871))) (fun _ hk => hk.2) (.int .i64 ((rd_T77 l1 x21_1).f0))) (fun _ hk => hk.2) (.int .i64 ((rd_T77 l1 x21_1).f1))) (fun _ hk => hk.2) (.int .i64 ((rd_T77 l1 x21_1).f2))) (fun _ hk => hk.2) (.int .i64 ((rd_T77 l1 x21_1).f3))) (fun _ hk => hk.2) (.int .i64 (wrap64 ((ji10) - (ji9))))) (fun _ h_ => h_.1))) hb); replace BK865 := Aside0.mk (blk_below (g := gb865) (o := .cells #[.int .i64 a0_0, .int .i64 a0_1] 79 (0, 0)) (by (with_reducible repeat (first | refine blk_drewN ?_ _ | refine blk_drew ?_ | refine blk_alloc ?_ _)); refine blk_far ?_ NB865_871.out _; (with_reducible repeat (first | refine blk_drewN ?_ _ | refine blk_drew ?_ | refine blk_alloc ?_ _)); refine blk_far ?_ NB865_871.out _; (with_reducible repeat (first | refine blk_drewN ?_ _ | refine blk_drew ?_ | refine blk_alloc ?_ _)); refine blk_far ?_ NB865_871.out _; (with_reducible repeat (first | refine blk_drewN ?_ _ | refine blk_drew ?_ | refine blk_alloc ?_ _)); refine blk_far ?_ NB865_871.out _; (with_reducible repeat (first | refine blk_drewN ?_ _ | refine blk_drew ?_ | refine blk_alloc ?_ _)); refine blk_far ?_ NB865_871.out _; (with_reducible repeat (first | refine blk_drewN ?_ _ | refine blk_drew ?_ | refine blk_alloc ?_ _)); exact BK865.out) hb); replace BK871 := Aside0.mk (blk_below (g := gb871) (o := .cells #[.int .i64 (wrap64 ((ji10) - (ji9))), .int .i64 ((rd_T77 l1 x21_1).f1), .int .i64 ((rd_T77 l1 x21_1).f2), .int .i64 ((rd_T77 l1 x21_1).f3)] 77 (0, 0)) (by (with_reducible repeat (first | refine blk_drewN ?_ _ | refine blk_drew ?_ | refine blk_alloc ?_ _)); refine blk_put (cs := #[.int .i64 ((rd_T77 l1 x21_1).f0), .int .i64 ((rd_T77 l1 x21_1).f1), .int .i64 ((rd_T77 l1 x21_1).f2), .int .i64 ((rd_T77 l1 x21_1).f3)]) ?_ 0 _ rfl; (with_reducible repeat (first | refine blk_drewN ?_ _ | refine blk_drew ?_ | refine blk_alloc ?_ _)); refine blk_put (cs := #[.int .i64 ((rd_T77 l1 x21_1).f0), .int .i64 ((rd_T77 l1 x21_1).f1), .int .i64 ((rd_T77 l1 x21_1).f2), .int .i64 0]) ?_ 3 _ rfl; (with_reducible repeat (first | refine blk_drewN ?_ _ | refine blk_drew ?_ | refine blk_alloc ?_ _)); refine blk_put (cs := #[.int .i64 ((rd_T77 l1 x21_1).f0), .int .i64 ((rd_T77 l1 x21_1).f1), .int .i64 0, .int .i64 0]) ?_ 2 _ rfl; (with_reducible repeat (first | refine blk_drewN ?_ _ | refine blk_drew ?_ | refine blk_alloc ?_ _)); refine blk_put (cs := #[.int .i64 ((rd_T77 l1 x21_1).f0), .int .i64 0, .int .i64 0, .int .i64 0]) ?_ 1 _ rfl; (with_reducible repeat (first | refine blk_drewN ?_ _ | refine blk_drew ?_ | refine blk_alloc ?_ _)); refine blk_put (cs := #[.int .i64 0, .int .i64 0, .int .i64 0, .int .i64 0]) ?_ 0 _ rfl; (with_reducible repeat (first | refine blk_drewN ?_ _ | refine blk_drew ?_ | refine blk_alloc ?_ _)); exact BK871.out) hb); replace HB := bp hb; clear hb; (try clear hi))))
         go_ret2
         exact ⟨_, by first | rfl | (simp [errW_none, errW_some] <;> rfl) | (simp only [← hji9, ← hji10]; first | rfl | (simp [errW_none, errW_some] <;> rfl)) | (simp [*, errW_none, errW_some] <;> rfl), by first | exact Kd.R_nil _ _ _ _ _ | exact Kd.N_nil _ _ _ _ _ | exact Kd.V_nil _ _ _ _ _ | exact Kd.Q_nil _ _ _ _ _ | exact Kd.S_nil _ _ _ _ _, bz⟩
       ·rw [if_neg c15] at H; have c15b0 : decide (0 ≤ ((rd_T77 l1 x21_1).f1)) = false := decide_eq_false c15; clear c15
        by_cases c31 : x10_1.length < 4398046511104
        ·rw [if_pos c31] at H; have LMc31 := Aside0.mk c31; clear c31; obtain ⟨y877, hy877⟩ : ∃ y_ : List (S77), y_ = (x10_1 ++ [(⟨wrap64 ((ji10) - (ji9)), (rd_T77 l1 x21_1).f1, (rd_T77 l1 x21_1).f2, (rd_T77 l1 x21_1).f3⟩ : S77)]) := ⟨_, rfl⟩; replace H : (edit_clocks_cut.l0 k1 a2 a3 y877 (wrap64 (x11_1 + ((rd_T77 l1 x21_1).f0))) l1 (l1.length : Int) (wrap64 (x21_1 + 1)) a0_0 a0_1) = some (r1, r2) := by first | (rw [hy877]; with_reducible exact H) | (have H2_ := (Option.bind_some _ _).symm.trans H; rw [hy877]; with_reducible exact H2_) | (have H2_ := (Option.bind_some _ _).symm.trans H; with_reducible exact H2_) | with_reducible exact H | (rw [hy877]; exact H) | exact H
         have Ny877 := Aside0.mk hy877; clear hy877; have H' := Aside0.mk H; clear H; have p870 : 0 ≤ (x21_1 : Int) := od; have q870 : x21_1 < (l1.length : Int) := od; obtain ⟨ad870, e870, hx870_0, hx870_1, hx870_2, hx870_3⟩ := at_T77 HR1.out x21_1 p870 q870
         cases e870
         replace hx870_0 := cl HB hx870_0; replace hx870_1 := cl HB hx870_1; replace hx870_2 := cl HB hx870_2; replace hx870_3 := cl HB hx870_3; replace p870 := eq_true p870; replace q870 := eq_true q870
         go_wp2_with (first | ((with_reducible refine gate_dst (N := 13) rfl ?_); refine zB 13 77 #[.int .i64 0, .int .i64 0, .int .i64 0, .int .i64 0] ?_; intro gb871 hg w32 hbox hb; replace HO_10 := Aside0.mk (Kd.R_below (Kd.R_elderB (rz HO_10) gb871 (Nat.le_of_eq hg.symm)) hb); have BK871 := Aside0.mk hbox; have GW871 := gz hg; have GE871 := gz hg; replace HB := bp hb; have NB865_871 := Aside0.mk ((by rw [hg]; exact Nat.ne_of_lt (bl BK865) : gb865 ≠ gb871)); have NB871_865 := Aside0.mk ((by rw [hg]; exact Nat.ne_of_gt (bl BK865) : gb871 ≠ gb865)); replace BK865 := kb BK865 hb; clear hb hbox hg; have hnb33 := NB871_865.out; have hnc33 := NB865_871.out; obtain ⟨hcz34_0, hcz34_1, hcz34_2, hcz34_3, hfz34_0, hfz34_1, hfz34_2, hfz34_3⟩ := xc4 BK871) | ((with_reducible refine gate_builtin (b := .append) (xs := #[.tmp 64, .tmp 66]) rfl ?_); at_builtin; refine Kd.R_append k77 (w0 := w) w.heap.size rfl (.tmp 64) (.tmp 66) 22 77 (.agg #[(.int .i64 0), (.int .i64 0), (.int .i64 0), (.int .i64 0)]) 32 rfl Try.underlying22 info77 rfl (by decide) (by omega) u10 x10_1 (⟨wrap64 ((ji10) - (ji9)), (rd_T77 l1 x21_1).f1, (rd_T77 l1 x21_1).f2, (rd_T77 l1 x21_1).f3⟩ : S77) [.int .i64 (wrap64 ((ji10) - (ji9))), .int .i64 ((rd_T77 l1 x21_1).f1), .int .i64 ((rd_T77 l1 x21_1).f2), .int .i64 ((rd_T77 l1 x21_1).f3)] (fun k_ => k_ ≠ gb871) (fun _ => False) rfl (by first | (go_simp; done) | (go_simp; rfl)) ?aP (fun _ hk => hk.elim) ?aF ?aO ?aB ?aS ?aL ?_; (case aP => exact k77_mkM _ _ _ (⟨wrap64 ((ji10) - (ji9)), (rd_T77 l1 x21_1).f1, (rd_T77 l1 x21_1).f2, (rd_T77 l1 x21_1).f3⟩ : S77)); (case aB => exact bz); (case aF => exact (fun k_ hk => Kd.freshB (g := gb871) (o := .cells #[.int .i64 (wrap64 ((ji10) - (ji9))), .int .i64 ((rd_T77 l1 x21_1).f1), .int .i64 ((rd_T77 l1 x21_1).f2), .int .i64 ((rd_T77 l1 x21_1).f3)] 77 (0, 0)) (by (with_reducible repeat (first | refine blk_drewN ?_ _ | refine blk_drew ?_ | refine blk_alloc ?_ _)); refine blk_put (cs := #[.int .i64 ((rd_T77 l1 x21_1).f0), .int .i64 ((rd_T77 l1 x21_1).f1), .int .i64 ((rd_T77 l1 x21_1).f2), .int .i64 ((rd_T77 l1 x21_1).f3)]) ?_ 0 _ rfl; (with_reducible repeat (first | refine blk_drewN ?_ _ | refine blk_drew ?_ | refine blk_alloc ?_ _)); refine blk_put (cs := #[.int .i64 ((rd_T77 l1 x21_1).f0), .int .i64 ((rd_T77 l1 x21_1).f1), .int .i64 ((rd_T77 l1 x21_1).f2), .int .i64 0]) ?_ 3 _ rfl; (with_reducible repeat (first | refine blk_drewN ?_ _ | refine blk_drew ?_ | refine blk_alloc ?_ _)); refine blk_put (cs := #[.int .i64 ((rd_T77 l1 x21_1).f0), .int .i64 ((rd_T77 l1 x21_1).f1), .int .i64 0, .int .i64 0]) ?_ 2 _ rfl; (with_reducible repeat (first | refine blk_drewN ?_ _ | refine blk_drew ?_ | refine blk_alloc ?_ _)); refine blk_put (cs := #[.int .i64 ((rd_T77 l1 x21_1).f0), .int .i64 0, .int .i64 0, .int .i64 0]) ?_ 1 _ rfl; (with_reducible repeat (first | refine blk_drewN ?_ _ | refine blk_drew ?_ | refine blk_alloc ?_ _)); refine blk_put (cs := #[.int .i64 0, .int .i64 0, .int .i64 0, .int .i64 0]) ?_ 0 _ rfl; (with_reducible repeat (first | refine blk_drewN ?_ _ | refine blk_drew ?_ | refine blk_alloc ?_ _)); exact BK871.out) k_ hk)); (case aO => exact (by (with_reducible repeat (first | apply Kd.R_alloc | apply Kd.R_drewN | apply Kd.R_drew)); exact Kd.R_mono (Kd.R_far (p := ⟨gb871, 0, none⟩) (Kd.R_far (p := ⟨gb871, 3, none⟩) (Kd.R_far (p := ⟨gb871, 2, none⟩) (Kd.R_far (p := ⟨gb871, 1, none⟩) (Kd.R_far (p := ⟨gb871, 0, none⟩) (Kd.R_mono HO_10.out (fun k_ hk => (⟨hk, hk.2⟩ : _ ∧ k_ ≠ gb871))) (fun _ hk => hk.2) (.int .i64 ((rd_T77 l1 x21_1).f0))) (fun _ hk => hk.2) (.int .i64 ((rd_T77 l1 x21_1).f1))) (fun _ hk => hk.2) (.int .i64 ((rd_T77 l1 x21_1).f2))) (fun _ hk => hk.2) (.int .i64 ((rd_T77 l1 x21_1).f3))) (fun _ hk => hk.2) (.int .i64 (wrap64 ((ji10) - (ji9))))) (fun _ hk => hk.1.2))); (case aS => exact sz); (case aL => have := LMc31.out; omega); intro v878 w35 ho hb hg hat; rw [← Ny877.out] at ho; replace BK865 := Aside0.mk (blk_grown (g := gb865) (o := .cells #[.int .i64 a0_0, .int .i64 a0_1] 79 (0, 0)) (by (with_reducible repeat (first | refine blk_drewN ?_ _ | refine blk_drew ?_ | refine blk_alloc ?_ _)); refine blk_far ?_ NB865_871.out _; (with_reducible repeat (first | refine blk_drewN ?_ _ | refine blk_drew ?_ | refine blk_alloc ?_ _)); refine blk_far ?_ NB865_871.out _; (with_reducible repeat (first | refine blk_drewN ?_ _ | refine blk_drew ?_ | refine blk_alloc ?_ _)); refine blk_far ?_ NB865_871.out _; (with_reducible repeat (first | refine blk_drewN ?_ _ | refine blk_drew ?_ | refine blk_alloc ?_ _)); refine blk_far ?_ NB865_871.out _; (with_reducible repeat (first | refine blk_drewN ?_ _ | refine blk_drew ?_ | refine blk_alloc ?_ _)); refine blk_far ?_ NB865_871.out _; (with_reducible repeat (first | refine blk_drewN ?_ _ | refine blk_drew ?_ | refine blk_alloc ?_ _)); exact BK865.out) hg (Kd.R_ne HO_10.out BK865.out (by decide))); replace BK871 := Aside0.mk (blk_grown (g := gb871) (o := .cells #[.int .i64 (wrap64 ((ji10) - (ji9))), .int .i64 ((rd_T77 l1 x21_1).f1), .int .i64 ((rd_T77 l1 x21_1).f2), .int .i64 ((rd_T77 l1 x21_1).f3)] 77 (0, 0)) (by (with_reducible repeat (first | refine blk_drewN ?_ _ | refine blk_drew ?_ | refine blk_alloc ?_ _)); refine blk_put (cs := #[.int .i64 ((rd_T77 l1 x21_1).f0), .int .i64 ((rd_T77 l1 x21_1).f1), .int .i64 ((rd_T77 l1 x21_1).f2), .int .i64 ((rd_T77 l1 x21_1).f3)]) ?_ 0 _ rfl; (with_reducible repeat (first | refine blk_drewN ?_ _ | refine blk_drew ?_ | refine blk_alloc ?_ _)); refine blk_put (cs := #[.int .i64 ((rd_T77 l1 x21_1).f0), .int .i64 ((rd_T77 l1 x21_1).f1), .int .i64 ((rd_T77 l1 x21_1).f2), .int .i64 0]) ?_ 3 _ rfl; (with_reducible repeat (first | refine blk_drewN ?_ _ | refine blk_drew ?_ | refine blk_alloc ?_ _)); refine blk_put (cs := #[.int .i64 ((rd_T77 l1 x21_1).f0), .int .i64 ((rd_T77 l1 x21_1).f1), .int .i64 0, .int .i64 0]) ?_ 2 _ rfl; (with_reducible repeat (first | refine blk_drewN ?_ _ | refine blk_drew ?_ | refine blk_alloc ?_ _)); refine blk_put (cs := #[.int .i64 ((rd_T77 l1 x21_1).f0), .int .i64 0, .int .i64 0, .int .i64 0]) ?_ 1 _ rfl; (with_reducible repeat (first | refine blk_drewN ?_ _ | refine blk_drew ?_ | refine blk_alloc ?_ _)); refine blk_put (cs := #[.int .i64 0, .int .i64 0, .int .i64 0, .int .i64 0]) ?_ 0 _ rfl; (with_reducible repeat (first | refine blk_drewN ?_ _ | refine blk_drew ?_ | refine blk_alloc ?_ _)); exact BK871.out) hg (Kd.R_away HO_10.out (fun _ hk => hk.2))); replace HB := Aside0.mk (hb); have HO879 := Aside0.mk (ho); clear HO_10; clear ho hb hg hat))
         repeat (go_quiet (first | ((with_reducible refine gate_dst (N := 13) rfl ?_); refine zB 13 77 #[.int .i64 0, .int .i64 0, .int .i64 0, .int .i64 0] ?_; intro gb871 hg w32 hbox hb; replace HO_10 := Aside0.mk (Kd.R_below (Kd.R_elderB (rz HO_10) gb871 (Nat.le_of_eq hg.symm)) hb); have BK871 := Aside0.mk hbox; have GW871 := gz hg; have GE871 := gz hg; replace HB := bp hb; have NB865_871 := Aside0.mk ((by rw [hg]; exact Nat.ne_of_lt (bl BK865) : gb865 ≠ gb871)); have NB871_865 := Aside0.mk ((by rw [hg]; exact Nat.ne_of_gt (bl BK865) : gb871 ≠ gb865)); replace BK865 := kb BK865 hb; clear hb hbox hg; have hnb33 := NB871_865.out; have hnc33 := NB865_871.out; obtain ⟨hcz34_0, hcz34_1, hcz34_2, hcz34_3, hfz34_0, hfz34_1, hfz34_2, hfz34_3⟩ := xc4 BK871) | ((with_reducible refine gate_builtin (b := .append) (xs := #[.tmp 64, .tmp 66]) rfl ?_); at_builtin; refine Kd.R_append k77 (w0 := w) w.heap.size rfl (.tmp 64) (.tmp 66) 22 77 (.agg #[(.int .i64 0), (.int .i64 0), (.int .i64 0), (.int .i64 0)]) 32 rfl Try.underlying22 info77 rfl (by decide) (by omega) u10 x10_1 (⟨wrap64 ((ji10) - (ji9)), (rd_T77 l1 x21_1).f1, (rd_T77 l1 x21_1).f2, (rd_T77 l1 x21_1).f3⟩ : S77) [.int .i64 (wrap64 ((ji10) - (ji9))), .int .i64 ((rd_T77 l1 x21_1).f1), .int .i64 ((rd_T77 l1 x21_1).f2), .int .i64 ((rd_T77 l1 x21_1).f3)] (fun k_ => k_ ≠ gb871) (fun _ => False) rfl (by first | (go_simp; done) | (go_simp; rfl)) ?aP (fun _ hk => hk.elim) ?aF ?aO ?aB ?aS ?aL ?_; (case aP => exact k77_mkM _ _ _ (⟨wrap64 ((ji10) - (ji9)), (rd_T77 l1 x21_1).f1, (rd_T77 l1 x21_1).f2, (rd_T77 l1 x21_1).f3⟩ : S77)); (case aB => exact bz); (case aF => exact (fun k_ hk => Kd.freshB (g := gb871) (o := .cells #[.int .i64 (wrap64 ((ji10) - (ji9))), .int .i64 ((rd_T77 l1 x21_1).f1), .int .i64 ((rd_T77 l1 x21_1).f2), .int .i64 ((rd_T77 l1 x21_1).f3)] 77 (0, 0)) (by (with_reducible repeat (first | refine blk_drewN ?_ _ | refine blk_drew ?_ | refine blk_alloc ?_ _)); refine blk_put (cs := #[.int .i64 ((rd_T77 l1 x21_1).f0), .int .i64 ((rd_T77 l1 x21_1).f1), .int .i64 ((rd_T77 l1 x21_1).f2), .int .i64 ((rd_T77 l1 x21_1).f3)]) ?_ 0 _ rfl; (with_reducible repeat (first | refine blk_drewN ?_ _ | refine blk_drew ?_ | refine blk_alloc ?_ _)); refine blk_put (cs := #[.int .i64 ((rd_T77 l1 x21_1).f0), .int .i64 ((rd_T77 l1 x21_1).f1), .int .i64 ((rd_T77 l1 x21_1).f2), .int .i64 0]) ?_ 3 _ rfl; (with_reducible repeat (first | refine blk_drewN ?_ _ | refine blk_drew ?_ | refine blk_alloc ?_ _)); refine blk_put (cs := #[.int .i64 ((rd_T77 l1 x21_1).f0), .int .i64 ((rd_T77 l1 x21_1).f1), .int .i64 0, .int .i64 0]) ?_ 2 _ rfl; (with_reducible repeat (first | refine blk_drewN ?_ _ | refine blk_drew ?_ | refine blk_alloc ?_ _)); refine blk_put (cs := #[.int .i64 ((rd_T77 l1 x21_1).f0), .int .i64 0, .int .i64 0, .int .i64 0]) ?_ 1 _ rfl; (with_reducible repeat (first | refine blk_drewN ?_ _ | refine blk_drew ?_ | refine blk_alloc ?_ _)); refine blk_put (cs := #[.int .i64 0, .int .i64 0, .int .i64 0, .int .i64 0]) ?_ 0 _ rfl; (with_reducible repeat (first | refine blk_drewN ?_ _ | refine blk_drew ?_ | refine blk_alloc ?_ _)); exact BK871.out) k_ hk)); (case aO => exact (by (with_reducible repeat (first | apply Kd.R_alloc | apply Kd.R_drewN | apply Kd.R_drew)); exact Kd.R_mono (Kd.R_far (p := ⟨gb871, 0, none⟩) (Kd.R_far (p := ⟨gb871, 3, none⟩) (Kd.R_far (p := ⟨gb871, 2, none⟩) (Kd.R_far (p := ⟨gb871, 1, none⟩) (Kd.R_far (p := ⟨gb871, 0, none⟩) (Kd.R_mono HO_10.out (fun k_ hk => (⟨hk, hk.2⟩ : _ ∧ k_ ≠ gb871))) (fun _ hk => hk.2) (.int .i64 ((rd_T77 l1 x21_1).f0))) (fun _ hk => hk.2) (.int .i64 ((rd_T77 l1 x21_1).f1))) (fun _ hk => hk.2) (.int .i64 ((rd_T77 l1 x21_1).f2))) (fun _ hk => hk.2) (.int .i64 ((rd_T77 l1 x21_1).f3))) (fun _ hk => hk.2) (.int .i64 (wrap64 ((ji10) - (ji9))))) (fun _ hk => hk.1.2))); (case aS => exact sz); (case aL => have := LMc31.out; omega); intro v878 w35 ho hb hg hat; rw [← Ny877.out] at ho; have n0_ := Aside0.mk (blk_grown (g := gb865) (o := .cells #[.int .i64 a0_0, .int .i64 a0_1] 79 (0, 0)) (by (with_reducible repeat (first | refine blk_drewN ?_ _ | refine blk_drew ?_ | refine blk_alloc ?_ _)); refine blk_far ?_ NB865_871.out _; (with_reducible repeat (first | refine blk_drewN ?_ _ | refine blk_drew ?_ | refine blk_alloc ?_ _)); refine blk_far ?_ NB865_871.out _; (with_reducible repeat (first | refine blk_drewN ?_ _ | refine blk_drew ?_ | refine blk_alloc ?_ _)); refine blk_far ?_ NB865_871.out _; (with_reducible repeat (first | refine blk_drewN ?_ _ | refine blk_drew ?_ | refine blk_alloc ?_ _)); refine blk_far ?_ NB865_871.out _; (with_reducible repeat (first | refine blk_drewN ?_ _ | refine blk_drew ?_ | refine blk_alloc ?_ _)); refine blk_far ?_ NB865_871.out _; (with_reducible repeat (first | refine blk_drewN ?_ _ | refine blk_drew ?_ | refine blk_alloc ?_ _)); exact BK865.out) hg (Kd.R_ne HO_10.out BK865.out (by decide))); have n1_ := Aside0.mk (blk_grown (g := gb871) (o := .cells #[.int .i64 (wrap64 ((ji10) - (ji9))), .int .i64 ((rd_T77 l1 x21_1).f1), .int .i64 ((rd_T77 l1 x21_1).f2), .int .i64 ((rd_T77 l1 x21_1).f3)] 77 (0, 0)) (by (with_reducible repeat (first | refine blk_drewN ?_ _ | refine blk_drew ?_ | refine blk_alloc ?_ _)); refine blk_put (cs := #[.int .i64 ((rd_T77 l1 x21_1).f0), .int .i64 ((rd_T77 l1 x21_1).f1), .int .i64 ((rd_T77 l1 x21_1).f2), .int .i64 ((rd_T77 l1 x21_1).f3)]) ?_ 0 _ rfl; (with_reducible repeat (first | refine blk_drewN ?_ _ | refine blk_drew ?_ | refine blk_alloc ?_ _)); refine blk_put (cs := #[.int .i64 ((rd_T77 l1 x21_1).f0), .int .i64 ((rd_T77 l1 x21_1).f1), .int .i64 ((rd_T77 l1 x21_1).f2), .int .i64 0]) ?_ 3 _ rfl; (with_reducible repeat (first | refine blk_drewN ?_ _ | refine blk_drew ?_ | refine blk_alloc ?_ _)); refine blk_put (cs := #[.int .i64 ((rd_T77 l1 x21_1).f0), .int .i64 ((rd_T77 l1 x21_1).f1), .int .i64 0, .int .i64 0]) ?_ 2 _ rfl; (with_reducible repeat (first | refine blk_drewN ?_ _ | refine blk_drew ?_ | refine blk_alloc ?_ _)); refine blk_put (cs := #[.int .i64 ((rd_T77 l1 x21_1).f0), .int .i64 0, .int .i64 0, .int .i64 0]) ?_ 1 _ rfl; (with_reducible repeat (first | refine blk_drewN ?_ _ | refine blk_drew ?_ | refine blk_alloc ?_ _)); refine blk_put (cs := #[.int .i64 0, .int .i64 0, .int .i64 0, .int .i64 0]) ?_ 0 _ rfl; (with_reducible repeat (first | refine blk_drewN ?_ _ | refine blk_drew ?_ | refine blk_alloc ?_ _)); exact BK871.out) hg (Kd.R_away HO_10.out (fun _ hk => hk.2))); have n2_ := Aside0.mk (hb); have n3_ := Aside0.mk (ho); clear BK865; clear BK871; clear HB; clear HO_10; have BK865 := n0_; have BK871 := n1_; have HB := n2_; have HO879 := n3_; clear n0_ n1_ n2_ n3_; clear ho hb hg hat)); try go_wp2_with (first | ((with_reducible refine gate_dst (N := 13) rfl ?_); refine zB 13 77 #[.int .i64 0, .int .i64 0, .int .i64 0, .int .i64 0] ?_; intro gb871 hg w32 hbox hb; replace HO_10 := Aside0.mk (Kd.R_below (Kd.R_elderB (rz HO_10) gb871 (Nat.le_of_eq hg.symm)) hb); have BK871 := Aside0.mk hbox; have GW871 := gz hg; have GE871 := gz hg; replace HB := bp hb; have NB865_871 := Aside0.mk ((by rw [hg]; exact Nat.ne_of_lt (bl BK865) : gb865 ≠ gb871)); have NB871_865 := Aside0.mk ((by rw [hg]; exact Nat.ne_of_gt (bl BK865) : gb871 ≠ gb865)); replace BK865 := kb BK865 hb; clear hb hbox hg; have hnb33 := NB871_865.out; have hnc33 := NB865_871.out; obtain ⟨hcz34_0, hcz34_1, hcz34_2, hcz34_3, hfz34_0, hfz34_1, hfz34_2, hfz34_3⟩ := xc4 BK871) | ((with_reducible refine gate_builtin (b := .append) (xs := #[.tmp 64, .tmp 66]) rfl ?_); at_builtin; refine Kd.R_append k77 (w0 := w) w.heap.size rfl (.tmp 64) (.tmp 66) 22 77 (.agg #[(.int .i64 0), (.int .i64 0), (.int .i64 0), (.int .i64 0)]) 32 rfl Try.underlying22 info77 rfl (by decide) (by omega) u10 x10_1 (⟨wrap64 ((ji10) - (ji9)), (rd_T77 l1 x21_1).f1, (rd_T77 l1 x21_1).f2, (rd_T77 l1 x21_1).f3⟩ : S77) [.int .i64 (wrap64 ((ji10) - (ji9))), .int .i64 ((rd_T77 l1 x21_1).f1), .int .i64 ((rd_T77 l1 x21_1).f2), .int .i64 ((rd_T77 l1 x21_1).f3)] (fun k_ => k_ ≠ gb871) (fun _ => False) rfl (by first | (go_simp; done) | (go_simp; rfl)) ?aP (fun _ hk => hk.elim) ?aF ?aO ?aB ?aS ?aL ?_; (case aP => exact k77_mkM _ _ _ (⟨wrap64 ((ji10) - (ji9)), (rd_T77 l1 x21_1).f1, (rd_T77 l1 x21_1).f2, (rd_T77 l1 x21_1).f3⟩ : S77)); (case aB => exact bz); (case aF => exact (fun k_ hk => Kd.freshB (g := gb871) (o := .cells #[.int .i64 (wrap64 ((ji10) - (ji9))), .int .i64 ((rd_T77 l1 x21_1).f1), .int .i64 ((rd_T77 l1 x21_1).f2), .int .i64 ((rd_T77 l1 x21_1).f3)] 77 (0, 0)) (by (with_reducible repeat (first | refine blk_drewN ?_ _ | refine blk_drew ?_ | refine blk_alloc ?_ _)); refine blk_put (cs := #[.int .i64 ((rd_T77 l1 x21_1).f0), .int .i64 ((rd_T77 l1 x21_1).f1), .int .i64 ((rd_T77 l1 x21_1).f2), .int .i64 ((rd_T77 l1 x21_1).f3)]) ?_ 0 _ rfl; (with_reducible repeat (first | refine blk_drewN ?_ _ | refine blk_drew ?_ | refine blk_alloc ?_ _)); refine blk_put (cs := #[.int .i64 ((rd_T77 l1 x21_1).f0), .int .i64 ((rd_T77 l1 x21_1).f1), .int .i64 ((rd_T77 l1 x21_1).f2), .int .i64 0]) ?_ 3 _ rfl; (with_reducible repeat (first | refine blk_drewN ?_ _ | refine blk_drew ?_ | refine blk_alloc ?_ _)); refine blk_put (cs := #[.int .i64 ((rd_T77 l1 x21_1).f0), .int .i64 ((rd_T77 l1 x21_1).f1), .int .i64 0, .int .i64 0]) ?_ 2 _ rfl; (with_reducible repeat (first | refine blk_drewN ?_ _ | refine blk_drew ?_ | refine blk_alloc ?_ _)); refine blk_put (cs := #[.int .i64 ((rd_T77 l1 x21_1).f0), .int .i64 0, .int .i64 0, .int .i64 0]) ?_ 1 _ rfl; (with_reducible repeat (first | refine blk_drewN ?_ _ | refine blk_drew ?_ | refine blk_alloc ?_ _)); refine blk_put (cs := #[.int .i64 0, .int .i64 0, .int .i64 0, .int .i64 0]) ?_ 0 _ rfl; (with_reducible repeat (first | refine blk_drewN ?_ _ | refine blk_drew ?_ | refine blk_alloc ?_ _)); exact BK871.out) k_ hk)); (case aO => exact (by (with_reducible repeat (first | apply Kd.R_alloc | apply Kd.R_drewN | apply Kd.R_drew)); exact Kd.R_mono (Kd.R_far (p := ⟨gb871, 0, none⟩) (Kd.R_far (p := ⟨gb871, 3, none⟩) (Kd.R_far (p := ⟨gb871, 2, none⟩) (Kd.R_far (p := ⟨gb871, 1, none⟩) (Kd.R_far (p := ⟨gb871, 0, none⟩) (Kd.R_mono HO_10.out (fun k_ hk => (⟨hk, hk.2⟩ : _ ∧ k_ ≠ gb871))) (fun _ hk => hk.2) (.int .i64 ((rd_T77 l1 x21_1).f0))) (fun _ hk => hk.2) (.int .i64 ((rd_T77 l1 x21_1).f1))) (fun _ hk => hk.2) (.int .i64 ((rd_T77 l1 x21_1).f2))) (fun _ hk => hk.2) (.int .i64 ((rd_T77 l1 x21_1).f3))) (fun _ hk => hk.2) (.int .i64 (wrap64 ((ji10) - (ji9))))) (fun _ hk => hk.1.2))); (case aS => exact sz); (case aL => have := LMc31.out; omega); intro v878 w35 ho hb hg hat; rw [← Ny877.out] at ho; replace BK865 := Aside0.mk (blk_grown (g := gb865) (o := .cells #[.int .i64 a0_0, .int .i64 a0_1] 79 (0, 0)) (by (with_reducible repeat (first | refine blk_drewN ?_ _ | refine blk_drew ?_ | refine blk_alloc ?_ _)); refine blk_far ?_ NB865_871.out _; (with_reducible repeat (first | refine blk_drewN ?_ _ | refine blk_drew ?_ | refine blk_alloc ?_ _)); refine blk_far ?_ NB865_871.out _; (with_reducible repeat (first | refine blk_drewN ?_ _ | refine blk_drew ?_ | refine blk_alloc ?_ _)); refine blk_far ?_ NB865_871.out _; (with_reducible repeat (first | refine blk_drewN ?_ _ | refine blk_drew ?_ | refine blk_alloc ?_ _)); refine blk_far ?_ NB865_871.out _; (with_reducible repeat (first | refine blk_drewN ?_ _ | refine blk_drew ?_ | refine blk_alloc ?_ _)); refine blk_far ?_ NB865_871.out _; (with_reducible repeat (first | refine blk_drewN ?_ _ | refine blk_drew ?_ | refine blk_alloc ?_ _)); exact BK865.out) hg (Kd.R_ne HO_10.out BK865.out (by decide))); replace BK871 := Aside0.mk (blk_grown (g := gb871) (o := .cells #[.int .i64 (wrap64 ((ji10) - (ji9))), .int .i64 ((rd_T77 l1 x21_1).f1), .int .i64 ((rd_T77 l1 x21_1).f2), .int .i64 ((rd_T77 l1 x21_1).f3)] 77 (0, 0)) (by (with_reducible repeat (first | refine blk_drewN ?_ _ | refine blk_drew ?_ | refine blk_alloc ?_ _)); refine blk_put (cs := #[.int .i64 ((rd_T77 l1 x21_1).f0), .int .i64 ((rd_T77 l1 x21_1).f1), .int .i64 ((rd_T77 l1 x21_1).f2), .int .i64 ((rd_T77 l1 x21_1).f3)]) ?_ 0 _ rfl; (with_reducible repeat (first | refine blk_drewN ?_ _ | refine blk_drew ?_ | refine blk_alloc ?_ _)); refine blk_put (cs := #[.int .i64 ((rd_T77 l1 x21_1).f0), .int .i64 ((rd_T77 l1 x21_1).f1), .int .i64 ((rd_T77 l1 x21_1).f2), .int .i64 0]) ?_ 3 _ rfl; (with_reducible repeat (first | refine blk_drewN ?_ _ | refine blk_drew ?_ | refine blk_alloc ?_ _)); refine blk_put (cs := #[.int .i64 ((rd_T77 l1 x21_1).f0), .int .i64 ((rd_T77 l1 x21_1).f1), .int .i64 0, .int .i64 0]) ?_ 2 _ rfl; (with_reducible repeat (first | refine blk_drewN ?_ _ | refine blk_drew ?_ | refine blk_alloc ?_ _)); refine blk_put (cs := #[.int .i64 ((rd_T77 l1 x21_1).f0), .int .i64 0, .int .i64 0, .int .i64 0]) ?_ 1 _ rfl; (with_reducible repeat (first | refine blk_drewN ?_ _ | refine blk_drew ?_ | refine blk_alloc ?_ _)); refine blk_put (cs := #[.int .i64 0, .int .i64 0, .int .i64 0, .int .i64 0]) ?_ 0 _ rfl; (with_reducible repeat (first | refine blk_drewN ?_ _ | refine blk_drew ?_ | refine blk_alloc ?_ _)); exact BK871.out) hg (Kd.R_away HO_10.out (fun _ hk => hk.2))); replace HB := Aside0.mk (hb); have HO879 := Aside0.mk (ho); clear HO_10; clear ho hb hg hat)))
         go_roundg k1
         case measure => have := HK1.out; omega
         case rel => exact ⟨(y877), (wrap64 (x11_1 + ((rd_T77 l1 x21_1).f0))), (wrap64 (x21_1 + 1)), jz, jz, H', ⟨by have := HK1.out; omega⟩, ⟨by (with_reducible repeat (first | apply Kd.R_alloc | apply Kd.R_drewN | apply Kd.R_drew)); exact Kd.R_mono HO879.out (fun _ hk => trivial)⟩, ⟨kz⟩, ⟨bz⟩⟩
        ·rw [if_neg c31] at H
         exact absurd H (by simp)
     ·rw [if_neg c8] at H
      exact absurd H (by simp)
    ·rw [if_neg c7] at H
     exact absurd H (by simp)
   ·rw [if_neg c6] at H; have c6b0 : decide (x21_1 < (l1.length : Int)) = false := decide_eq_false c6; clear c6; obtain ⟨⟨t866, t869⟩, A36, H⟩ := ob H
    (try dsimp only at H)
    simp only [Option.some.injEq, Prod.mk.injEq] at H; obtain ⟨rfl, rfl⟩ := H; obtain ⟨hcz37_0, hcz37_1, hfz37_0, hfz37_1⟩ := xc2 BK865; obtain ⟨Ao38, co38, eo38⟩ := Kd.R_slice HO_10.out; subst eo38
    go_wp2_with (first | (go_at_call 57; (with_reducible refine (edit_clocks_normal.calls k1 a0_0 a0_1 _ _ x10_1 t866 t869 _ ?side1 ?side2 A36.out).mono ?_); (case side1 => exact cr HO_10); (case side2 => exact (Kd.R_reads' HO_10.out).2.1); rintro e w39 ⟨v867, rfl, ho0, hb⟩; have HO868 := Aside0.mk (Kd.R_lower (Kd.R_new' ho0 (Kd.R_lt (rz HO_10))) sz); replace HO_10 := Aside0.mk (Kd.R_elder' (rz HO_10) (Kd.R_base ho0) hb); replace BK865 := kb BK865 hb; replace HB := bp hb; clear hb ho0))
    repeat (go_quiet (first | (go_at_call 57; (with_reducible refine (edit_clocks_normal.calls k1 a0_0 a0_1 _ _ x10_1 t866 t869 _ ?side1 ?side2 A36.out).mono ?_); (case side1 => exact cr HO_10); (case side2 => exact (Kd.R_reads' HO_10.out).2.1); rintro e w39 ⟨v867, rfl, ho0, hb⟩; have n0_ := Aside0.mk (Kd.R_elder' (rz HO_10) (Kd.R_base ho0) hb); have n1_ := Aside0.mk (Kd.R_lower (Kd.R_new' ho0 (Kd.R_lt (rz HO_10))) sz); have n2_ := kb BK865 hb; have n3_ := bp hb; clear HO_10; clear BK865; clear HB; have HO_10 := n0_; have HO868 := n1_; have BK865 := n2_; have HB := n3_; clear n0_ n1_ n2_ n3_; (try clear hb); (try clear hb2); (try clear hk); (try clear hi); (try clear ho0))); try go_wp2_with (first | (go_at_call 57; (with_reducible refine (edit_clocks_normal.calls k1 a0_0 a0_1 _ _ x10_1 t866 t869 _ ?side1 ?side2 A36.out).mono ?_); (case side1 => exact cr HO_10); (case side2 => exact (Kd.R_reads' HO_10.out).2.1); rintro e w39 ⟨v867, rfl, ho0, hb⟩; have HO868 := Aside0.mk (Kd.R_lower (Kd.R_new' ho0 (Kd.R_lt (rz HO_10))) sz); replace HO_10 := Aside0.mk (Kd.R_elder' (rz HO_10) (Kd.R_base ho0) hb); replace BK865 := kb BK865 hb; replace HB := bp hb; clear hb; (try clear ho0))))
    go_ret2
    exact ⟨_, ez, by (with_reducible repeat (first | apply Kd.R_alloc | apply Kd.R_drewN | apply Kd.R_drew)); exact Kd.R_mono HO868.out (fun _ hk => trivial), bz⟩
def edit_Cut.f (k : Nat) (l0 : List (S77)) (a1 : Int) (a2 : Int) (a3 : Int) (a4 : Int) : Option ((List (S77)) × Int) := (edit_Check.f k l0 a1 a2).bind fun t880 => (if t880 = 0 then ((edit_isTick.f a3).bind fun t881 => (if t881 = true then ((edit_isTick.f a4).bind fun t882 => (if t882 = true then (if a4 < a3 then (some (([] : List (S77)), 1)) else ((edit_clocks_cut.f k a1 a2 l0 a3 a4).bind fun bt883 => (some (bt883.1, bt883.2)))) else (some (([] : List (S77)), 1)))) else (some (([] : List (S77)), 1)))) else (some (([] : List (S77)), t880)))
set_option maxHeartbeats 8000000 in
set_option maxRecDepth 100000 in
theorem edit_Cut.calls (k : Nat) (A0 : Option Addr) (c0 : Nat) (l0 : List (S77)) (a1 : Int) (a2 : Int) (a3 : Int) (a4 : Int) (r1 : List (S77)) (r2 : Int) (w : World) (hr0 : Kd.C k77 w A0 l0.length l0) (hc0 : l0.length ≤ c0) (h : edit_Cut.f k l0 a1 a2 a3 a4 = some (r1, r2)) :
  Calls Try.prog 38 #[.slice A0 l0.length c0, .int .i64 a1, .int .i64 a2, .int .i64 a3, .int .i64 a4] w fun e w' => ∃ v0_ : Value, e = .returned (.tuple #[v0_, .int .i64 r2]) ∧ Kd.R k77 77 w' w.heap.size (fun _ => True) v0_ r1 ∧ Below w.heap.size w w' := by
 have hu79 := Try.underlying79; have HR0 := Aside0.mk hr0; have HC0 := Aside0.mk hc0; clear hr0 hc0; have HB := Aside0.mk (Below.refl w.heap.size w); have H : ((edit_Check.f k l0 a1 a2).bind fun t880 => (if t880 = 0 then ((edit_isTick.f a3).bind fun t881 => (if t881 = true then ((edit_isTick.f a4).bind fun t882 => (if t882 = true then (if a4 < a3 then (some (([] : List (S77)), 1)) else ((edit_clocks_cut.f k a1 a2 l0 a3 a4).bind fun bt883 => (some (bt883.1, bt883.2)))) else (some (([] : List (S77)), 1)))) else (some (([] : List (S77)), 1)))) else (some (([] : List (S77)), t880)))) = some (r1, r2) := h
 clear h; obtain ⟨t880, A6, H⟩ := ob H
 by_cases c7 : t880 = 0
 ·rw [if_pos c7] at H; have c7b0 : (t880 == 0) = true := beq_iff_eq.mpr c7; have c7b1 : (t880 != 0) = false := bne_eq_false_iff_eq.mpr c7; clear c7; obtain ⟨t881, A8, H⟩ := ob H
  by_cases c9 : t881 = true
  ·subst c9; rw [if_pos rfl] at H; obtain ⟨t882, A10, H⟩ := ob H
   by_cases c11 : t882 = true
   ·subst c11; rw [if_pos rfl] at H
    by_cases c12 : a4 < a3
    ·rw [if_pos c12] at H; have c12b0 : decide (a4 < a3) = true := decide_eq_true c12; clear c12; simp only [Option.some.injEq, Prod.mk.injEq] at H; obtain ⟨rfl, rfl⟩ := H
     go_enter Try.func38, Try.ntmps38
     go_wp2_with (first | ((with_reducible refine gate_callee (f := 24) rfl ?_); refine zC 16 Try.func24 #[.slice A0 l0.length c0, .int .i64 a1, .int .i64 a2] ?_; (with_reducible refine (edit_Check.calls k _ _ l0 a1 a2 t880 _ ?side1 ?side2 A6.out).mono ?_); (case side1 => repeat (first | exact HR0.out | (with_reducible refine Kd.C_alloc ?_ _) | (with_reducible refine Kd.C_drewN ?_ _) | (with_reducible refine Kd.C_drew ?_))); (case side2 => exact HC0.out); rintro e w13 ⟨rfl, hb⟩; refine ⟨_, rfl, ?_⟩; replace HB := bp hb; clear hb) | ((with_reducible refine gate_callee (f := 92) rfl ?_); refine zC 21 Try.func92 #[.int .i64 a3] ?_; (with_reducible refine (edit_isTick.calls a3 true _ A8.out).mono ?_); rintro e w' ⟨rfl, ⟨nd, rfl⟩⟩; refine ⟨_, rfl, ?_⟩) | (go_at_call 92; (with_reducible refine (edit_isTick.calls a4 true _ A10.out).mono ?_); rintro e w' ⟨rfl, ⟨nd, rfl⟩⟩))
     go_ret2
     exact ⟨_, ez, by first | exact Kd.R_nil _ _ _ _ _ | exact Kd.N_nil _ _ _ _ _ | exact Kd.V_nil _ _ _ _ _ | exact Kd.Q_nil _ _ _ _ _ | exact Kd.S_nil _ _ _ _ _, bz⟩
    ·rw [if_neg c12] at H; have c12b0 : decide (a4 < a3) = false := decide_eq_false c12; clear c12; obtain ⟨⟨t883, t886⟩, A14, H⟩ := ob H
     (try dsimp only at H)
     simp only [Option.some.injEq, Prod.mk.injEq] at H; obtain ⟨rfl, rfl⟩ := H
     go_enter Try.func38, Try.ntmps38
     go_wp2_with (first | ((with_reducible refine gate_callee (f := 24) rfl ?_); refine zC 16 Try.func24 #[.slice A0 l0.length c0, .int .i64 a1, .int .i64 a2] ?_; (with_reducible refine (edit_Check.calls k _ _ l0 a1 a2 t880 _ ?side1 ?side2 A6.out).mono ?_); (case side1 => repeat (first | exact HR0.out | (with_reducible refine Kd.C_alloc ?_ _) | (with_reducible refine Kd.C_drewN ?_ _) | (with_reducible refine Kd.C_drew ?_))); (case side2 => exact HC0.out); rintro e w15 ⟨rfl, hb⟩; refine ⟨_, rfl, ?_⟩; replace HB := bp hb; clear hb) | ((with_reducible refine gate_callee (f := 92) rfl ?_); refine zC 21 Try.func92 #[.int .i64 a3] ?_; (with_reducible refine (edit_isTick.calls a3 true _ A8.out).mono ?_); rintro e w' ⟨rfl, ⟨nd, rfl⟩⟩; refine ⟨_, rfl, ?_⟩) | (go_at_call 92; (with_reducible refine (edit_isTick.calls a4 true _ A10.out).mono ?_); rintro e w' ⟨rfl, ⟨nd, rfl⟩⟩) | ((with_reducible refine gate_callee (f := 93) rfl ?_); refine zC 39 Try.func93 #[.agg #[.int .i64 a1, .int .i64 a2], .slice A0 l0.length c0, .int .i64 a3, .int .i64 a4] ?_; (with_reducible refine (edit_clocks_cut.calls k a1 a2 _ _ l0 a3 a4 t883 t886 _ ?side1 ?side2 A14.out).mono ?_); (case side1 => repeat (first | exact (Kd.C_below HR0.out bz) | (with_reducible refine Kd.C_alloc ?_ _) | (with_reducible refine Kd.C_drewN ?_ _) | (with_reducible refine Kd.C_drew ?_))); (case side2 => exact HC0.out); rintro e w16 ⟨v884, rfl, ho0, hb⟩; refine ⟨_, rfl, ?_⟩; have HO885 := Aside0.mk (Kd.R_lower ho0 sz); replace HB := bp hb; clear hb ho0))
     go_ret2
     exact ⟨_, ez, by (with_reducible repeat (first | apply Kd.R_alloc | apply Kd.R_drewN | apply Kd.R_drew)); exact HO885.out, bz⟩
   ·obtain rfl := bf c11; rw [if_neg (show ¬ (false = true) by decide)] at H; simp only [Option.some.injEq, Prod.mk.injEq] at H; obtain ⟨rfl, rfl⟩ := H
    go_enter Try.func38, Try.ntmps38
    go_wp2_with (first | ((with_reducible refine gate_callee (f := 24) rfl ?_); refine zC 16 Try.func24 #[.slice A0 l0.length c0, .int .i64 a1, .int .i64 a2] ?_; (with_reducible refine (edit_Check.calls k _ _ l0 a1 a2 t880 _ ?side1 ?side2 A6.out).mono ?_); (case side1 => repeat (first | exact HR0.out | (with_reducible refine Kd.C_alloc ?_ _) | (with_reducible refine Kd.C_drewN ?_ _) | (with_reducible refine Kd.C_drew ?_))); (case side2 => exact HC0.out); rintro e w17 ⟨rfl, hb⟩; refine ⟨_, rfl, ?_⟩; replace HB := bp hb; clear hb) | ((with_reducible refine gate_callee (f := 92) rfl ?_); refine zC 21 Try.func92 #[.int .i64 a3] ?_; (with_reducible refine (edit_isTick.calls a3 true _ A8.out).mono ?_); rintro e w' ⟨rfl, ⟨nd, rfl⟩⟩; refine ⟨_, rfl, ?_⟩) | (go_at_call 92; (with_reducible refine (edit_isTick.calls a4 false _ A10.out).mono ?_); rintro e w' ⟨rfl, ⟨nd, rfl⟩⟩))
    go_ret2
    exact ⟨_, ez, by first | exact Kd.R_nil _ _ _ _ _ | exact Kd.N_nil _ _ _ _ _ | exact Kd.V_nil _ _ _ _ _ | exact Kd.Q_nil _ _ _ _ _ | exact Kd.S_nil _ _ _ _ _, bz⟩
  ·obtain rfl := bf c9; rw [if_neg (show ¬ (false = true) by decide)] at H; simp only [Option.some.injEq, Prod.mk.injEq] at H; obtain ⟨rfl, rfl⟩ := H
   go_enter Try.func38, Try.ntmps38
   go_wp2_with (first | ((with_reducible refine gate_callee (f := 24) rfl ?_); refine zC 16 Try.func24 #[.slice A0 l0.length c0, .int .i64 a1, .int .i64 a2] ?_; (with_reducible refine (edit_Check.calls k _ _ l0 a1 a2 t880 _ ?side1 ?side2 A6.out).mono ?_); (case side1 => repeat (first | exact HR0.out | (with_reducible refine Kd.C_alloc ?_ _) | (with_reducible refine Kd.C_drewN ?_ _) | (with_reducible refine Kd.C_drew ?_))); (case side2 => exact HC0.out); rintro e w18 ⟨rfl, hb⟩; refine ⟨_, rfl, ?_⟩; replace HB := bp hb; clear hb) | ((with_reducible refine gate_callee (f := 92) rfl ?_); refine zC 21 Try.func92 #[.int .i64 a3] ?_; (with_reducible refine (edit_isTick.calls a3 false _ A8.out).mono ?_); rintro e w' ⟨rfl, ⟨nd, rfl⟩⟩; refine ⟨_, rfl, ?_⟩))
   go_ret2
   exact ⟨_, ez, by first | exact Kd.R_nil _ _ _ _ _ | exact Kd.N_nil _ _ _ _ _ | exact Kd.V_nil _ _ _ _ _ | exact Kd.Q_nil _ _ _ _ _ | exact Kd.S_nil _ _ _ _ _, bz⟩
 ·rw [if_neg c7] at H; have c7b0 : (t880 == 0) = false := beq_eq_false_iff_ne.mpr c7; have c7b1 : (t880 != 0) = true := bne_iff_ne.mpr c7; simp only [Option.some.injEq, Prod.mk.injEq] at H; obtain ⟨rfl, rfl⟩ := H
  go_enter Try.func38, Try.ntmps38
  go_wp2_with (first | ((with_reducible refine gate_callee (f := 24) rfl ?_); refine zC 16 Try.func24 #[.slice A0 l0.length c0, .int .i64 a1, .int .i64 a2] ?_; (with_reducible refine (edit_Check.calls k _ _ l0 a1 a2 t880 _ ?side1 ?side2 A6.out).mono ?_); (case side1 => repeat (first | exact HR0.out | (with_reducible refine Kd.C_alloc ?_ _) | (with_reducible refine Kd.C_drewN ?_ _) | (with_reducible refine Kd.C_drew ?_))); (case side2 => exact HC0.out); rintro e w19 ⟨rfl, hb⟩; refine ⟨_, rfl, ?_⟩; replace HB := bp hb; clear hb))
  go_ret2
  exact ⟨_, ez, by first | exact Kd.R_nil _ _ _ _ _ | exact Kd.N_nil _ _ _ _ _ | exact Kd.V_nil _ _ _ _ _ | exact Kd.Q_nil _ _ _ _ _ | exact Kd.S_nil _ _ _ _ _, bz⟩
def dioramaref02_isTick.f (a0 : Int) : Option (Bool) := if a0 ≥ (-1099511627776) then (some (decide (a0 ≤ 1099511627776))) else (some false)
set_option maxHeartbeats 8000000 in
set_option maxRecDepth 100000 in
theorem dioramaref02_isTick.calls (a0 : Int) (r : Bool) (w : World) (h : dioramaref02_isTick.f a0 = some r) :
  Calls Try.prog 96 #[.int .i64 a0] w fun e w' => e = .returned (.bool r) ∧ Drawn0 w w' := by
 have H : (if a0 ≥ (-1099511627776) then (some (decide (a0 ≤ 1099511627776))) else (some false)) = some r := h; clear h
 by_cases c2 : a0 ≥ (-1099511627776)
 ·rw [if_pos c2] at H; have c2b0 : decide ((-1099511627776) ≤ a0) = true := decide_eq_true c2; clear c2; obtain rfl := Option.some.inj H
  go_enter Try.func96, Try.ntmps96
  go_wp2
  go_ret
  exact ⟨by first | rfl | (simp; done) | (simp [*]; done), by repeat (first | exact Drawn0.refl _ | apply Drawn0.step)⟩
 ·rw [if_neg c2] at H; have c2b0 : decide ((-1099511627776) ≤ a0) = false := decide_eq_false c2; clear c2; obtain rfl := Option.some.inj H
  go_enter Try.func96, Try.ntmps96
  go_wp2
  go_ret
  exact ⟨by first | rfl | (simp; done) | (simp [*]; done), by repeat (first | exact Drawn0.refl _ | apply Drawn0.step)⟩
def dioramaref02_isScale.f (a0 : Int) : Option (Bool) := if a0 ≥ 1 then (some (decide (a0 ≤ 1000000))) else (some false)
set_option maxHeartbeats 8000000 in
set_option maxRecDepth 100000 in
theorem dioramaref02_isScale.calls (a0 : Int) (r : Bool) (w : World) (h : dioramaref02_isScale.f a0 = some r) :
  Calls Try.prog 97 #[.int .i64 a0] w fun e w' => e = .returned (.bool r) ∧ Drawn0 w w' := by
 have H : (if a0 ≥ 1 then (some (decide (a0 ≤ 1000000))) else (some false)) = some r := h; clear h
 by_cases c2 : a0 ≥ 1
 ·rw [if_pos c2] at H; have c2b0 : decide (1 ≤ a0) = true := decide_eq_true c2; clear c2; obtain rfl := Option.some.inj H
  go_enter Try.func97, Try.ntmps97
  go_wp2
  go_ret
  exact ⟨by first | rfl | (simp; done) | (simp [*]; done), by repeat (first | exact Drawn0.refl _ | apply Drawn0.step)⟩
 ·rw [if_neg c2] at H; have c2b0 : decide (1 ≤ a0) = false := decide_eq_false c2; clear c2; obtain rfl := Option.some.inj H
  go_enter Try.func97, Try.ntmps97
  go_wp2
  go_ret
  exact ⟨by first | rfl | (simp; done) | (simp [*]; done), by repeat (first | exact Drawn0.refl _ | apply Drawn0.step)⟩
def dioramaref02_From.j0 : Nat → Int → Int → Bool → Option (Int × Int × Int)
  | 0, _, _, _ => none
  | k + 1, x0, x1, x13 => if x13 = true then (some (0, 0, 1)) else ((dioramaref02_RatOf.f k x0 x1).bind fun bt890 => ((dioramaref02_Time.f k bt890.1 bt890.2.1 bt890.2.2).bind fun bt897 => (some (bt897.1, bt897.2.1, bt897.2.2))))
def dioramaref02_From.f (k : Nat) (a0 : Int) (a1 : Int) : Option (Int × Int × Int) := (dioramaref02_isTick.f a0).bind fun t888 => (if t888 = true then ((dioramaref02_isScale.f a1).bind fun t889 => (dioramaref02_From.j0 k a0 a1 (!t889))) else (dioramaref02_From.j0 k a0 a1 true))
set_option maxHeartbeats 8000000 in
set_option maxRecDepth 100000 in
theorem dioramaref02_From.calls (k : Nat) (a0 : Int) (a1 : Int) (r1 : Int) (r2 : Int) (r3 : Int) (w : World) (h : dioramaref02_From.f k a0 a1 = some (r1, r2, r3)) :
  Calls Try.prog 43 #[.int .i64 a0, .int .i64 a1] w fun e w' => e = .returned (.tuple #[.agg #[.int .i64 r1, .int .i64 r2], .int .i64 r3]) ∧ Below w.heap.size w w' := by
 have hu37 := Try.underlying37; have HB := Aside0.mk (Below.refl w.heap.size w); have H : ((dioramaref02_isTick.f a0).bind fun t888 => (if t888 = true then ((dioramaref02_isScale.f a1).bind fun t889 => (dioramaref02_From.j0 k a0 a1 (!t889))) else (dioramaref02_From.j0 k a0 a1 true))) = some (r1, r2, r3) := h
 clear h; have HC3 := Aside0.mk H; clear H
 go_enter Try.func43, Try.ntmps43
 go_upto_region 1 with (first | ((with_reducible refine gate_dst (N := 4) rfl ?_); refine zB 4 37 #[.int .i64 0, .int .i64 0] ?_; intro gb887 hg w4 hbox hb; have BK887 := Aside0.mk hbox; have GW887 := gz hg; have GE887 := gz hg; replace HB := bp hb; clear hb hbox hg))
 (try simp only [Act.put, List.setIfInBounds_toArray, List.set_cons_zero, List.set_cons_succ])
 go_cut [13] (fun v13 wc => ∃ (kq : Nat) (x13_2 : Bool), v13 = .bool x13_2 ∧ Aside0 (dioramaref02_From.j0 kq a0 a1 x13_2 = some (r1, r2, r3)) ∧ Aside0 (kq ≤ k) ∧ Aside0 (wc.heap[gb887]? = some (.cells #[.int .i64 0, .int .i64 0] 37 (0, 0))) ∧ Aside0 (Below w.heap.size w wc))
 case first =>
  have H := HC3.out; clear HC3; obtain ⟨t888, A5, H⟩ := ob H
  by_cases c6 : t888 = true
  ·subst c6; rw [if_pos rfl] at H; obtain ⟨t889, A7, H⟩ := ob H; have H' := Aside0.mk H; clear H
   go_wp2_with (first | ((with_reducible refine gate_callee (f := 96) rfl ?_); refine zC 7 Try.func96 #[.int .i64 a0] ?_; (with_reducible refine (dioramaref02_isTick.calls a0 true _ A5.out).mono ?_); rintro e w' ⟨rfl, ⟨nd, rfl⟩⟩; refine ⟨_, rfl, ?_⟩) | (go_at_call 97; (with_reducible refine (dioramaref02_isScale.calls a1 t889 _ A7.out).mono ?_); rintro e w' ⟨rfl, ⟨nd, rfl⟩⟩))
   go_meet
   case rel => exact ⟨_, (!t889), jz, H', ⟨by first | omega | exact Nat.le_refl _⟩, ⟨kz⟩, ⟨bz⟩⟩
  ·obtain rfl := bf c6; rw [if_neg (show ¬ (false = true) by decide)] at H; have H' := Aside0.mk H; clear H
   go_wp2_with (first | ((with_reducible refine gate_callee (f := 96) rfl ?_); refine zC 7 Try.func96 #[.int .i64 a0] ?_; (with_reducible refine (dioramaref02_isTick.calls a0 false _ A5.out).mono ?_); rintro e w' ⟨rfl, ⟨nd, rfl⟩⟩; refine ⟨_, rfl, ?_⟩))
   go_meet
   case rel => exact ⟨_, (true), jz, H', ⟨by first | omega | exact Nat.le_refl _⟩, ⟨kz⟩, ⟨bz⟩⟩
 case rest =>
  clear HC3
  try clear p2
  try clear c4
  try clear c6
  obtain ⟨kq, x13_2, rfl, HA, HJ2, BK887, HB⟩ := hcut
  cases kq with
  | zero => exact absurd HA.out (by simp [dioramaref02_From.j0])
  | succ kj2 =>
   have H := HA.out; clear HA; simp only [dioramaref02_From.j0] at H
   by_cases c8 : x13_2 = true
   ·subst c8; rw [if_pos rfl] at H; simp only [Option.some.injEq, Prod.mk.injEq] at H; obtain ⟨rfl, rfl, rfl⟩ := H; obtain ⟨hcz9_0, hcz9_1, hfz9_0, hfz9_1⟩ := xc2 BK887
    go_wp2
    refine bodyPost_ret (results_ct rfl _ _ gb887 37 #[.int .i64 0, .int .i64 0] (0, 0) _ rfl (by (with_reducible repeat (first | refine blk_drewN ?_ _ | refine blk_drew ?_ | refine blk_alloc ?_ _)); refine blk_put (cs := #[.int .i64 0, .int .i64 0]) ?_ 1 _ rfl; (with_reducible repeat (first | refine blk_drewN ?_ _ | refine blk_drew ?_ | refine blk_alloc ?_ _)); refine blk_put (cs := #[.int .i64 0, .int .i64 0]) ?_ 0 _ rfl; (with_reducible repeat (first | refine blk_drewN ?_ _ | refine blk_drew ?_ | refine blk_alloc ?_ _)); exact BK887.out) Try.underlying37 rfl (by kernel_rfl)) rfl ?_
    exact ⟨ez, bz⟩
   ·obtain rfl := bf c8; rw [if_neg (show ¬ (false = true) by decide)] at H; obtain ⟨⟨t890, t891, t894⟩, A10, H⟩ := ob H
    (try dsimp only at H)
    obtain ⟨⟨t897, t898, t899⟩, A11, H⟩ := ob H
    (try dsimp only at H)
    simp only [Option.some.injEq, Prod.mk.injEq] at H; obtain ⟨rfl, rfl, rfl⟩ := H
    go_wp2_with (first | ((with_reducible refine gate_callee (f := 85) rfl ?_); refine zC 18 Try.func85 #[.agg #[.int .i64 a0, .int .i64 a1]] ?_; (with_reducible refine (dioramaref02_RatOf.calls kj2 a0 a1 t890 t891 t894 _ A10.out).mono ?_); rintro e w12 ⟨v892, v895, rfl, ho0, ho1, hb⟩; refine ⟨_, rfl, ?_⟩; have HO893 := Aside0.mk (Kd.R_lower ho0 sz); have HO896 := Aside0.mk (Kd.R_lower ho1 sz); replace BK887 := kb BK887 hb; replace HB := bp hb; clear hb ho0 ho1; obtain ⟨Ao13, co13, eo13⟩ := Kd.R_slice HO893.out; subst eo13; obtain ⟨Ao14, co14, eo14⟩ := Kd.R_slice HO896.out; subst eo14) | ((with_reducible refine gate_callee (f := 87) rfl ?_); refine zC 19 Try.func87 #[.agg #[.bool t890, .slice Ao13 t891.length co13, .slice Ao14 t894.length co14]] ?_; (with_reducible refine (dioramaref02_Time.calls kj2 t890 (fun k_ => some k_ = (.slice Ao13 t891.length co13 : Value).ownBlock) _ _ t891 (fun k_ => some k_ = (.slice Ao14 t894.length co14 : Value).ownBlock) _ _ t894 t897 t898 t899 _ ?side1 ?side2 A11.out).mono ?_); (case side1 => exact Kd.R_V (Kd.R_tight rfl (Kd.R_types (HO893.out) BK887.out (by decide)))); (case side2 => exact Kd.R_V (Kd.R_tight rfl (Kd.R_types (HO896.out) BK887.out (by decide)))); rintro e w15 ⟨rfl, hb⟩; refine ⟨_, rfl, ?_⟩; replace HO893 := Aside0.mk (Kd.R_below (rz HO893) hb); replace HO896 := Aside0.mk (Kd.R_below (rz HO896) hb); replace BK887 := kb BK887 hb; replace HB := bp hb; clear hb; obtain ⟨hcz16_0, hcz16_1, hfz16_0, hfz16_1⟩ := xc2 BK887))
    refine bodyPost_ret (results_ct rfl _ _ gb887 37 #[.int .i64 t897, .int .i64 t898] (0, 0) _ rfl (by (with_reducible repeat (first | refine blk_drewN ?_ _ | refine blk_drew ?_ | refine blk_alloc ?_ _)); refine blk_put (cs := #[.int .i64 t897, .int .i64 0]) ?_ 1 _ rfl; (with_reducible repeat (first | refine blk_drewN ?_ _ | refine blk_drew ?_ | refine blk_alloc ?_ _)); refine blk_put (cs := #[.int .i64 0, .int .i64 0]) ?_ 0 _ rfl; (with_reducible repeat (first | refine blk_drewN ?_ _ | refine blk_drew ?_ | refine blk_alloc ?_ _)); exact BK887.out) Try.underlying37 rfl (by kernel_rfl)) rfl ?_
    exact ⟨ez, bz⟩
def dioramaref02_Add.j0 : Nat → Bool → Int → Int → Int → Int → Option (Int × Int × Int)
  | 0, _, _, _, _, _ => none
  | k + 1, x13, x901000, x901001, x902000, x902001 => if x13 = true then (some (0, 0, 4)) else ((dioramaref02_RatOf.f k x901000 x901001).bind fun bt905 => ((dioramaref02_RatOf.f k x902000 x902001).bind fun bt912 => ((dioramaref02_Sum.f k bt905.1 bt905.2.1 bt905.2.2 bt912.1 bt912.2.1 bt912.2.2).bind fun bt919 => ((dioramaref02_Time.f k bt919.1 bt919.2.1 bt919.2.2).bind fun bt926 => (some (bt926.1, bt926.2.1, bt926.2.2))))))
def dioramaref02_Add.f (k : Nat) (a0_0 : Int) (a0_1 : Int) (a1_0 : Int) (a1_1 : Int) : Option (Int × Int × Int) := (dioramaref02_Valid.f a0_0 a0_1).bind fun t903 => (if t903 = true then ((dioramaref02_Valid.f a1_0 a1_1).bind fun t904 => (dioramaref02_Add.j0 k (!t904) a0_0 a0_1 a1_0 a1_1)) else (dioramaref02_Add.j0 k true a0_0 a0_1 a1_0 a1_1))
set_option maxHeartbeats 8000000 in
set_option maxRecDepth 100000 in
theorem dioramaref02_Add.calls (k : Nat) (a0_0 : Int) (a0_1 : Int) (a1_0 : Int) (a1_1 : Int) (r1 : Int) (r2 : Int) (r3 : Int) (w : World) (h : dioramaref02_Add.f k a0_0 a0_1 a1_0 a1_1 = some (r1, r2, r3)) :
  Calls Try.prog 44 #[.agg #[.int .i64 a0_0, .int .i64 a0_1], .agg #[.int .i64 a1_0, .int .i64 a1_1]] w fun e w' => e = .returned (.tuple #[.agg #[.int .i64 r1, .int .i64 r2], .int .i64 r3]) ∧ Below w.heap.size w w' := by
 have hu37 := Try.underlying37; have HB := Aside0.mk (Below.refl w.heap.size w); have H : ((dioramaref02_Valid.f a0_0 a0_1).bind fun t903 => (if t903 = true then ((dioramaref02_Valid.f a1_0 a1_1).bind fun t904 => (dioramaref02_Add.j0 k (!t904) a0_0 a0_1 a1_0 a1_1)) else (dioramaref02_Add.j0 k true a0_0 a0_1 a1_0 a1_1))) = some (r1, r2, r3) := h
 clear h; have HC3 := Aside0.mk H; clear H
 go_enter Try.func44, Try.ntmps44
 go_upto_region 1 with (first | ((with_reducible refine gate_dst (N := 2) rfl ?_); refine zB 2 37 #[.int .i64 a0_0, .int .i64 a0_1] ?_; intro gb900 hg w4 hbox hb; have BK900 := Aside0.mk hbox; have GW900 := gz hg; have GE900 := gz hg; replace HB := bp hb; clear hb hbox hg) | ((with_reducible refine gate_dst (N := 3) rfl ?_); refine zB 3 37 #[.int .i64 a1_0, .int .i64 a1_1] ?_; intro gb901 hg w5 hbox hb; have BK901 := Aside0.mk hbox; have GW901 := gz hg; have GE901 := gz hg; replace HB := bp hb; have NB900_901 := Aside0.mk ((by rw [hg]; exact Nat.ne_of_lt (bl BK900) : gb900 ≠ gb901)); have NB901_900 := Aside0.mk ((by rw [hg]; exact Nat.ne_of_gt (bl BK900) : gb901 ≠ gb900)); replace BK900 := kb BK900 hb; clear hb hbox hg) | ((with_reducible refine gate_dst (N := 4) rfl ?_); refine zB 4 37 #[.int .i64 0, .int .i64 0] ?_; intro gb902 hg w6 hbox hb; have BK902 := Aside0.mk hbox; have GW902 := gz hg; have GE902 := gz hg; replace HB := bp hb; have NB900_902 := Aside0.mk ((by rw [hg]; exact Nat.ne_of_lt (bl BK900) : gb900 ≠ gb902)); have NB902_900 := Aside0.mk ((by rw [hg]; exact Nat.ne_of_gt (bl BK900) : gb902 ≠ gb900)); replace BK900 := kb BK900 hb; have NB901_902 := Aside0.mk ((by rw [hg]; exact Nat.ne_of_lt (bl BK901) : gb901 ≠ gb902)); have NB902_901 := Aside0.mk ((by rw [hg]; exact Nat.ne_of_gt (bl BK901) : gb902 ≠ gb901)); replace BK901 := kb BK901 hb; clear hb hbox hg))
 (try simp only [Act.put, List.setIfInBounds_toArray, List.set_cons_zero, List.set_cons_succ])
 go_cut [13] (fun v13 wc => ∃ (kq : Nat) (x13_2 : Bool), v13 = .bool x13_2 ∧ Aside0 (dioramaref02_Add.j0 kq x13_2 a0_0 a0_1 a1_0 a1_1 = some (r1, r2, r3)) ∧ Aside0 (kq ≤ k) ∧ Aside0 (wc.heap[gb900]? = some (.cells #[.int .i64 a0_0, .int .i64 a0_1] 37 (0, 0))) ∧ Aside0 (wc.heap[gb901]? = some (.cells #[.int .i64 a1_0, .int .i64 a1_1] 37 (0, 0))) ∧ Aside0 (wc.heap[gb902]? = some (.cells #[.int .i64 0, .int .i64 0] 37 (0, 0))) ∧ Aside0 (Below w.heap.size w wc))
 case first =>
  have H := HC3.out; clear HC3; obtain ⟨t903, A7, H⟩ := ob H
  by_cases c8 : t903 = true
  ·subst c8; rw [if_pos rfl] at H; obtain ⟨t904, A9, H⟩ := ob H; have H' := Aside0.mk H; clear H; have hnb10 := NB900_901.out; have hnc10 := NB901_900.out; have hnb11 := NB900_902.out; have hnc11 := NB902_900.out; obtain ⟨hcz12_0, hcz12_1, hfz12_0, hfz12_1⟩ := xc2 BK900
   go_wp2_with (first | ((with_reducible refine gate_callee (f := 35) rfl ?_); refine zC 7 Try.func35 #[.agg #[.int .i64 a0_0, .int .i64 a0_1]] ?_; (with_reducible refine (dioramaref02_Valid.calls a0_0 a0_1 true _ A7.out).mono ?_); rintro e w13 ⟨rfl, hb⟩; refine ⟨_, rfl, ?_⟩; replace BK900 := kb BK900 hb; replace BK901 := kb BK901 hb; replace BK902 := kb BK902 hb; replace HB := bp hb; clear hb; have hnb14 := NB901_902.out; have hnc14 := NB902_901.out; obtain ⟨hcz15_0, hcz15_1, hfz15_0, hfz15_1⟩ := xc2 BK901) | (go_at_call 35; (with_reducible refine (dioramaref02_Valid.calls a1_0 a1_1 t904 _ A9.out).mono ?_); rintro e w16 ⟨rfl, hb⟩; replace BK900 := kb BK900 hb; replace BK901 := kb BK901 hb; replace BK902 := kb BK902 hb; replace HB := bp hb; clear hb))
   go_meet
   case rel => exact ⟨_, (!t904), jz, H', ⟨by first | omega | exact Nat.le_refl _⟩, ⟨kz⟩, ⟨kz⟩, ⟨kz⟩, ⟨bz⟩⟩
  ·obtain rfl := bf c8; rw [if_neg (show ¬ (false = true) by decide)] at H; have H' := Aside0.mk H; clear H; have hnb17 := NB900_901.out; have hnc17 := NB901_900.out; have hnb18 := NB900_902.out; have hnc18 := NB902_900.out; obtain ⟨hcz19_0, hcz19_1, hfz19_0, hfz19_1⟩ := xc2 BK900
   go_wp2_with (first | ((with_reducible refine gate_callee (f := 35) rfl ?_); refine zC 7 Try.func35 #[.agg #[.int .i64 a0_0, .int .i64 a0_1]] ?_; (with_reducible refine (dioramaref02_Valid.calls a0_0 a0_1 false _ A7.out).mono ?_); rintro e w20 ⟨rfl, hb⟩; refine ⟨_, rfl, ?_⟩; replace BK900 := kb BK900 hb; replace BK901 := kb BK901 hb; replace BK902 := kb BK902 hb; replace HB := bp hb; clear hb))
   go_meet
   case rel => exact ⟨_, (true), jz, H', ⟨by first | omega | exact Nat.le_refl _⟩, ⟨kz⟩, ⟨kz⟩, ⟨kz⟩, ⟨bz⟩⟩
 case rest =>
  clear HC3
  try clear c1
  try clear p2
  try clear c3
  try clear c4
  try clear c8
  try clear c10
  try clear c11
  try clear c14
  try clear c17
  try clear c18
  try clear hcz12_0
  try clear hcz12_1
  try clear hcz15_0
  try clear hcz15_1
  try clear hcz19_0
  try clear hcz19_1
  try clear hfz12_0
  try clear hfz12_1
  try clear hfz15_0
  try clear hfz15_1
  try clear hfz19_0
  try clear hfz19_1
  obtain ⟨kq, x13_2, rfl, HA, HJ2, BK900, BK901, BK902, HB⟩ := hcut
  cases kq with
  | zero => exact absurd HA.out (by simp [dioramaref02_Add.j0])
  | succ kj2 =>
   have H := HA.out; clear HA; simp only [dioramaref02_Add.j0] at H
   by_cases c21 : x13_2 = true
   ·subst c21; rw [if_pos rfl] at H; simp only [Option.some.injEq, Prod.mk.injEq] at H; obtain ⟨rfl, rfl, rfl⟩ := H; have hnb22 := NB902_900.out; have hnc22 := NB900_902.out; have hnb23 := NB902_901.out; have hnc23 := NB901_902.out; obtain ⟨hcz24_0, hcz24_1, hfz24_0, hfz24_1⟩ := xc2 BK902
    go_wp2
    refine bodyPost_ret (results_ct rfl _ _ gb902 37 #[.int .i64 0, .int .i64 0] (0, 0) _ rfl (by (with_reducible repeat (first | refine blk_drewN ?_ _ | refine blk_drew ?_ | refine blk_alloc ?_ _)); refine blk_put (cs := #[.int .i64 0, .int .i64 0]) ?_ 1 _ rfl; (with_reducible repeat (first | refine blk_drewN ?_ _ | refine blk_drew ?_ | refine blk_alloc ?_ _)); refine blk_put (cs := #[.int .i64 0, .int .i64 0]) ?_ 0 _ rfl; (with_reducible repeat (first | refine blk_drewN ?_ _ | refine blk_drew ?_ | refine blk_alloc ?_ _)); exact BK902.out) Try.underlying37 rfl (by kernel_rfl)) rfl ?_
    exact ⟨ez, bz⟩
   ·obtain rfl := bf c21; rw [if_neg (show ¬ (false = true) by decide)] at H; obtain ⟨⟨t905, t906, t909⟩, A25, H⟩ := ob H
    (try dsimp only at H)
    obtain ⟨⟨t912, t913, t916⟩, A26, H⟩ := ob H
    (try dsimp only at H)
    obtain ⟨⟨t919, t920, t923⟩, A27, H⟩ := ob H
    (try dsimp only at H)
    obtain ⟨⟨t926, t927, t928⟩, A28, H⟩ := ob H
    (try dsimp only at H)
    simp only [Option.some.injEq, Prod.mk.injEq] at H; obtain ⟨rfl, rfl, rfl⟩ := H
    try go_wp2
    replace BK900 := Aside0.mk (blk_drew BK900.out); replace BK901 := Aside0.mk (blk_drew BK901.out); replace BK902 := Aside0.mk (blk_drew BK902.out); replace HB := Aside0.mk (below_drew1 HB.out); refine start_ (n := 10) (S := fun w' => w'.cell? ⟨gb900, 0, none⟩ = some (.int .i64 a0_0) ∧ w'.cell? ⟨gb900, 1, none⟩ = some (.int .i64 a0_1) ∧ w'.cell? ⟨gb901, 0, none⟩ = some (.int .i64 a1_0) ∧ w'.cell? ⟨gb901, 1, none⟩ = some (.int .i64 a1_1)) (ds := []) (bs 10 0) (by kernel_rfl) rfl rfl ⟨ct BK900 0, ct BK900 1, ct BK901 0, ct BK901 1⟩ (fun hHeld => ?_)
    generalize wc.drew = w29 at BK900 BK901 BK902 HB hHeld ⊢; refine zT 0 15 10 1 hHeld ?_; refine zT 2 17 10 5 hHeld ?_; refine zN 1 (some 16) 10 7 (fun K hK => ?_); refine zG Try.func85 #[.agg #[.int .i64 a0_0, .int .i64 a0_1]] ?_
    with_reducible refine (dioramaref02_RatOf.calls kj2 a0_0 a0_1 t905 t906 t909 _ A25.out).mono ?_
    rintro e w30 ⟨v907, v910, rfl, ho0, ho1, hb⟩; refine ⟨_, rfl, ?_⟩; have HO908 := Aside0.mk (Kd.R_lower ho0 sz); have HO911 := Aside0.mk (Kd.R_lower ho1 sz); replace BK900 := kb BK900 hb; replace BK901 := kb BK901 hb; replace BK902 := kb BK902 hb; replace HB := bp hb; clear hb ho0 ho1; refine hK.out _ _ ⟨ct BK900 0, ct BK900 1, ct BK901 0, ct BK901 1⟩ (fun hHeld => ?_); clear hK K; refine zM 16 ?_; refine zN 3 (some 18) 10 15 (fun K hK => ?_); refine zG Try.func85 #[.agg #[.int .i64 a1_0, .int .i64 a1_1]] ?_
    with_reducible refine (dioramaref02_RatOf.calls kj2 a1_0 a1_1 t912 t913 t916 _ A26.out).mono ?_
    rintro e w31 ⟨v914, v917, rfl, ho0, ho1, hb⟩; refine ⟨_, rfl, ?_⟩; have HO915 := Aside0.mk (Kd.R_lower (Kd.R_new' (Kd.R_new' ho0 (Kd.R_lt (rz HO908))) (Kd.R_lt (rz HO911))) sz); have HO918 := Aside0.mk (Kd.R_lower (Kd.R_new' (Kd.R_new' ho1 (Kd.R_lt (rz HO908))) (Kd.R_lt (rz HO911))) sz); replace HO908 := Aside0.mk (Kd.R_mono (Kd.R_told (Kd.R_told (Kd.R_old (rz HO908) hb) (Kd.R_base ho0)) (Kd.R_base ho1)) (fun _ h_ => h_.1)); replace HO911 := Aside0.mk (Kd.R_mono (Kd.R_told (Kd.R_told (Kd.R_old (rz HO911) hb) (Kd.R_base ho0)) (Kd.R_base ho1)) (fun _ h_ => h_.1)); replace BK900 := kb BK900 hb; replace BK901 := kb BK901 hb; replace BK902 := kb BK902 hb; replace HB := bp hb; clear hb ho0 ho1; obtain ⟨Ao32, co32, eo32⟩ := Kd.R_slice HO908.out
    (first | subst eo32 | (injection eo32 with f1_ f2_ f3_; have f4_ := f1_.symm; have f5_ := f3_.symm; clear f1_ f2_ f3_; subst f4_; subst f5_))
    obtain ⟨Ao33, co33, eo33⟩ := Kd.R_slice HO911.out
    (first | subst eo33 | (injection eo33 with f1_ f2_ f3_; have f4_ := f1_.symm; have f5_ := f3_.symm; clear f1_ f2_ f3_; subst f4_; subst f5_))
    obtain ⟨Ao34, co34, eo34⟩ := Kd.R_slice HO915.out
    (first | subst eo34 | (injection eo34 with f1_ f2_ f3_; have f4_ := f1_.symm; have f5_ := f3_.symm; clear f1_ f2_ f3_; subst f4_; subst f5_))
    obtain ⟨Ao35, co35, eo35⟩ := Kd.R_slice HO918.out
    (first | subst eo35 | (injection eo35 with f1_ f2_ f3_; have f4_ := f1_.symm; have f5_ := f3_.symm; clear f1_ f2_ f3_; subst f4_; subst f5_))
    refine hK.out _ _ ⟨ct BK900 0, ct BK900 1, ct BK901 0, ct BK901 1⟩ (fun hHeld => ?_); clear hK K; refine zM 18 ?_; refine zN 4 (some 19) 10 31 (fun K hK => ?_); refine zG Try.func98 #[.agg #[.bool t905, .slice Ao32 t906.length co32, .slice Ao33 t909.length co33], .agg #[.bool t912, .slice Ao34 t913.length co34, .slice Ao35 t916.length co35]] ?_
    with_reducible refine (dioramaref02_Sum.calls kj2 t905 _ _ t906 _ _ t909 t912 _ _ t913 _ _ t916 t919 t920 t923 _ ?side1 ?side2 ?side3 ?side4 ?side5 ?side6 ?side7 ?side8 A27.out).mono ?_
    (case side1 => exact cr HO908)
    (case side2 => exact (Kd.R_reads' HO908.out).2.1)
    (case side3 => exact cr HO911)
    (case side4 => exact (Kd.R_reads' HO911.out).2.1)
    (case side5 => exact cr HO915)
    (case side6 => exact (Kd.R_reads' HO915.out).2.1)
    (case side7 => exact cr HO918)
    (case side8 => exact (Kd.R_reads' HO918.out).2.1)
    rintro e w36 ⟨v921, v924, rfl, ho0, ho1, hb⟩; refine ⟨_, rfl, ?_⟩; have HO922 := Aside0.mk (Kd.R_lower (Kd.R_new' (Kd.R_new' (Kd.R_new' (Kd.R_new' ho0 (Kd.R_lt (rz HO908))) (Kd.R_lt (rz HO911))) (Kd.R_lt (rz HO915))) (Kd.R_lt (rz HO918))) sz); have HO925 := Aside0.mk (Kd.R_lower (Kd.R_new' (Kd.R_new' (Kd.R_new' (Kd.R_new' ho1 (Kd.R_lt (rz HO908))) (Kd.R_lt (rz HO911))) (Kd.R_lt (rz HO915))) (Kd.R_lt (rz HO918))) sz); replace HO908 := Aside0.mk (Kd.R_mono (Kd.R_told (Kd.R_told (Kd.R_old (rz HO908) hb) (Kd.R_base ho0)) (Kd.R_base ho1)) (fun _ h_ => h_.1)); replace HO911 := Aside0.mk (Kd.R_mono (Kd.R_told (Kd.R_told (Kd.R_old (rz HO911) hb) (Kd.R_base ho0)) (Kd.R_base ho1)) (fun _ h_ => h_.1)); replace HO915 := Aside0.mk (Kd.R_mono (Kd.R_told (Kd.R_told (Kd.R_old (rz HO915) hb) (Kd.R_base ho0)) (Kd.R_base ho1)) (fun _ h_ => h_.1)); replace HO918 := Aside0.mk (Kd.R_mono (Kd.R_told (Kd.R_told (Kd.R_old (rz HO918) hb) (Kd.R_base ho0)) (Kd.R_base ho1)) (fun _ h_ => h_.1)); replace BK900 := kb BK900 hb; replace BK901 := kb BK901 hb; replace BK902 := kb BK902 hb; replace HB := bp hb; clear hb ho0 ho1; obtain ⟨Ao37, co37, eo37⟩ := Kd.R_slice HO922.out
    (first | subst eo37 | (injection eo37 with f1_ f2_ f3_; have f4_ := f1_.symm; have f5_ := f3_.symm; clear f1_ f2_ f3_; subst f4_; subst f5_))
    obtain ⟨Ao38, co38, eo38⟩ := Kd.R_slice HO925.out
    (first | subst eo38 | (injection eo38 with f1_ f2_ f3_; have f4_ := f1_.symm; have f5_ := f3_.symm; clear f1_ f2_ f3_; subst f4_; subst f5_))
    refine hK.out _ _ ⟨ct BK900 0, ct BK900 1, ct BK901 0, ct BK901 1⟩ (fun hHeld => ?_); clear hK K; refine zM 19 ?_; refine zN 5 (some 20) 10 63 (fun K hK => ?_); refine zG Try.func87 #[.agg #[.bool t919, .slice Ao37 t920.length co37, .slice Ao38 t923.length co38]] ?_
    with_reducible refine (dioramaref02_Time.calls kj2 t919 (fun k_ => some k_ = (.slice Ao37 t920.length co37 : Value).ownBlock) _ _ t920 (fun k_ => some k_ = (.slice Ao38 t923.length co38 : Value).ownBlock) _ _ t923 t926 t927 t928 _ ?side1 ?side2 A28.out).mono ?_
    (case side1 => exact Kd.R_V (Kd.R_tight rfl (Kd.R_types (Kd.R_types (Kd.R_types (HO922.out) BK900.out (by decide)) BK901.out (by decide)) BK902.out (by decide))))
    (case side2 => exact Kd.R_V (Kd.R_tight rfl (Kd.R_types (Kd.R_types (Kd.R_types (HO925.out) BK900.out (by decide)) BK901.out (by decide)) BK902.out (by decide))))
    rintro e w39 ⟨rfl, hb⟩; refine ⟨_, rfl, ?_⟩; replace HO908 := Aside0.mk (Kd.R_below (rz HO908) hb); replace HO911 := Aside0.mk (Kd.R_below (rz HO911) hb); replace HO915 := Aside0.mk (Kd.R_below (rz HO915) hb); replace HO918 := Aside0.mk (Kd.R_below (rz HO918) hb); replace HO922 := Aside0.mk (Kd.R_below (rz HO922) hb); replace HO925 := Aside0.mk (Kd.R_below (rz HO925) hb); replace BK900 := kb BK900 hb; replace BK901 := kb BK901 hb; replace BK902 := kb BK902 hb; replace HB := bp hb; clear hb; refine hK.out _ _ ⟨ct BK900 0, ct BK900 1, ct BK901 0, ct BK901 1⟩ (fun hHeld => ?_); clear hK K; refine zM 20 ?_; refine zP 6 21 10 127 ?_; refine zP 7 22 10 255 ?_; refine zN 8 none 10 511 (fun K hK => ?_); have hs40 : w39.cell? ⟨gb902, 0, none⟩ = some (.int .i64 0) := ct BK902 0; have hfs40 := blk_frozen BK902.out 0; have hns40_0 := NB900_902.out; have hns40_1 := NB901_902.out; have hms40_0 := NB902_900.out; have hms40_1 := NB902_901.out; have hs41 : w39.cell? ⟨gb902, 1, none⟩ = some (.int .i64 0) := ct BK902 1; have hfs41 := blk_frozen BK902.out 1; have hns41_0 := NB900_902.out; have hns41_1 := NB901_902.out; have hms41_0 := NB902_900.out; have hms41_1 := NB902_901.out; refine skip_ (w1 := ?_) (by rfl) rfl ?_ ?_
    rotate_left
    ·go_simp
     rfl
    refine hK.out _ _ ⟨((cell_far (p := ⟨gb902, _, none⟩) NB900_902.out _).trans (((cell_far (p := ⟨gb902, _, none⟩) NB900_902.out _).trans (hHeld.1)))), ((cell_far (p := ⟨gb902, _, none⟩) NB900_902.out _).trans (((cell_far (p := ⟨gb902, _, none⟩) NB900_902.out _).trans (hHeld.2.1)))), ((cell_far (p := ⟨gb902, _, none⟩) NB901_902.out _).trans (((cell_far (p := ⟨gb902, _, none⟩) NB901_902.out _).trans (hHeld.2.2.1)))), ((cell_far (p := ⟨gb902, _, none⟩) NB901_902.out _).trans (((cell_far (p := ⟨gb902, _, none⟩) NB901_902.out _).trans (hHeld.2.2.2))))⟩ (fun hHeld => ?_); clear hK K; refine zP 9 5 10 1023 ?_; refine done_ (by kernel_rfl) ?_
    try go_wp2
    refine bodyPost_ret (results_ct rfl _ _ gb902 37 #[.int .i64 t926, .int .i64 t927] (0, 0) _ rfl (by (with_reducible repeat (first | refine blk_drewN ?_ _ | refine blk_drew ?_ | refine blk_alloc ?_ _)); refine blk_put (cs := #[.int .i64 t926, .int .i64 0]) ?_ 1 _ rfl; (with_reducible repeat (first | refine blk_drewN ?_ _ | refine blk_drew ?_ | refine blk_alloc ?_ _)); refine blk_put (cs := #[.int .i64 0, .int .i64 0]) ?_ 0 _ rfl; (with_reducible repeat (first | refine blk_drewN ?_ _ | refine blk_drew ?_ | refine blk_alloc ?_ _)); exact BK902.out) Try.underlying37 rfl (by kernel_rfl)) rfl ?_
    exact ⟨ez, bz⟩
end Go.Proofs.Ytpbhepdgamoiaaa.E
namespace Go.Proofs.Ytpbhepdgamoiaaa.E
open Go.Proofs.Ytpbhepdgamoiaaa.Z Go.RowKit Go.Proofs.YtpbhepdgamoiaaaW.PrintWords Go.Proofs.YtpbhepdgamoiaaaW.PrintLast Go.Proofs.YtpbhepdgamoiaaaW.PrintMore
attribute [local go_sem] max2_int min2_int max_two min_two max_three min_three max_four min_four
set_option linter.unusedVariables false
set_option linter.unusedSimpArgs false
attribute [local go_sem high] eqA77
end Go.Proofs.Ytpbhepdgamoiaaa.E
namespace Go.Proofs.Ytpbhepdgamoiaaa.E
open Go.Proofs.Ytpbhepdgamoiaaa.Z Go.RowKit Go.Proofs.YtpbhepdgamoiaaaW.PrintWords Go.Proofs.YtpbhepdgamoiaaaW.PrintLast Go.Proofs.YtpbhepdgamoiaaaW.PrintMore
attribute [local go_sem] max2_int min2_int max_two min_two max_three min_three max_four min_four
set_option linter.unusedVariables false
set_option linter.unusedSimpArgs false
end Go.Proofs.Ytpbhepdgamoiaaa.E
namespace Go.Proofs.Ytpbhepdgamoiaaa.Pa
open Go.RowKit Go.Proofs.Ytpbhepdgamoiaaa.P Go.Proofs.Ytpbhepdgamoiaaa.E Go.Proofs.YtpbhepdgamoiaaaW.PrintWords Go.Proofs.YtpbhepdgamoiaaaW.PrintLast Go.Proofs.Ytpbhepdgamoiaaa.Ml Go.Proofs.Ytpbhepdgamoiaaa.Mn
set_option linter.unusedVariables false
set_option linter.unusedSimpArgs false
abbrev Bd : Int := 1000000000
abbrev Nn (l : List Int) : Prop := Cn 1000000000 l
theorem top_cons {x : Int} {l : List Int} (h : Top l) (hx : l = [] → x ≠ 0) : Top (x :: l) := by
 intro hne
 cases l with
 | nil => simpa using hx rfl
 | cons y t =>
  rw [List.getLast_cons (by simp)]
  exact h (by simp)
theorem digit_f (l : List Int) (i : Nat) : dioramaref02_digit.f l (i : Int) = some (l.getD i 0) := by
 unfold dioramaref02_digit.f
 by_cases h : i < l.length
 ·rw [if_pos (by omega), if_pos (by omega), rd_nat]
 ·rw [if_neg (by omega), getD_ge (by omega)]
theorem tmodB {x : Int} (h : 0 ≤ x) : Int.tmod x 1000000000 = x % 1000000000 := Int.tmod_eq_emod_of_nonneg h
theorem tdivB {x : Int} (h : 0 ≤ x) : Int.tdiv x 1000000000 = x / 1000000000 := Int.tdiv_eq_ediv_of_nonneg h
theorem of_l (m : Nat) : ∀ (x : Int) (acc : List Int), 0 ≤ x → x < pw 1000000000 m → x ≤ 9223372036854775807 → acc.length + m ≤ 1000 → ∃ r, Ev (fun k => dioramaref02_Of.l0 k x acc) (acc ++ r) ∧ Nn r ∧ dv 1000000000 r = x ∧ r.length ≤ m := by
 induction m with
 | zero =>
  intro x acc h0 h1 _ _
  have hx : x = 0 := by simp [pw] at h1; omega
  subst hx
  exact ⟨[], Ev.step (f := fun _ => some (acc ++ [])) (fun k => by simp [dioramaref02_Of.l0]) (Ev.now _), Cn.nil _, rfl, Nat.le_refl _⟩
 | succ m ih =>
  intro x acc h0 h1 h2 hl
  by_cases hx : x = 0
  ·subst hx
   exact ⟨[], Ev.step (f := fun _ => some (acc ++ [])) (fun k => by simp [dioramaref02_Of.l0]) (Ev.now _), Cn.nil _, rfl, Nat.zero_le _⟩
  ·have hd : x / 1000000000 < pw 1000000000 m := by
    rw [pw_succ] at h1
    omega
   obtain ⟨r, he, hc, hv, hr⟩ := ih (x / 1000000000) (acc ++ [x % 1000000000]) (by omega) hd (by omega) (by simp; omega)
   refine ⟨x % 1000000000 :: r, ?_, ⟨Dg.cons (by omega) (by omega) hc.dg, top_cons hc.top (fun h => ?_)⟩, ?_, by simp; omega⟩
   ·rw [List.append_assoc, List.singleton_append] at he
    refine Ev.step (fun k => ?_) he
    simp only [dioramaref02_Of.l0]
    rw [if_pos (by omega), if_pos (by omega), tdivB h0, tmodB h0, w64 (by omega) (by omega)]
   ·subst h
    simp only [dv] at hv
    omega
   ·simp only [dv] at hv ⊢
    rw [hv]
    omega
theorem of_f (x : Int) (h0 : 0 ≤ x) (h1 : x ≤ 9223372036854775807) : ∃ r, Ev (fun k => dioramaref02_Of.f k x) r ∧ Nn r ∧ dv 1000000000 r = x ∧ r.length ≤ 3 := by
 obtain ⟨r, he, h⟩ := of_l 3 x [] h0 (by simp [pw]; omega) h1 (by simp)
 exact ⟨r, he, h⟩
theorem trimmed_l (l : List Int) (hd : Dg 1000000000 l) (hl : l.length ≤ 1000000) : ∀ n : Nat, n ≤ l.length → dv 1000000000 (l.take n) = dv 1000000000 l → ∃ r, Ev (fun k => dioramaref02_trimmed.l0 k l (n : Int)) r ∧ Nn r ∧ dv 1000000000 r = dv 1000000000 l ∧ r.length ≤ n := by
 intro n
 induction n with
 | zero =>
  intro _ hv
  refine ⟨[], Ev.step (f := fun _ => some []) (fun k => ?_) (Ev.now _), Cn.nil _, by rw [← hv]; rfl, Nat.le_refl _⟩
  simp [dioramaref02_trimmed.l0]
 | succ n ih =>
  intro hn hv
  have hw : wrap64 (((n + 1 : Nat) : Int) - 1) = (n : Int) := by rw [w64 (by omega) (by omega)]; omega
  by_cases hz : l.getD n 0 = 0
  ·obtain ⟨r, he, hc, hr, hlr⟩ := ih (by omega) (by rw [← hv] ; rw [dv_take_succ', hz]; omega)
   refine ⟨r, Ev.step (fun k => ?_) he, hc, hr, by omega⟩
   simp only [dioramaref02_trimmed.l0, hw, rd_nat]
   rw [if_pos (by omega), if_pos (by omega), if_pos (by omega), if_pos hz]
  ·refine ⟨l.take (n + 1), Ev.step (f := fun _ => some (l.take (n + 1))) (fun k => ?_) (Ev.now _), ⟨hd.take _, top_of_getD ?_⟩, hv, by simp; omega⟩
   ·simp only [dioramaref02_trimmed.l0, hw, rd_nat]
    rw [if_pos (by omega), if_pos (by omega), if_pos (by omega), if_neg hz, if_pos (by omega), if_pos (by omega), Int.toNat_natCast]
   ·rw [List.length_take, Nat.min_eq_left (by omega)]
    simp only [Nat.add_sub_cancel]
    rw [List.getD_eq_getElem?_getD, List.getElem?_take_of_lt (by omega), ← List.getD_eq_getElem?_getD]
    exact hz
theorem trimmed_f (l : List Int) (hd : Dg 1000000000 l) (hl : l.length ≤ 1000000) : ∃ r, Ev (fun k => dioramaref02_trimmed.f k l) r ∧ Nn r ∧ dv 1000000000 r = dv 1000000000 l ∧ r.length ≤ l.length :=
 trimmed_l l hd hl l.length (Nat.le_refl _) (by rw [List.take_length])
theorem cmp1 {x y : Int} (h : x < y) : Nd.cmpI x y = -1 := by unfold Nd.cmpI; rw [if_pos h]
theorem cmp2 {x y : Int} (h : y < x) : Nd.cmpI x y = 1 := by unfold Nd.cmpI; rw [if_neg (by omega), if_pos h]
theorem cmp0 {x y : Int} (h : x = y) : Nd.cmpI x y = 0 := by unfold Nd.cmpI; rw [if_neg (by omega), if_neg (by omega)]
theorem compare_l (a b : List Int) (ha : Dg 1000000000 a) (hb : Dg 1000000000 b) (hl : a.length = b.length) (hn : a.length ≤ 1000000) : ∀ i : Nat, i ≤ a.length → dv 1000000000 (a.drop i) = dv 1000000000 (b.drop i) →
  Ev (fun k => dioramaref02_Compare.l0 k a b ((i : Int) - 1)) (Nd.cmpI (dv 1000000000 a) (dv 1000000000 b)) := by
 intro i
 induction i with
 | zero =>
  intro _ h
  refine Ev.step (f := fun _ => some 0) (fun k => ?_) (by rw [cmp0 (by simpa using h)]; exact Ev.now _)
  simp [dioramaref02_Compare.l0]
 | succ i ih =>
  intro hi h
  have e : (((i + 1 : Nat) : Int) - 1) = (i : Int) := by omega
  have hw : wrap64 ((i : Int) - 1) = (i : Int) - 1 := w64 (by omega) (by omega)
  rw [e]
  rcases Int.lt_trichotomy (a.getD i 0) (b.getD i 0) with h1 | h1 | h1
  ·rw [cmp1 (dv_less (by decide) ha hb hl i (by omega) h h1)]
   refine Ev.step (f := fun _ => some (-1)) (fun k => ?_) (Ev.now _)
   simp only [dioramaref02_Compare.l0, rd_nat]
   rw [if_pos (by omega), if_pos (by omega), if_pos (by omega), if_pos (by omega), if_pos h1]
  ·refine Ev.step (fun k => ?_) (ih (by omega) (by rw [dv_drop _ a i (by omega), dv_drop _ b i (by omega), h1, h]))
   simp only [dioramaref02_Compare.l0, rd_nat, hw]
   rw [if_pos (by omega), if_pos (by omega), if_pos (by omega), if_pos (by omega), if_neg (by omega), if_neg (by omega)]
  ·rw [cmp2 (dv_less (by decide) hb ha hl.symm i (by omega) h.symm h1)]
   refine Ev.step (f := fun _ => some 1) (fun k => ?_) (Ev.now _)
   simp only [dioramaref02_Compare.l0, rd_nat]
   rw [if_pos (by omega), if_pos (by omega), if_pos (by omega), if_pos (by omega), if_neg (by omega), if_pos h1]
theorem compare_f (a b : List Int) (ha : Nn a) (hb : Nn b) (hn : a.length ≤ 1000000) (hm : b.length ≤ 1000000) : Ev (fun k => dioramaref02_Compare.f k a b) (Nd.cmpI (dv 1000000000 a) (dv 1000000000 b)) := by
 by_cases hl : a.length = b.length
 ·have h := compare_l a b ha.dg hb.dg hl hn a.length (Nat.le_refl _) (by rw [List.drop_of_length_le (Nat.le_refl _), List.drop_of_length_le (by omega)])
  refine Ev.congr (fun k => ?_) h
  simp only [dioramaref02_Compare.f]
  rw [if_pos (by omega), w64 (by omega) (by omega)]
 ·by_cases h1 : a.length < b.length
  ·rw [cmp1 (dv_len (by decide) ha.dg hb h1)]
   refine Ev.congr (f := fun _ => some (-1)) (fun k => ?_) (Ev.now _)
   simp only [dioramaref02_Compare.f]
   rw [if_neg (by omega), if_pos (by omega)]
  ·rw [cmp2 (dv_len (by decide) hb.dg ha (by omega))]
   refine Ev.congr (f := fun _ => some 1) (fun k => ?_) (Ev.now _)
   simp only [dioramaref02_Compare.f]
   rw [if_neg (by omega), if_neg (by omega)]
end Go.Proofs.Ytpbhepdgamoiaaa.Pa
namespace Go.Proofs.Ytpbhepdgamoiaaa.Pb
open Go.RowKit Go.Proofs.Ytpbhepdgamoiaaa.P Go.Proofs.Ytpbhepdgamoiaaa.E Go.Proofs.YtpbhepdgamoiaaaW.PrintWords Go.Proofs.YtpbhepdgamoiaaaW.PrintLast Go.Proofs.Ytpbhepdgamoiaaa.Ml Go.Proofs.Ytpbhepdgamoiaaa.Mn Go.Proofs.Ytpbhepdgamoiaaa.Pa
set_option linter.unusedVariables false
set_option linter.unusedSimpArgs false
theorem nv_take_all {l : List Int} {n : Nat} (h : l.length ≤ n) : dv 1000000000 (l.take n) = dv 1000000000 l := by rw [List.take_of_length_le h]
theorem dg_snoc {l : List Int} {x : Int} (h : Dg 1000000000 l) (h0 : 0 ≤ x) (h1 : x < 1000000000) : Dg 1000000000 (l ++ [x]) := h.append (Dg.cons h0 h1 (Dg.nil _))
theorem w1 {i : Nat} (h : i ≤ 10000000) : wrap64 ((i : Int) + 1) = ((i + 1 : Nat) : Int) := by rw [w64 (by omega) (by omega)]; omega
theorem minus_l (a b : List Int) (ha : Dg 1000000000 a) (hb : Dg 1000000000 b) (hn : a.length ≤ 1000000) (hlb : b.length ≤ a.length) (hle : dv 1000000000 b ≤ dv 1000000000 a) :
  ∀ (d i : Nat) (out : List Int) (c : Int), i + d = a.length → out.length = i → Dg 1000000000 out → 0 ≤ c → c ≤ 1 → dv 1000000000 out = dv 1000000000 (a.take i) - dv 1000000000 (b.take i) + c * pw 1000000000 i →
  ∃ r, Ev (fun k => dioramaref02_Minus.l0 k a b out c (i : Int)) r ∧ Nn r ∧ dv 1000000000 r = dv 1000000000 a - dv 1000000000 b ∧ r.length ≤ a.length := by
 intro d
 induction d with
 | zero =>
  intro i out c hi hl hd h0 h1 hv
  obtain ⟨r, he, hc, hr, hlr⟩ := trimmed_f out hd (by omega)
  have hlt := dv_lt (by decide) hd
  rw [hl] at hlt
  rw [nv_take_all (by omega), nv_take_all (by omega)] at hv
  have c0 : c = 0 := by
   rcases (show c = 0 ∨ c = 1 by omega) with h | h
   ·exact h
   ·rw [h] at hv
    omega
  refine ⟨r, Ev.step (f := fun k => (dioramaref02_trimmed.f k out).bind fun t => some t) (fun k => ?_) (Ev.bind he (Ev.now _)), hc, by rw [hr, hv, c0]; omega, by omega⟩
  simp only [dioramaref02_Minus.l0]
  rw [if_neg (by omega)]
 | succ d ih =>
  intro i out c hi hl hd h0 h1 hv
  have hx := ha.getD (by decide) i
  have hy := hb.getD (by decide) i
  have e1 := dv_take_succ' 1000000000 a i
  have e2 := dv_take_succ' 1000000000 b i
  have e3 := pw_succ 1000000000 i
  generalize hxv : a.getD i 0 = x at *
  generalize hyv : b.getD i 0 = y at *
  have hw : wrap64 (wrap64 (x - y) - c) = x - y - c := by rw [w64 (x := x - y) (by omega) (by omega), w64 (by omega) (by omega)]
  have hw2 : wrap64 (x - y - c + 1000000000) = x - y - c + 1000000000 := w64 (by omega) (by omega)
  by_cases hneg : x - y - c < 0
  ·obtain ⟨r, he, h⟩ := ih (i + 1) (out ++ [x - y - c + 1000000000]) 1 (by omega) (by simp [hl]) (dg_snoc hd (by omega) (by omega)) (by decide) (by decide) (by
    rw [dv_snoc, hl, hv, e1, e2, e3]
    grind)
   refine ⟨r, Ev.step (fun k => ?_) he, h⟩
   simp only [dioramaref02_Minus.l0]
   rw [if_pos (by omega), digit_f, digit_f, hxv, hyv]
   simp only [Option.bind_some, hw, hw2]
   rw [if_pos hneg, if_pos (by omega), w1 (by omega)]
  ·obtain ⟨r, he, h⟩ := ih (i + 1) (out ++ [x - y - c]) 0 (by omega) (by simp [hl]) (dg_snoc hd (by omega) (by omega)) (by decide) (by decide) (by
    rw [dv_snoc, hl, hv, e1, e2]
    grind)
   refine ⟨r, Ev.step (fun k => ?_) he, h⟩
   simp only [dioramaref02_Minus.l0]
   rw [if_pos (by omega), digit_f, digit_f, hxv, hyv]
   simp only [Option.bind_some, hw, hw2]
   rw [if_neg hneg, if_pos (by omega), w1 (by omega)]
theorem len_le {a b : List Int} (ha : Nn a) (hb : Nn b) (h : dv 1000000000 b ≤ dv 1000000000 a) : b.length ≤ a.length := by
 refine Nat.le_of_not_lt fun hl => ?_
 have := dv_len (by decide) ha.dg hb hl
 omega
theorem minus_f (a b : List Int) (ha : Nn a) (hb : Nn b) (hn : a.length ≤ 1000000) (hle : dv 1000000000 b ≤ dv 1000000000 a) : ∃ r, Ev (fun k => dioramaref02_Minus.f k a b) r ∧ Nn r ∧ dv 1000000000 r = dv 1000000000 a - dv 1000000000 b ∧ r.length ≤ a.length :=
 minus_l a b ha.dg hb.dg hn (len_le ha hb hle) hle a.length 0 [] 0 (by omega) rfl (Dg.nil _) (by decide) (by decide) (by simp [dv])
theorem plus_l (a b : List Int) (ha : Nn a) (hb : Nn b) (hn : a.length ≤ 1000000) (hm : b.length ≤ 1000000) :
  ∀ (d i : Nat) (out : List Int) (c : Int), i + d = max a.length b.length + 1 → out.length = i → Dg 1000000000 out → 0 ≤ c → c ≤ 1 → (i ≤ max a.length b.length ∨ c = 0) → (i < a.length ∨ i < b.length ∨ 0 < c ∨ Top out) → dv 1000000000 out = dv 1000000000 (a.take i) + dv 1000000000 (b.take i) - c * pw 1000000000 i →
  ∃ r, Ev (fun k => dioramaref02_Plus.l0 k a b out c (i : Int)) r ∧ Nn r ∧ dv 1000000000 r = dv 1000000000 a + dv 1000000000 b ∧ r.length ≤ max a.length b.length + 1 := by
 intro d
 induction d with
 | zero =>
  intro i out c hi hl hd h0 h1 hic ht hv
  have c0 : c = 0 := by omega
  subst c0
  rw [nv_take_all (by omega), nv_take_all (by omega)] at hv
  refine ⟨out, Ev.step (f := fun k => dioramaref02_Plus.j1 k a b out 0 (i : Int) (decide ((0 : Int) > 0))) (fun k => ?_) (Ev.step (f := fun _ => some out) (fun k => ?_) (Ev.now _)), ⟨hd, ?_⟩, by rw [hv]; omega, by omega⟩
  ·simp only [dioramaref02_Plus.l0]
   rw [if_neg (by omega), if_neg (by omega)]
  ·simp [dioramaref02_Plus.j1]
  ·rcases ht with h | h | h | h
   ·omega
   ·omega
   ·omega
   ·exact h
 | succ d ih =>
  intro i out c hi hl hd h0 h1 hic ht hv
  by_cases hgo : i < a.length ∨ i < b.length ∨ 0 < c
  ·have hx := ha.dg.getD (by decide) i
   have hy := hb.dg.getD (by decide) i
   have e1 := dv_take_succ' 1000000000 a i
   have e2 := dv_take_succ' 1000000000 b i
   have e3 := pw_succ 1000000000 i
   have zx : a.length ≤ i → a.getD i 0 = 0 := fun h => getD_ge h
   have zy : b.length ≤ i → b.getD i 0 = 0 := fun h => getD_ge h
   have tx : i + 1 = a.length → a.getD i 0 ≠ 0 := fun h => by have := top_getD ha.top (by omega); rwa [← h, Nat.add_sub_cancel] at this
   have ty : i + 1 = b.length → b.getD i 0 ≠ 0 := fun h => by have := top_getD hb.top (by omega); rwa [← h, Nat.add_sub_cancel] at this
   generalize hxv : a.getD i 0 = x at *
   generalize hyv : b.getD i 0 = y at *
   have hw : wrap64 (wrap64 (x + y) + c) = x + y + c := by rw [w64 (x := x + y) (by omega) (by omega), w64 (by omega) (by omega)]
   have hw2 : wrap64 ((x + y + c) / 1000000000) = (x + y + c) / 1000000000 := w64 (by omega) (by omega)
   obtain ⟨r, he, h⟩ := ih (i + 1) (out ++ [(x + y + c) % 1000000000]) ((x + y + c) / 1000000000) (by omega) (by simp [hl]) (dg_snoc hd (by omega) (by omega)) (by omega) (by omega)
    (by
     by_cases hmx : i < max a.length b.length
     ·left; omega
     ·right
      rw [zx (by omega), zy (by omega)]
      omega)
    (by
     by_cases g1 : i + 1 < a.length
     ·exact .inl g1
     ·by_cases g2 : i + 1 < b.length
      ·exact .inr (.inl g2)
      ·by_cases g3 : 0 < (x + y + c) / 1000000000
       ·exact .inr (.inr (.inl g3))
       ·refine .inr (.inr (.inr (top_of_getD ?_)))
        have hne : (x + y + c) % 1000000000 ≠ 0 := by
         rcases hgo with g | g | g
         ·have := tx (by omega); omega
         ·have := ty (by omega); omega
         ·omega
        simp only [List.length_append, List.length_singleton, Nat.add_sub_cancel]
        rw [List.getD_eq_getElem?_getD, List.getElem?_append_right (Nat.le_refl _)]
        simpa using hne)
    (by
     rw [dv_snoc, hl, hv, e1, e2, e3]
     have hdm := Int.mul_ediv_add_emod (x + y + c) 1000000000
     generalize (x + y + c) / 1000000000 = Q at *
     generalize (x + y + c) % 1000000000 = R at *
     have : R = x + y + c - 1000000000 * Q := by omega
     subst this
     grind)
   refine ⟨r, ?_, h⟩
   have hj : Ev (fun k => dioramaref02_Plus.j1 k a b out c (i : Int) true) r := by
    refine Ev.step (fun k => ?_) he
    simp only [dioramaref02_Plus.j1, if_true]
    rw [digit_f, digit_f, hxv, hyv]
    simp only [Option.bind_some, hw]
    rw [if_pos (by omega), tmodB (by omega), tdivB (by omega), hw2, w1 (by omega)]
   refine Ev.step (fun k => ?_) hj
   simp only [dioramaref02_Plus.l0]
   by_cases g1 : i < a.length
   ·rw [if_pos (by omega)]
   ·rw [if_neg (by omega)]
    by_cases g2 : i < b.length
    ·rw [if_pos (by omega)]
    ·rw [if_neg (by omega), decide_eq_true (show c > 0 by omega)]
  ·have c0 : c = 0 := by omega
   subst c0
   rw [nv_take_all (by omega), nv_take_all (by omega)] at hv
   refine ⟨out, Ev.step (f := fun k => dioramaref02_Plus.j1 k a b out 0 (i : Int) (decide ((0 : Int) > 0))) (fun k => ?_) (Ev.step (f := fun _ => some out) (fun k => ?_) (Ev.now _)), ⟨hd, ?_⟩, by rw [hv]; omega, by omega⟩
   ·simp only [dioramaref02_Plus.l0]
    rw [if_neg (by omega), if_neg (by omega)]
   ·simp [dioramaref02_Plus.j1]
   ·rcases ht with h | h | h | h
    ·omega
    ·omega
    ·omega
    ·exact h
theorem plus_f (a b : List Int) (ha : Nn a) (hb : Nn b) (hn : a.length ≤ 1000000) (hm : b.length ≤ 1000000) : ∃ r, Ev (fun k => dioramaref02_Plus.f k a b) r ∧ Nn r ∧ dv 1000000000 r = dv 1000000000 a + dv 1000000000 b ∧ r.length ≤ max a.length b.length + 1 :=
 plus_l a b ha hb hn hm (max a.length b.length + 1) 0 [] 0 (by omega) rfl (Dg.nil _) (by decide) (by decide) (.inr rfl) (.inr (.inr (.inr (fun h => absurd rfl h)))) (by simp [dv])
theorem mulB {c x y o : Int} (hc0 : 0 ≤ c) (hc1 : c < 1000000000) (hx0 : 0 ≤ x) (hx1 : x < 1000000000) (hy0 : 0 ≤ y) (hy1 : y < 1000000000) (ho0 : 0 ≤ o) (ho1 : o < 1000000000) :
  wrap64 (wrap64 (o + wrap64 (x * y)) + c) = o + x * y + c ∧ 0 ≤ o + x * y + c ∧ wrap64 (Int.tdiv (o + x * y + c) 1000000000) = (o + x * y + c) / 1000000000 ∧ (o + x * y + c) / 1000000000 < 1000000000 := by
 obtain ⟨h1, h2⟩ := mul_lt_sq hx0 hx1 hy0 hy1
 have h2' : x * y ≤ 999999998000000001 := h2
 rw [w64 (x := x * y) (by omega) (by omega), w64 (x := o + x * y) (by omega) (by omega), w64 (x := o + x * y + c) (by omega) (by omega), tdivB (by omega), w64 (by omega) (by omega)]
 refine ⟨rfl, by omega, rfl, by omega⟩
set_option maxHeartbeats 1000000 in
theorem times_l1 (a b : List Int) (i : Nat) (x : Int) (hx : a.getD i 0 = x) (hi : i < a.length) (hb : Dg 1000000000 b) (hx0 : 0 ≤ x) (hx1 : x < 1000000000) (hn : a.length + b.length ≤ 1000000) :
  ∀ (d j : Nat) (out : List Int) (c : Int), j + d = b.length → Dg 1000000000 out → out.length = a.length + b.length → 0 ≤ c → c < 1000000000 → (∀ m, i + b.length ≤ m → out.getD m 0 = 0) →
  ∃ out', (∀ r, Ev (fun k => dioramaref02_Times.l0 k a b out' ((i + 1 : Nat) : Int)) r → Ev (fun k => dioramaref02_Times.l1 k a b out (i : Int) c (j : Int)) r) ∧ out'.length = a.length + b.length ∧ Dg 1000000000 out' ∧
   dv 1000000000 out' = dv 1000000000 out + c * pw 1000000000 (i + j) + x * dv 1000000000 (b.drop j) * pw 1000000000 (i + j) ∧ ∀ m, i + 1 + b.length ≤ m → out'.getD m 0 = 0 := by
 intro d
 induction d with
 | zero =>
  intro j out c hj hd hl h0 h1 hz
  obtain rfl : j = b.length := by omega
  have hend : ∀ (out : List Int) (j : Nat) r, b.length ≤ j → Ev (fun k => dioramaref02_Times.l0 k a b out ((i + 1 : Nat) : Int)) r → Ev (fun k => dioramaref02_Times.l1 k a b out (i : Int) 0 (j : Int)) r := by
   intro out j r hj he
   refine Ev.step (fun k => ?_) he
   simp only [dioramaref02_Times.l1]
   rw [if_neg (by omega), if_neg (by omega), w1 (by omega)]
  rw [List.drop_of_length_le (Nat.le_refl _)]
  by_cases hc : c = 0
  ·subst hc
   exact ⟨out, fun r he => hend out _ r (Nat.le_refl _) he, hl, hd, by simp [dv], fun m hm => hz m (by omega)⟩
  ·refine ⟨out.set (i + b.length) c, fun r he => ?_, by simp [hl], hd.set _ h0 h1, ?_, fun m hm => by rw [getD_set (by omega)]; exact hz m (by omega)⟩
   ·have h2 := hend (out.set (i + b.length) c) (b.length + 1) r (by omega) he
    refine Ev.step (fun k => ?_) h2
    have hw : wrap64 ((i : Int) + (b.length : Int)) = ((i + b.length : Nat) : Int) := by rw [w64 (by omega) (by omega)]; omega
    obtain ⟨g1, g2, g3, g4⟩ := mulB (o := 0) (y := 0) h0 h1 hx0 hx1 (by decide) (by decide) (by decide) (by decide)
    have e0 : (0 : Int) + x * 0 + c = c := by omega
    rw [e0] at g1 g3
    simp only [dioramaref02_Times.l1, hw, rd_nat, hx, Int.toNat_natCast]
    rw [if_neg (by omega), if_pos (by omega), if_pos (by omega), if_pos (by omega), if_pos (by omega), if_pos (by omega), digit_f, getD_ge (Nat.le_refl _), hz _ (Nat.le_refl _)]
    simp only [Option.bind_some, g1, g3]
    rw [tmodB h0, Int.emod_eq_of_lt h0 h1, Int.ediv_eq_zero_of_lt h0 h1, w1 (by omega)]
   ·rw [dv_set _ _ _ _ (by omega), hz _ (Nat.le_refl _)]
    simp [dv]
 | succ d ih =>
  intro j out c hj hd hl h0 h1 hz
  have hy := hb.getD (by decide) j
  have ho := hd.getD (by decide) (i + j)
  have c1 : (j : Int) < (b.length : Int) := by omega
  have c2 : 0 ≤ ((i + j : Nat) : Int) := by omega
  have c3 : ((i + j : Nat) : Int) < (out.length : Int) := by omega
  have c4 : 0 ≤ (i : Int) := by omega
  have c5 : (i : Int) < (a.length : Int) := by omega
  have c6 : i + j < out.length := by omega
  have c7 : j < b.length := by omega
  have hw : wrap64 ((i : Int) + (j : Int)) = ((i + j : Nat) : Int) := by rw [w64 (by omega) (by omega)]; omega
  have hw1 := w1 (i := j) (by omega)
  have HW := Aside0.mk (And.intro hw hw1)
  clear hw hw1
  generalize hyv : b.getD j 0 = y at *
  generalize hov : out.getD (i + j) 0 = o at *
  obtain ⟨g1, g2, g3, g4⟩ := mulB h0 h1 hx0 hx1 hy.1 hy.2 ho.1 ho.2
  have gm := Int.mul_ediv_add_emod (o + x * y + c) 1000000000
  have gr0 := Int.emod_nonneg (o + x * y + c) (show (1000000000 : Int) ≠ 0 by decide)
  have gr1 := Int.emod_lt_of_pos (o + x * y + c) (show (0 : Int) < 1000000000 by decide)
  have gq0 : 0 ≤ (o + x * y + c) / 1000000000 := Int.ediv_nonneg g2 (by decide)
  have gt := tmodB g2
  generalize (o + x * y + c) / 1000000000 = q at *
  generalize (o + x * y + c) % 1000000000 = r' at *
  have hs : r' + 1000000000 * q = c + (x * y + o) := by clear g1 g3 gt; omega
  have HG := Aside0.mk (And.intro g1 (And.intro g3 gt))
  clear g1 g3 gt gm
  obtain ⟨out', k1, k2, k3, k4, k5⟩ := ih (j + 1) (out.set (i + j) r') q (by omega) (hd.set _ gr0 gr1) (by simp [hl]) gq0 g4 (fun m hm => by rw [getD_set (by omega)]; exact hz m hm)
  refine ⟨out', fun r he => ?_, k2, k3, ?_, k5⟩
  ·refine Ev.step (fun k => ?_) (k1 r he)
   simp only [dioramaref02_Times.l1, HW.out.1, rd_nat, hx, Int.toNat_natCast]
   rw [if_pos c1, if_pos c2, if_pos c3, if_pos c4, if_pos c5, digit_f, hyv, hov]
   simp only [Option.bind_some, HG.out.1, HG.out.2.1, HG.out.2.2, HW.out.2]
  ·rw [k4, dv_set _ _ _ _ c6, hov, dv_drop 1000000000 b j c7, hyv, ← Nat.add_assoc, pw_succ]
   exact (mul_step hs).symm
theorem times_l0 (a b : List Int) (ha : Dg 1000000000 a) (hb : Dg 1000000000 b) (hn : a.length + b.length ≤ 1000000) :
  ∀ (d i : Nat) (out : List Int), i + d = a.length → Dg 1000000000 out → out.length = a.length + b.length → dv 1000000000 out = dv 1000000000 (a.take i) * dv 1000000000 b → (∀ m, i + b.length ≤ m → out.getD m 0 = 0) →
  ∃ r, Ev (fun k => dioramaref02_Times.l0 k a b out (i : Int)) r ∧ Nn r ∧ dv 1000000000 r = dv 1000000000 a * dv 1000000000 b ∧ r.length ≤ a.length + b.length := by
 intro d
 induction d with
 | zero =>
  intro i out hi hd hl hv hz
  obtain ⟨r, he, hc, hr, hlr⟩ := trimmed_f out hd (by omega)
  refine ⟨r, Ev.step (f := fun k => (dioramaref02_trimmed.f k out).bind fun t => some t) (fun k => ?_) (Ev.bind he (Ev.now _)), hc, by rw [hr, hv, nv_take_all (by omega)], by omega⟩
  simp only [dioramaref02_Times.l0]
  rw [if_neg (by omega)]
 | succ d ih =>
  intro i out hi hd hl hv hz
  have hx := ha.getD (by decide) i
  obtain ⟨out', k1, k2, k3, k4, k5⟩ := times_l1 a b i (a.getD i 0) rfl (by omega) hb hx.1 hx.2 hn b.length 0 out 0 (by omega) hd hl (by decide) (by decide) hz
  obtain ⟨r, he, h⟩ := ih (i + 1) out' (by omega) k3 k2 (by
   rw [k4, hv, dv_take_succ' _ a i]
   simp only [List.drop_zero, Nat.add_zero]
   grind) (fun m hm => k5 m (by omega))
  refine ⟨r, Ev.step (fun k => ?_) (k1 r he), h⟩
  simp only [dioramaref02_Times.l0]
  rw [if_pos (by omega)]
  rfl
theorem times_f (a b : List Int) (ha : Nn a) (hb : Nn b) (hn : a.length + b.length ≤ 1000000) : ∃ r, Ev (fun k => dioramaref02_Times.f k a b) r ∧ Nn r ∧ dv 1000000000 r = dv 1000000000 a * dv 1000000000 b ∧ r.length ≤ a.length + b.length := by
 have e1 : wrap64 ((a.length : Int) + (b.length : Int)) = ((a.length + b.length : Nat) : Int) := by rw [w64 (by omega) (by omega)]; omega
 obtain ⟨r, he, h⟩ := times_l0 a b ha.dg hb.dg hn a.length 0 (List.replicate (a.length + b.length) 0) (by omega) (Dg.replicate (by decide) _) (by simp) (by rw [dv_replicate]; simp [dv]) (fun m _ => by
  rw [List.getD_eq_getElem?_getD, List.getElem?_replicate]
  split <;> rfl)
 refine ⟨r, Ev.congr (fun k => ?_) he, h⟩
 simp only [dioramaref02_Times.f, e1, Int.toNat_natCast]
 rw [if_pos (by omega), if_pos (by omega)]
 rfl
theorem drop_le (l : List Int) (hd : Dg 1000000000 l) (i : Nat) : dv 1000000000 (l.drop i) ≤ dv 1000000000 l ∧ 0 ≤ dv 1000000000 (l.drop i) := by
 have h0 := dv_nonneg (by decide) (hd.drop i)
 refine ⟨?_, h0⟩
 by_cases hi : i ≤ l.length
 ·have h1 := dv_split 1000000000 l i hi
  have h2 := dv_nonneg (by decide) (hd.take i)
  have h3 : 0 < pw 1000000000 i := pow_pos (by decide) i
  have h4 : 1 * dv 1000000000 (l.drop i) ≤ pw 1000000000 i * dv 1000000000 (l.drop i) := Int.mul_le_mul_of_nonneg_right (by omega) h0
  omega
 ·rw [List.drop_of_length_le (by omega)]
  exact dv_nonneg (by decide) hd
theorem small_l (l : List Int) (hd : Dg 1000000000 l) (hn : l.length ≤ 1000000) (hs : dv 1000000000 l ≤ 9223372036854775807) : ∀ i : Nat, i ≤ l.length → Ev (fun k => dioramaref02_Small.l0 k l (dv 1000000000 (l.drop i)) ((i : Int) - 1)) (dv 1000000000 l, true) := by
 intro i
 induction i with
 | zero =>
  intro _
  refine Ev.step (f := fun _ => some (dv 1000000000 l, true)) (fun k => ?_) (Ev.now _)
  simp [dioramaref02_Small.l0]
 | succ i ih =>
  intro hi
  have e : (((i + 1 : Nat) : Int) - 1) = (i : Int) := by omega
  have h1 := dv_drop 1000000000 l i (by omega)
  have h2 := drop_le l hd i
  have h3 := drop_le l hd (i + 1)
  have hx := hd.getD (by decide) i
  rw [e]
  refine Ev.step (fun k => ?_) (ih (by omega))
  simp only [dioramaref02_Small.l0, rd_nat]
  rw [if_pos (by omega), if_pos (by omega), if_pos (by omega), w64 (x := _ * 1000000000) (by omega) (by omega), w64 (x := _ + _) (by omega) (by omega), w64 (x := (i : Int) - 1) (by omega) (by omega), h1]
  congr 1
  omega
theorem small_f (l : List Int) (most : Int) (hl : Nn l) (hn : l.length ≤ 1000000) (h0 : 0 ≤ most) (h1 : most ≤ 9223372036854775807) : Ev (fun k => dioramaref02_Small.f k l most) (if most < dv 1000000000 l then (0, false) else (dv 1000000000 l, true)) := by
 obtain ⟨r, he, hr, hv, hlr⟩ := of_f most h0 h1
 have hc := compare_f l r hl hr hn (by omega)
 rw [hv] at hc
 by_cases hb : most < dv 1000000000 l
 ·rw [if_pos hb]
  rw [cmp2 hb] at hc
  exact Ev.bind he (Ev.bind hc (Ev.congr (f := fun _ => some (0, false)) (fun k => by simp) (Ev.now _)))
 ·rw [if_neg hb]
  have hle : ¬ (Nd.cmpI (dv 1000000000 l) most > 0) := by
   unfold Nd.cmpI
   by_cases h2 : dv 1000000000 l < most
   ·rw [if_pos h2]; decide
   ·rw [if_neg h2, if_neg hb]; decide
  have h2 := small_l l hl.dg hn (by omega) l.length (Nat.le_refl _)
  rw [List.drop_of_length_le (Nat.le_refl _)] at h2
  refine Ev.bind he (Ev.bind hc (Ev.congr (fun k => ?_) h2))
  rw [if_neg hle, w64 (by omega) (by omega)]
  rfl
end Go.Proofs.Ytpbhepdgamoiaaa.Pb

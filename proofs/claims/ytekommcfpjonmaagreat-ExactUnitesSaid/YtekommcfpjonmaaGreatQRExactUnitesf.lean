/-
  Printed walks.
-/
import Derived.Test.YtekommcfpjonmaaGreatQRExactUnitesb
import Derived.Test.YtekommcfpjonmaaGreatQRExactUnitesc
import Derived.Test.YtekommcfpjonmaaGreatQRExactUnitesd
import Derived.Test.YtekommcfpjonmaaGreatQRExactUnitese
namespace Go.Proofs.YtekommcfpjonmaaGreat.E
open Go.Proofs.YtekommcfpjonmaaGreat.Z Go.RowKit Go.Proofs.YtekommcfpjonmaaGreatW.PrintWords Go.Proofs.YtekommcfpjonmaaGreatW.PrintLast Go.Proofs.YtekommcfpjonmaaGreatW.PrintMore
attribute [local go_sem] max2_int min2_int max_two min_two max_three min_three max_four min_four
set_option linter.unusedVariables false
set_option linter.unusedSimpArgs false
attribute [local go_sem high] eqA24
mutual
def dioramaref02_ends.l0 : Nat → List (S53) → List (S24) → Int → Option ((List (S24)))
  | 0, _, _, _ => none
  | k + 1, x0, x3, x4 => if x4 < (wrap64 (2 * (x0.length : Int))) then (if 0 ≤ (wrap64 (Int.tdiv x4 2)) then (if (wrap64 (Int.tdiv x4 2)) < (x0.length : Int) then (if (Int.tmod x4 2) = 1 then (dioramaref02_ends.j1 k x0 x3 x4 ((rd_T53 x0 (wrap64 (Int.tdiv x4 2))).f1.f0) ((rd_T53 x0 (wrap64 (Int.tdiv x4 2))).f1.f1)) else (dioramaref02_ends.j1 k x0 x3 x4 ((rd_T53 x0 (wrap64 (Int.tdiv x4 2))).f0.f0) ((rd_T53 x0 (wrap64 (Int.tdiv x4 2))).f0.f1))) else (none)) else (none)) else (some x3)
def dioramaref02_ends.j1 : Nat → List (S53) → List (S24) → Int → Int → Int → Option ((List (S24)))
  | 0, _, _, _, _, _ => none
  | k + 1, x0, x3, x4, x350000, x350001 => (dioramaref02_Lowest.f k x350000 x350001).bind fun bt351 => (dioramaref02_ends.l1 k x0 x3 x4 0 bt351.1 bt351.2.1)
def dioramaref02_ends.l1 : Nat → List (S53) → List (S24) → Int → Int → Int → Int → Option ((List (S24)))
  | 0, _, _, _, _, _, _ => none
  | k + 1, x0, x3, x4, x6, x350000, x350001 => if x6 < (x3.length : Int) then (if 0 ≤ x6 then ((dioramaref02_RatOf.f k ((rd_T24 x3 x6).f0) ((rd_T24 x3 x6).f1)).bind fun bt355 => ((dioramaref02_RatOf.f k x350000 x350001).bind fun bt362 => ((dioramaref02_Less.f k bt355.1 bt355.2.1 bt355.2.2 bt362.1 bt362.2.1 bt362.2.2).bind fun t369 => (if t369 = true then (dioramaref02_ends.l1 k x0 x3 x4 (wrap64 (x6 + 1)) x350000 x350001) else (if (((rd_T24 x3 x6).f0) == x350000 && (((rd_T24 x3 x6).f1) == x350001)) = true then (dioramaref02_ends.l0 k x0 x3 (wrap64 (x4 + 1))) else ((some (([] : List (S24)) : List (S24))).bind fun y371 => (if x6 ≤ (x3.length : Int) then ((some (x3.take (x6 : Int).toNat : List (S24))).bind fun y374 => (if y371.length + y374.length < 8796093022208 then ((some (y371 ++ y374 : List (S24))).bind fun y378 => (if y378.length < 8796093022208 then ((some (y378 ++ [(⟨x350000, x350001⟩ : S24)] : List (S24))).bind fun y381 => ((some (x3.drop (x6 : Int).toNat : List (S24))).bind fun y384 => (if y381.length + y384.length < 8796093022208 then (dioramaref02_ends.l0 k x0 (y381 ++ y384) (wrap64 (x4 + 1))) else (none)))) else (none))) else (none))) else (none)))))))) else (none)) else ((some (([] : List (S24)) : List (S24))).bind fun y391 => (if 0 ≤ x6 then (if x6 ≤ (x3.length : Int) then ((some (x3.take (x6 : Int).toNat : List (S24))).bind fun y394 => (if y391.length + y394.length < 8796093022208 then ((some (y391 ++ y394 : List (S24))).bind fun y398 => (if y398.length < 8796093022208 then ((some (y398 ++ [(⟨x350000, x350001⟩ : S24)] : List (S24))).bind fun y401 => ((some (x3.drop (x6 : Int).toNat : List (S24))).bind fun y404 => (if y401.length + y404.length < 8796093022208 then (dioramaref02_ends.l0 k x0 (y401 ++ y404) (wrap64 (x4 + 1))) else (none)))) else (none))) else (none))) else (none)) else (none)))
end
def dioramaref02_ends.f (k : Nat) (l0 : List (S53)) : Option ((List (S24))) := dioramaref02_ends.l0 k l0 ([] : List (S24)) 0
set_option maxHeartbeats 8000000 in
set_option maxRecDepth 100000 in
theorem dioramaref02_ends.calls (k : Nat) (A0 : Option Addr) (c0 : Nat) (l0 : List (S53)) (r : List (S24)) (w : World) (hr0 : Kd.C k53 w A0 l0.length l0) (hc0 : l0.length ≤ c0) (h : dioramaref02_ends.f k l0 = some r) :
  Calls Tryz.prog 98 #[.slice A0 l0.length c0] w fun e w' => ∃ v0_ : Value, e = .returned (v0_) ∧ Kd.R k24 24 w' w.heap.size (fun _ => True) v0_ r ∧ Below w.heap.size w w' := by
 have hu24 := Tryz.underlying24; have HR0 := Aside0.mk hr0; have HC0 := Aside0.mk hc0; clear hr0 hc0; have HB := Aside0.mk (Below.refl w.heap.size w); have H : (dioramaref02_ends.l0 k l0 ([] : List (S24)) 0) = some r := h; clear h; have H' := Aside0.mk H; clear H
 go_enter Tryz.func98, Tryz.ntmps98
 go_wp2
 go_loopg [3, 4] k (fun kq v3 v4 w' => ∃ (x3_1 : List (S24)) (x4_1 : Int), v4 = .int .i64 x4_1 ∧ Aside0 (dioramaref02_ends.l0 kq l0 x3_1 x4_1 = some r) ∧ Aside0 (kq ≤ k) ∧ Aside0 (Kd.R k24 24 w' w.heap.size (fun _ => True) v3 x3_1) ∧ Aside0 (Below w.heap.size w w'))
 case atStart => exact ⟨(([] : List (S24))), (0), jz, H', ⟨Nat.le_refl _⟩, ⟨by first | exact Kd.R_nil _ _ _ _ _ | exact Kd.N_nil _ _ _ _ _ | exact Kd.V_nil _ _ _ _ _ | exact Kd.Q_nil _ _ _ _ _ | exact Kd.S_nil _ _ _ _ _⟩, ⟨bz⟩⟩
 case round =>
  clear H'; obtain ⟨x3_1, x4_1, rfl, HA, HK1, HO_3, HB⟩ := hrel
  cases gk with
  | zero => exact absurd HA.out (by simp [dioramaref02_ends.l0])
  | succ k1 =>
   have H := HA.out; clear HA; simp only [dioramaref02_ends.l0] at H
   by_cases c2 : x4_1 < (wrap64 (2 * (l0.length : Int)))
   ·rw [if_pos c2] at H; have c2b0 : decide (x4_1 < (wrap64 (2 * (l0.length : Int)))) = true := decide_eq_true c2; clear c2; obtain ⟨ji3, hji3⟩ : ∃ j_ : Int, (wrap64 (Int.tdiv x4_1 2)) = j_ := ⟨_, rfl⟩; replace H : (if 0 ≤ (ji3) then (if (ji3) < (l0.length : Int) then (if (Int.tmod x4_1 2) = 1 then (dioramaref02_ends.j1 k1 l0 x3_1 x4_1 ((rd_T53 l0 (ji3)).f1.f0) ((rd_T53 l0 (ji3)).f1.f1)) else (dioramaref02_ends.j1 k1 l0 x3_1 x4_1 ((rd_T53 l0 (ji3)).f0.f0) ((rd_T53 l0 (ji3)).f0.f1))) else (none)) else (none)) = some r := by first | (rw [hji3] at H; exact H) | (simp only [hji3] at H ⊢; exact H)
    have hji3w : (IntKind.i64.wrap (Int.tdiv x4_1 2)) = ji3 := (i64_w _).trans hji3
    by_cases c4 : 0 ≤ (ji3)
    ·rw [if_pos c4] at H; have c4b0 : decide (0 ≤ (ji3)) = true := decide_eq_true c4; clear c4
     by_cases c5 : (ji3) < (l0.length : Int)
     ·rw [if_pos c5] at H; have c5b0 : decide ((ji3) < (l0.length : Int)) = true := decide_eq_true c5; clear c5; have HC6 := Aside0.mk H; clear H; have p348 : 0 ≤ ((ji3) : Int) := od; have q348 : (ji3) < (l0.length : Int) := od; obtain ⟨ad348, e348, hx348_0, hx348_1, hx348_2, hx348_3⟩ := at_T53 HR0.out (ji3) p348 q348
      cases e348
      replace hx348_0 := cl HB hx348_0; replace hx348_1 := cl HB hx348_1; replace hx348_2 := cl HB hx348_2; replace hx348_3 := cl HB hx348_3; replace p348 := eq_true p348; replace q348 := eq_true q348
      go_upto_if 23 with (first | ((with_reducible refine gate_dst (N := 5) rfl ?_); refine zB 5 24 #[.int .i64 0, .int .i64 0] ?_; intro gb349 hg w7 hbox hb; replace HO_3 := Aside0.mk (Kd.R_below (Kd.R_elderB (rz HO_3) gb349 (Nat.le_of_eq hg.symm)) hb); have BK349 := Aside0.mk hbox; have GW349 := gz hg; have GE349 := gz hg; replace HB := bp hb; clear hb hbox hg; obtain ⟨hcz8_0, hcz8_1, hfz8_0, hfz8_1⟩ := xc2 BK349))
      (try simp only [Act.put, List.setIfInBounds_toArray, List.set_cons_zero, List.set_cons_succ])
      go_cut [] (fun wc => ∃ (kq : Nat) (x350000_5 : Int) (x350001_5 : Int), Aside0 (dioramaref02_ends.j1 kq l0 x3_1 x4_1 x350000_5 x350001_5 = some r) ∧ Aside0 (kq ≤ k1) ∧ Aside0 (Kd.R k24 24 wc w.heap.size (fun k_ => k_ ≠ gb349) u3 x3_1) ∧ Aside0 (wc.heap[gb349]? = some (.cells #[.int .i64 x350000_5, .int .i64 x350001_5] 24 (0, 0))) ∧ Aside0 (Below w.heap.size w wc))
      case first =>
       have H := HC6.out; clear HC6
       by_cases c9 : (Int.tmod x4_1 2) = 1
       ·rw [if_pos c9] at H; have c9b0 : ((Int.tmod x4_1 2) == 1) = true := beq_iff_eq.mpr c9; have c9b1 : ((Int.tmod x4_1 2) != 1) = false := bne_eq_false_iff_eq.mpr c9; clear c9
        (first | rw [c9b0] | (simp only [i64_w, i32_w]; rw [c9b0]) | skip)
        have H' := Aside0.mk H; clear H; have p350 : 0 ≤ ((ji3) : Int) := od; have q350 : (ji3) < (l0.length : Int) := od; obtain ⟨ad350, e350, hx350_0, hx350_1, hx350_2, hx350_3⟩ := at_T53 HR0.out (ji3) p350 q350; obtain rfl : ad348 = ad350 := (by injection e350); have hn350_0 : ad348.block ≠ gb349 := Nat.ne_of_lt (Nat.lt_of_lt_of_le (by have := World.block_lt_of_cell? _ _ hx350_0; first | rwa [add_block] at this | exact this) GW349.out); have hn350_1 : ad348.block ≠ gb349 := Nat.ne_of_lt (Nat.lt_of_lt_of_le (by have := World.block_lt_of_cell? _ _ hx350_0; first | rwa [add_block] at this | exact this) GW349.out); replace hx350_0 := cl HB hx350_0; replace hx350_1 := cl HB hx350_1; replace hx350_2 := cl HB hx350_2; replace hx350_3 := cl HB hx350_3; replace hx350_0 := (cell_far (p := ⟨gb349, 0, none⟩) (by first | (rw [add_block]; exact hn350_0) | (show (Addr.add _ _).block ≠ _; rw [add_block]; exact hn350_0) | exact hn350_0) (.int .i64 ((rd_T53 l0 (ji3)).f0.f0))).trans hx350_0; replace hx350_1 := (cell_far (p := ⟨gb349, 0, none⟩) (by first | (rw [add_block]; exact hn350_0) | (show (Addr.add _ _).block ≠ _; rw [add_block]; exact hn350_0) | exact hn350_0) (.int .i64 ((rd_T53 l0 (ji3)).f0.f0))).trans hx350_1; replace hx350_2 := (cell_far (p := ⟨gb349, 0, none⟩) (by first | (rw [add_block]; exact hn350_0) | (show (Addr.add _ _).block ≠ _; rw [add_block]; exact hn350_0) | exact hn350_0) (.int .i64 ((rd_T53 l0 (ji3)).f0.f0))).trans hx350_2; replace hx350_3 := (cell_far (p := ⟨gb349, 0, none⟩) (by first | (rw [add_block]; exact hn350_0) | (show (Addr.add _ _).block ≠ _; rw [add_block]; exact hn350_0) | exact hn350_0) (.int .i64 ((rd_T53 l0 (ji3)).f0.f0))).trans hx350_3; replace hx350_0 := (cell_far (p := ⟨gb349, 1, none⟩) (by first | (rw [add_block]; exact hn350_1) | (show (Addr.add _ _).block ≠ _; rw [add_block]; exact hn350_1) | exact hn350_1) (.int .i64 ((rd_T53 l0 (ji3)).f0.f1))).trans hx350_0; replace hx350_1 := (cell_far (p := ⟨gb349, 1, none⟩) (by first | (rw [add_block]; exact hn350_1) | (show (Addr.add _ _).block ≠ _; rw [add_block]; exact hn350_1) | exact hn350_1) (.int .i64 ((rd_T53 l0 (ji3)).f0.f1))).trans hx350_1; replace hx350_2 := (cell_far (p := ⟨gb349, 1, none⟩) (by first | (rw [add_block]; exact hn350_1) | (show (Addr.add _ _).block ≠ _; rw [add_block]; exact hn350_1) | exact hn350_1) (.int .i64 ((rd_T53 l0 (ji3)).f0.f1))).trans hx350_2; replace hx350_3 := (cell_far (p := ⟨gb349, 1, none⟩) (by first | (rw [add_block]; exact hn350_1) | (show (Addr.add _ _).block ≠ _; rw [add_block]; exact hn350_1) | exact hn350_1) (.int .i64 ((rd_T53 l0 (ji3)).f0.f1))).trans hx350_3; clear hn350_0; clear hn350_1; replace p350 := eq_true p350; replace q350 := eq_true q350; obtain ⟨hcz10_0, hcz10_1, hfz10_0, hfz10_1⟩ := xc2 BK349
        go_wp2
        go_meet
        case rel => exact ⟨_, ((rd_T53 l0 (ji3)).f1.f0), ((rd_T53 l0 (ji3)).f1.f1), H', ⟨by have := HK1.out; first | omega | exact Nat.le_refl _⟩, ⟨by (with_reducible repeat (first | apply Kd.R_alloc | apply Kd.R_drewN | apply Kd.R_drew)); exact Kd.R_mono (Kd.R_far (p := ⟨gb349, 1, none⟩) (Kd.R_far (p := ⟨gb349, 0, none⟩) (Kd.R_far (p := ⟨gb349, 1, none⟩) (Kd.R_far (p := ⟨gb349, 0, none⟩) (Kd.R_mono HO_3.out (fun k_ hk => (⟨hk, hk.2⟩ : _ ∧ k_ ≠ gb349))) (fun _ hk => hk.2) (.int .i64 ((rd_T53 l0 (ji3)).f0.f0))) (fun _ hk => hk.2) (.int .i64 ((rd_T53 l0 (ji3)).f0.f1))) (fun _ hk => hk.2) (.int .i64 ((rd_T53 l0 (ji3)).f1.f0))) (fun _ hk => hk.2) (.int .i64 ((rd_T53 l0 (ji3)).f1.f1))) (fun _ hk => hk.1.2)⟩, ⟨by (with_reducible repeat (first | refine blk_drewN ?_ _ | refine blk_drew ?_ | refine blk_alloc ?_ _)); refine blk_put (cs := #[.int .i64 ((rd_T53 l0 (ji3)).f1.f0), .int .i64 ((rd_T53 l0 (ji3)).f0.f1)]) ?_ 1 _ rfl; (with_reducible repeat (first | refine blk_drewN ?_ _ | refine blk_drew ?_ | refine blk_alloc ?_ _)); refine blk_put (cs := #[.int .i64 ((rd_T53 l0 (ji3)).f0.f0), .int .i64 ((rd_T53 l0 (ji3)).f0.f1)]) ?_ 0 _ rfl; (with_reducible repeat (first | refine blk_drewN ?_ _ | refine blk_drew ?_ | refine blk_alloc ?_ _)); refine blk_put (cs := #[.int .i64 ((rd_T53 l0 (ji3)).f0.f0), .int .i64 0]) ?_ 1 _ rfl; (with_reducible repeat (first | refine blk_drewN ?_ _ | refine blk_drew ?_ | refine blk_alloc ?_ _)); refine blk_put (cs := #[.int .i64 0, .int .i64 0]) ?_ 0 _ rfl; (with_reducible repeat (first | refine blk_drewN ?_ _ | refine blk_drew ?_ | refine blk_alloc ?_ _)); exact BK349.out⟩, ⟨bz⟩⟩
       ·rw [if_neg c9] at H; have c9b0 : ((Int.tmod x4_1 2) == 1) = false := beq_eq_false_iff_ne.mpr c9; have c9b1 : ((Int.tmod x4_1 2) != 1) = true := bne_iff_ne.mpr c9
        (first | rw [c9b0] | (simp only [i64_w, i32_w]; rw [c9b0]) | skip)
        have H' := Aside0.mk H; clear H
        go_wp2
        go_meet
        case rel => exact ⟨_, ((rd_T53 l0 (ji3)).f0.f0), ((rd_T53 l0 (ji3)).f0.f1), H', ⟨by have := HK1.out; first | omega | exact Nat.le_refl _⟩, ⟨by (with_reducible repeat (first | apply Kd.R_alloc | apply Kd.R_drewN | apply Kd.R_drew)); exact Kd.R_mono (Kd.R_far (p := ⟨gb349, 1, none⟩) (Kd.R_far (p := ⟨gb349, 0, none⟩) (Kd.R_mono HO_3.out (fun k_ hk => (⟨hk, hk.2⟩ : _ ∧ k_ ≠ gb349))) (fun _ hk => hk.2) (.int .i64 ((rd_T53 l0 (ji3)).f0.f0))) (fun _ hk => hk.2) (.int .i64 ((rd_T53 l0 (ji3)).f0.f1))) (fun _ hk => hk.1.2)⟩, ⟨by (with_reducible repeat (first | refine blk_drewN ?_ _ | refine blk_drew ?_ | refine blk_alloc ?_ _)); refine blk_put (cs := #[.int .i64 ((rd_T53 l0 (ji3)).f0.f0), .int .i64 0]) ?_ 1 _ rfl; (with_reducible repeat (first | refine blk_drewN ?_ _ | refine blk_drew ?_ | refine blk_alloc ?_ _)); refine blk_put (cs := #[.int .i64 0, .int .i64 0]) ?_ 0 _ rfl; (with_reducible repeat (first | refine blk_drewN ?_ _ | refine blk_drew ?_ | refine blk_alloc ?_ _)); exact BK349.out⟩, ⟨bz⟩⟩
      case rest =>
       clear HC6
       try clear c2
       try clear c2b0
       try clear p2
       try clear p3
       try clear q3
       try clear hx3
       try clear c4
       try clear c4b0
       try clear c5
       try clear c5b0
       try clear p6
       try clear c9
       try clear c9b0
       try clear c9b1
       try clear hcz10_0
       try clear hcz10_1
       try clear hcz8_0
       try clear hcz8_1
       try clear hfz10_0
       try clear hfz10_1
       try clear hfz8_0
       try clear hfz8_1
       try clear hx348_0
       try clear hx348_1
       try clear hx348_2
       try clear hx348_3
       try clear hx350_0
       try clear hx350_1
       try clear hx350_2
       try clear hx350_3
       try clear p348
       try clear p350
       try clear q348
       try clear q350
       obtain ⟨kq, x350000_5, x350001_5, HA, HJ5, HO_3, BK349, HB⟩ := hcut
       cases kq with
       | zero => exact absurd HA.out (by simp [dioramaref02_ends.j1])
       | succ kj5 =>
        have H := HA.out; clear HA; simp only [dioramaref02_ends.j1] at H; obtain ⟨⟨t351, t352, t353⟩, A11, H⟩ := ob H
        (try dsimp only at H)
        have H' := Aside0.mk H; clear H; obtain ⟨hcz12_0, hcz12_1, hfz12_0, hfz12_1⟩ := xc2 BK349
        go_wp2_with (first | ((with_reducible refine gate_callee (f := 146) rfl ?_); refine zC 32 Tryz.func146 #[.agg #[.int .i64 x350000_5, .int .i64 x350001_5]] ?_; (with_reducible refine (dioramaref02_Lowest.calls kj5 x350000_5 x350001_5 t351 t352 t353 _ A11.out).mono ?_); rintro e w13 ⟨rfl, hb⟩; refine ⟨_, rfl, ?_⟩; replace HO_3 := Aside0.mk (Kd.R_below (rz HO_3) hb); replace BK349 := kb BK349 hb; replace HB := bp hb; clear hb; obtain ⟨hcz14_0, hcz14_1, hfz14_0, hfz14_1⟩ := xc2 BK349))
        go_loopg [6] kj5 (fun kq v6 w' => ∃ (x6_3 : Int), v6 = .int .i64 x6_3 ∧ Aside0 (dioramaref02_ends.l1 kq l0 x3_1 x4_1 x6_3 t351 t352 = some r) ∧ Aside0 (kq ≤ kj5) ∧ Aside0 (Kd.R k24 24 w' w.heap.size (fun k_ => k_ ≠ gb349) u3 x3_1) ∧ Aside0 (w'.heap[gb349]? = some (.cells #[.int .i64 t351, .int .i64 t352] 24 (0, 0))) ∧ Aside0 (Below w.heap.size w w'))
        case atStart => exact ⟨(0), jz, H', ⟨Nat.le_refl _⟩, ⟨by (with_reducible repeat (first | apply Kd.R_alloc | apply Kd.R_drewN | apply Kd.R_drew)); exact Kd.R_mono (Kd.R_far (p := ⟨gb349, 1, none⟩) (Kd.R_far (p := ⟨gb349, 0, none⟩) (Kd.R_mono HO_3.out (fun k_ hk => (⟨hk, hk⟩ : _ ∧ k_ ≠ gb349))) (fun _ hk => hk.2) (.int .i64 t351)) (fun _ hk => hk.2) (.int .i64 t352)) (fun _ hk => hk.1)⟩, ⟨by (with_reducible repeat (first | refine blk_drewN ?_ _ | refine blk_drew ?_ | refine blk_alloc ?_ _)); refine blk_put (cs := #[.int .i64 t351, .int .i64 x350001_5]) ?_ 1 _ rfl; (with_reducible repeat (first | refine blk_drewN ?_ _ | refine blk_drew ?_ | refine blk_alloc ?_ _)); refine blk_put (cs := #[.int .i64 x350000_5, .int .i64 x350001_5]) ?_ 0 _ rfl; (with_reducible repeat (first | refine blk_drewN ?_ _ | refine blk_drew ?_ | refine blk_alloc ?_ _)); exact BK349.out⟩, ⟨bz⟩⟩
        case round =>
         clear H'
         try clear c1
         try clear c2
         try clear c2b0
         try clear p2
         try clear p3
         try clear q3
         try clear hx3
         try clear c4
         try clear c4b0
         try clear c5
         try clear c5b0
         try clear p6
         try clear c9
         try clear c9b0
         try clear c9b1
         try clear c14
         try clear hcz10_0
         try clear hcz10_1
         try clear hcz12_0
         try clear hcz12_1
         try clear hcz14_0
         try clear hcz14_1
         try clear hcz8_0
         try clear hcz8_1
         try clear hfz10_0
         try clear hfz10_1
         try clear hfz12_0
         try clear hfz12_1
         try clear hfz14_0
         try clear hfz14_1
         try clear hfz8_0
         try clear hfz8_1
         try clear hx348_0
         try clear hx348_1
         try clear hx348_2
         try clear hx348_3
         try clear hx350_0
         try clear hx350_1
         try clear hx350_2
         try clear hx350_3
         try clear p2
         try clear p3
         try clear p348
         try clear p350
         try clear p6
         try clear q3
         try clear q348
         try clear q350
         obtain ⟨x6_3, rfl, HA, HK3, HO_3, BK349, HB⟩ := hrel
         cases gk with
         | zero => exact absurd HA.out (by simp [dioramaref02_ends.l1])
         | succ k3 =>
          have H := HA.out; clear HA; simp only [dioramaref02_ends.l1] at H
          by_cases c15 : x6_3 < (x3_1.length : Int)
          ·rw [if_pos c15] at H; have c15b0 : decide (x6_3 < (x3_1.length : Int)) = true := decide_eq_true c15; clear c15
           by_cases c16 : 0 ≤ x6_3
           ·rw [if_pos c16] at H; have c16b0 : decide (0 ≤ x6_3) = true := decide_eq_true c16; clear c16; obtain ⟨⟨t355, t356, t359⟩, A17, H⟩ := ob H
            (try dsimp only at H)
            obtain ⟨⟨t362, t363, t366⟩, A18, H⟩ := ob H
            (try dsimp only at H)
            obtain ⟨t369, A19, H⟩ := ob H
            by_cases c20 : t369 = true
            ·subst c20; rw [if_pos rfl] at H; have H' := Aside0.mk H; clear H
             try go_wp2
             replace HO_3 := Aside0.mk (Kd.R_drew HO_3.out); replace BK349 := Aside0.mk (blk_drew BK349.out); replace HB := Aside0.mk (below_drew1 HB.out); obtain ⟨Ao22, co22, eo22⟩ := Kd.R_slice HO_3.out
             (first | subst eo22 | (injection eo22 with f1_ f2_ f3_; have f4_ := f1_.symm; have f5_ := f3_.symm; clear f1_ f2_ f3_; subst f4_; subst f5_))
             have p354 : 0 ≤ (x6_3 : Int) := od; have q354 : x6_3 < (x3_1.length : Int) := od; obtain ⟨ad354, e354, hx354_0, hx354_1⟩ := at_T24 (Kd.R_reads' HO_3.out).2.2 x6_3 p354 q354
             cases e354
             replace p354 := eq_true p354; replace q354 := eq_true q354; refine start_ (n := 14) (S := fun w' => w'.cell? ⟨gb349, 0, none⟩ = some (.int .i64 t351) ∧ w'.cell? ⟨gb349, 1, none⟩ = some (.int .i64 t352) ∧ w'.cell? (ad354.add ((x6_3).toNat * 2)) = some (.int .i64 ((rd_T24 x3_1 x6_3).f0)) ∧ w'.cell? ⟨(ad354.add ((x6_3).toNat * 2)).block, (ad354.add ((x6_3).toNat * 2)).off + 1, none⟩ = some (.int .i64 ((rd_T24 x3_1 x6_3).f1))) (ds := []) (bs 14 0) (by kernel_rfl) rfl rfl ⟨ct BK349 0, ct BK349 1, hx354_0, hx354_1⟩ (fun hHeld => ?_)
             generalize wr.drew = w21 at HO_3 BK349 HB hx354_0 hx354_1 hHeld ⊢; refine zP 0 35 14 1 ?_; refine zP 1 36 14 3 ?_; refine zP 2 37 14 7 ?_; refine zP 3 38 14 15 ?_; refine zP 4 39 14 31 ?_; refine zP 5 40 14 63 ?_; refine zP 6 41 14 127 ?_; refine zP 7 42 14 255 ?_; refine zT 8 43 14 511 hHeld ?_; refine zT 10 45 14 1535 hHeld ?_; refine zN 9 (some 44) 14 2047 (fun K hK => ?_); refine zG Tryz.func68 #[.agg #[.int .i64 ((rd_T24 x3_1 x6_3).f0), .int .i64 ((rd_T24 x3_1 x6_3).f1)]] ?_
             with_reducible refine (dioramaref02_RatOf.calls k3 ((rd_T24 x3_1 x6_3).f0) ((rd_T24 x3_1 x6_3).f1) t355 t356 t359 _ A17.out).mono ?_
             rintro e w23 ⟨v357, v360, rfl, ho0, ho1, hb⟩; have HS2_ := (hb.cell (World.block_lt_of_cell? _ _ (hHeld.2.2.1))).trans (hHeld.2.2.1); have HS3_ := (hb.cell (World.block_lt_of_cell? _ _ (hHeld.2.2.2))).trans (hHeld.2.2.2); refine ⟨_, rfl, ?_⟩; replace HO_3 := Aside0.mk (Kd.R_below (rz HO_3) hb); have HO358 := Aside0.mk (Kd.R_lower ho0 sz); have HO361 := Aside0.mk (Kd.R_lower ho1 sz); replace BK349 := kb BK349 hb; replace HB := bp hb; clear hb ho0 ho1; refine hK.out _ _ ⟨ct BK349 0, ct BK349 1, HS2_, HS3_⟩ (fun hHeld => ?_); clear hK K; refine zM 44 ?_; refine zN 11 (some 46) 14 4095 (fun K hK => ?_); refine zG Tryz.func68 #[.agg #[.int .i64 t351, .int .i64 t352]] ?_
             with_reducible refine (dioramaref02_RatOf.calls k3 t351 t352 t362 t363 t366 _ A18.out).mono ?_
             rintro e w24 ⟨v364, v367, rfl, ho0, ho1, hb⟩; have HS2_ := (hb.cell (World.block_lt_of_cell? _ _ (hHeld.2.2.1))).trans (hHeld.2.2.1); have HS3_ := (hb.cell (World.block_lt_of_cell? _ _ (hHeld.2.2.2))).trans (hHeld.2.2.2); refine ⟨_, rfl, ?_⟩; replace HO_3 := Aside0.mk (Kd.R_below (rz HO_3) hb); have HO365 := Aside0.mk (Kd.R_lower (Kd.R_new' (Kd.R_new' ho0 (Kd.R_lt (rz HO358))) (Kd.R_lt (rz HO361))) sz); have HO368 := Aside0.mk (Kd.R_lower (Kd.R_new' (Kd.R_new' ho1 (Kd.R_lt (rz HO358))) (Kd.R_lt (rz HO361))) sz); replace HO358 := Aside0.mk (Kd.R_mono (Kd.R_told (Kd.R_told (Kd.R_old (rz HO358) hb) (Kd.R_base ho0)) (Kd.R_base ho1)) (fun _ h_ => h_.1)); replace HO361 := Aside0.mk (Kd.R_mono (Kd.R_told (Kd.R_told (Kd.R_old (rz HO361) hb) (Kd.R_base ho0)) (Kd.R_base ho1)) (fun _ h_ => h_.1)); replace BK349 := kb BK349 hb; replace HB := bp hb; clear hb ho0 ho1; obtain ⟨Ao25, co25, eo25⟩ := Kd.R_slice HO358.out
             (first | subst eo25 | (injection eo25 with f1_ f2_ f3_; have f4_ := f1_.symm; have f5_ := f3_.symm; clear f1_ f2_ f3_; subst f4_; subst f5_))
             obtain ⟨Ao26, co26, eo26⟩ := Kd.R_slice HO361.out
             (first | subst eo26 | (injection eo26 with f1_ f2_ f3_; have f4_ := f1_.symm; have f5_ := f3_.symm; clear f1_ f2_ f3_; subst f4_; subst f5_))
             obtain ⟨Ao27, co27, eo27⟩ := Kd.R_slice HO365.out
             (first | subst eo27 | (injection eo27 with f1_ f2_ f3_; have f4_ := f1_.symm; have f5_ := f3_.symm; clear f1_ f2_ f3_; subst f4_; subst f5_))
             obtain ⟨Ao28, co28, eo28⟩ := Kd.R_slice HO368.out
             (first | subst eo28 | (injection eo28 with f1_ f2_ f3_; have f4_ := f1_.symm; have f5_ := f3_.symm; clear f1_ f2_ f3_; subst f4_; subst f5_))
             refine hK.out _ _ ⟨ct BK349 0, ct BK349 1, HS2_, HS3_⟩ (fun hHeld => ?_); clear hK K; refine zM 46 ?_; refine zN 12 (some 47) 14 8191 (fun K hK => ?_); refine zG Tryz.func76 #[.agg #[.bool t355, .slice Ao25 t356.length co25, .slice Ao26 t359.length co26], .agg #[.bool t362, .slice Ao27 t363.length co27, .slice Ao28 t366.length co28]] ?_
             with_reducible refine (dioramaref02_Less.calls k3 t355 _ _ t356 _ _ t359 t362 _ _ t363 _ _ t366 true _ ?side1 ?side2 ?side3 ?side4 ?side5 ?side6 ?side7 ?side8 A19.out).mono ?_
             (case side1 => exact cr HO358)
             (case side2 => exact (Kd.R_reads' HO358.out).2.1)
             (case side3 => exact cr HO361)
             (case side4 => exact (Kd.R_reads' HO361.out).2.1)
             (case side5 => exact cr HO365)
             (case side6 => exact (Kd.R_reads' HO365.out).2.1)
             (case side7 => exact cr HO368)
             (case side8 => exact (Kd.R_reads' HO368.out).2.1)
             rintro e w29 ⟨rfl, hb⟩; have HS2_ := (hb.cell (World.block_lt_of_cell? _ _ (hHeld.2.2.1))).trans (hHeld.2.2.1); have HS3_ := (hb.cell (World.block_lt_of_cell? _ _ (hHeld.2.2.2))).trans (hHeld.2.2.2); refine ⟨_, rfl, ?_⟩; replace HO_3 := Aside0.mk (Kd.R_below (rz HO_3) hb); replace HO358 := Aside0.mk (Kd.R_below (rz HO358) hb); replace HO361 := Aside0.mk (Kd.R_below (rz HO361) hb); replace HO365 := Aside0.mk (Kd.R_below (rz HO365) hb); replace HO368 := Aside0.mk (Kd.R_below (rz HO368) hb); replace BK349 := kb BK349 hb; replace HB := bp hb; clear hb; refine hK.out _ _ ⟨ct BK349 0, ct BK349 1, HS2_, HS3_⟩ (fun hHeld => ?_); clear hK K; refine zM 47 ?_; refine zP 13 48 14 16383 ?_; refine done_ (by kernel_rfl) ?_
             try go_wp2
             go_roundg k3
             case measure => have := HK1.out; have := HJ5.out; have := HK3.out; omega
             case rel => exact ⟨(wrap64 (x6_3 + 1)), jz, H', ⟨by have := HK1.out; have := HJ5.out; have := HK3.out; omega⟩, ⟨rz HO_3⟩, ⟨kz⟩, ⟨bz⟩⟩
            ·obtain rfl := bf c20; rw [if_neg (show ¬ (false = true) by decide)] at H
             by_cases c30 : (((rd_T24 x3_1 x6_3).f0) == t351 && (((rd_T24 x3_1 x6_3).f1) == t352)) = true
             ·rw [if_pos c30] at H; have c30b0 : (((rd_T24 x3_1 x6_3).f0) == t351 && (((rd_T24 x3_1 x6_3).f1) == t352)) = true := c30
              (try (have c30b1 : decide (((rd_T24 x3_1 x6_3).f0) = t351 && (((rd_T24 x3_1 x6_3).f1) == t352)) = true := by simpa using c30))
              (try (have c30b2 : (((rd_T24 x3_1 x6_3).f0) == t351 && (((rd_T24 x3_1 x6_3).f1) == t352)) = true := by simpa using c30))
              clear c30; have H' := Aside0.mk H; clear H
              try go_wp2
              replace HO_3 := Aside0.mk (Kd.R_drew HO_3.out); replace BK349 := Aside0.mk (blk_drew BK349.out); replace HB := Aside0.mk (below_drew1 HB.out); obtain ⟨Ao32, co32, eo32⟩ := Kd.R_slice HO_3.out
              (first | subst eo32 | (injection eo32 with f1_ f2_ f3_; have f4_ := f1_.symm; have f5_ := f3_.symm; clear f1_ f2_ f3_; subst f4_; subst f5_))
              have p354 : 0 ≤ (x6_3 : Int) := od; have q354 : x6_3 < (x3_1.length : Int) := od; obtain ⟨ad354, e354, hx354_0, hx354_1⟩ := at_T24 (Kd.R_reads' HO_3.out).2.2 x6_3 p354 q354
              cases e354
              replace p354 := eq_true p354; replace q354 := eq_true q354; refine start_ (n := 14) (S := fun w' => w'.cell? ⟨gb349, 0, none⟩ = some (.int .i64 t351) ∧ w'.cell? ⟨gb349, 1, none⟩ = some (.int .i64 t352) ∧ w'.cell? (ad354.add ((x6_3).toNat * 2)) = some (.int .i64 ((rd_T24 x3_1 x6_3).f0)) ∧ w'.cell? ⟨(ad354.add ((x6_3).toNat * 2)).block, (ad354.add ((x6_3).toNat * 2)).off + 1, none⟩ = some (.int .i64 ((rd_T24 x3_1 x6_3).f1))) (ds := []) (bs 14 0) (by kernel_rfl) rfl rfl ⟨ct BK349 0, ct BK349 1, hx354_0, hx354_1⟩ (fun hHeld => ?_)
              generalize wr.drew = w31 at HO_3 BK349 HB hx354_0 hx354_1 hHeld ⊢; refine zP 0 35 14 1 ?_; refine zP 1 36 14 3 ?_; refine zP 2 37 14 7 ?_; refine zP 3 38 14 15 ?_; refine zP 4 39 14 31 ?_; refine zP 5 40 14 63 ?_; refine zP 6 41 14 127 ?_; refine zP 7 42 14 255 ?_; refine zT 8 43 14 511 hHeld ?_; refine zT 10 45 14 1535 hHeld ?_; refine zN 9 (some 44) 14 2047 (fun K hK => ?_); refine zG Tryz.func68 #[.agg #[.int .i64 ((rd_T24 x3_1 x6_3).f0), .int .i64 ((rd_T24 x3_1 x6_3).f1)]] ?_
              with_reducible refine (dioramaref02_RatOf.calls k3 ((rd_T24 x3_1 x6_3).f0) ((rd_T24 x3_1 x6_3).f1) t355 t356 t359 _ A17.out).mono ?_
              rintro e w33 ⟨v357, v360, rfl, ho0, ho1, hb⟩; have HS2_ := (hb.cell (World.block_lt_of_cell? _ _ (hHeld.2.2.1))).trans (hHeld.2.2.1); have HS3_ := (hb.cell (World.block_lt_of_cell? _ _ (hHeld.2.2.2))).trans (hHeld.2.2.2); refine ⟨_, rfl, ?_⟩; replace HO_3 := Aside0.mk (Kd.R_below (rz HO_3) hb); have HO358 := Aside0.mk (Kd.R_lower ho0 sz); have HO361 := Aside0.mk (Kd.R_lower ho1 sz); replace BK349 := kb BK349 hb; replace HB := bp hb; clear hb ho0 ho1; refine hK.out _ _ ⟨ct BK349 0, ct BK349 1, HS2_, HS3_⟩ (fun hHeld => ?_); clear hK K; refine zM 44 ?_; refine zN 11 (some 46) 14 4095 (fun K hK => ?_); refine zG Tryz.func68 #[.agg #[.int .i64 t351, .int .i64 t352]] ?_
              with_reducible refine (dioramaref02_RatOf.calls k3 t351 t352 t362 t363 t366 _ A18.out).mono ?_
              rintro e w34 ⟨v364, v367, rfl, ho0, ho1, hb⟩; have HS2_ := (hb.cell (World.block_lt_of_cell? _ _ (hHeld.2.2.1))).trans (hHeld.2.2.1); have HS3_ := (hb.cell (World.block_lt_of_cell? _ _ (hHeld.2.2.2))).trans (hHeld.2.2.2); refine ⟨_, rfl, ?_⟩; replace HO_3 := Aside0.mk (Kd.R_below (rz HO_3) hb); have HO365 := Aside0.mk (Kd.R_lower (Kd.R_new' (Kd.R_new' ho0 (Kd.R_lt (rz HO358))) (Kd.R_lt (rz HO361))) sz); have HO368 := Aside0.mk (Kd.R_lower (Kd.R_new' (Kd.R_new' ho1 (Kd.R_lt (rz HO358))) (Kd.R_lt (rz HO361))) sz); replace HO358 := Aside0.mk (Kd.R_mono (Kd.R_told (Kd.R_told (Kd.R_old (rz HO358) hb) (Kd.R_base ho0)) (Kd.R_base ho1)) (fun _ h_ => h_.1)); replace HO361 := Aside0.mk (Kd.R_mono (Kd.R_told (Kd.R_told (Kd.R_old (rz HO361) hb) (Kd.R_base ho0)) (Kd.R_base ho1)) (fun _ h_ => h_.1)); replace BK349 := kb BK349 hb; replace HB := bp hb; clear hb ho0 ho1; obtain ⟨Ao35, co35, eo35⟩ := Kd.R_slice HO358.out
              (first | subst eo35 | (injection eo35 with f1_ f2_ f3_; have f4_ := f1_.symm; have f5_ := f3_.symm; clear f1_ f2_ f3_; subst f4_; subst f5_))
              obtain ⟨Ao36, co36, eo36⟩ := Kd.R_slice HO361.out
              (first | subst eo36 | (injection eo36 with f1_ f2_ f3_; have f4_ := f1_.symm; have f5_ := f3_.symm; clear f1_ f2_ f3_; subst f4_; subst f5_))
              obtain ⟨Ao37, co37, eo37⟩ := Kd.R_slice HO365.out
              (first | subst eo37 | (injection eo37 with f1_ f2_ f3_; have f4_ := f1_.symm; have f5_ := f3_.symm; clear f1_ f2_ f3_; subst f4_; subst f5_))
              obtain ⟨Ao38, co38, eo38⟩ := Kd.R_slice HO368.out
              (first | subst eo38 | (injection eo38 with f1_ f2_ f3_; have f4_ := f1_.symm; have f5_ := f3_.symm; clear f1_ f2_ f3_; subst f4_; subst f5_))
              refine hK.out _ _ ⟨ct BK349 0, ct BK349 1, HS2_, HS3_⟩ (fun hHeld => ?_); clear hK K; refine zM 46 ?_; refine zN 12 (some 47) 14 8191 (fun K hK => ?_); refine zG Tryz.func76 #[.agg #[.bool t355, .slice Ao35 t356.length co35, .slice Ao36 t359.length co36], .agg #[.bool t362, .slice Ao37 t363.length co37, .slice Ao38 t366.length co38]] ?_
              with_reducible refine (dioramaref02_Less.calls k3 t355 _ _ t356 _ _ t359 t362 _ _ t363 _ _ t366 false _ ?side1 ?side2 ?side3 ?side4 ?side5 ?side6 ?side7 ?side8 A19.out).mono ?_
              (case side1 => exact cr HO358)
              (case side2 => exact (Kd.R_reads' HO358.out).2.1)
              (case side3 => exact cr HO361)
              (case side4 => exact (Kd.R_reads' HO361.out).2.1)
              (case side5 => exact cr HO365)
              (case side6 => exact (Kd.R_reads' HO365.out).2.1)
              (case side7 => exact cr HO368)
              (case side8 => exact (Kd.R_reads' HO368.out).2.1)
              rintro e w39 ⟨rfl, hb⟩; have HS2_ := (hb.cell (World.block_lt_of_cell? _ _ (hHeld.2.2.1))).trans (hHeld.2.2.1); have HS3_ := (hb.cell (World.block_lt_of_cell? _ _ (hHeld.2.2.2))).trans (hHeld.2.2.2); refine ⟨_, rfl, ?_⟩; replace HO_3 := Aside0.mk (Kd.R_below (rz HO_3) hb); replace HO358 := Aside0.mk (Kd.R_below (rz HO358) hb); replace HO361 := Aside0.mk (Kd.R_below (rz HO361) hb); replace HO365 := Aside0.mk (Kd.R_below (rz HO365) hb); replace HO368 := Aside0.mk (Kd.R_below (rz HO368) hb); replace BK349 := kb BK349 hb; replace HB := bp hb; clear hb; refine hK.out _ _ ⟨ct BK349 0, ct BK349 1, HS2_, HS3_⟩ (fun hHeld => ?_); clear hK K; refine zM 47 ?_; refine zP 13 48 14 16383 ?_; refine done_ (by kernel_rfl) ?_
              try go_wp2
              replace HO_3 := Aside0.mk (Kd.R_drew HO_3.out); replace HO358 := Aside0.mk (Kd.R_drew HO358.out); replace HO361 := Aside0.mk (Kd.R_drew HO361.out); replace HO365 := Aside0.mk (Kd.R_drew HO365.out); replace HO368 := Aside0.mk (Kd.R_drew HO368.out); replace BK349 := Aside0.mk (blk_drew BK349.out); replace HB := Aside0.mk (below_drew1 HB.out); have p370 : 0 ≤ (x6_3 : Int) := od; have q370 : x6_3 < (x3_1.length : Int) := od; obtain ⟨ad370, e370, hx370_0, hx370_1⟩ := at_T24 (Kd.R_reads' HO_3.out).2.2 x6_3 p370 q370; obtain rfl : ad354 = ad370 := (by injection e370); replace p370 := eq_true p370; replace q370 := eq_true q370; refine start_ (n := 12) (S := fun w' => w'.cell? ⟨gb349, 0, none⟩ = some (.int .i64 t351) ∧ w'.cell? ⟨gb349, 1, none⟩ = some (.int .i64 t352) ∧ w'.cell? (ad354.add ((x6_3).toNat * 2)) = some (.int .i64 ((rd_T24 x3_1 x6_3).f0)) ∧ w'.cell? ⟨(ad354.add ((x6_3).toNat * 2)).block, (ad354.add ((x6_3).toNat * 2)).off + 1, none⟩ = some (.int .i64 ((rd_T24 x3_1 x6_3).f1))) (ds := []) (bs 12 0) (by kernel_rfl) rfl rfl ⟨ct BK349 0, ct BK349 1, hx370_0, hx370_1⟩ (fun hHeld => ?_)
              generalize w39.drew = w40 at HO_3 HO358 HO361 HO365 HO368 BK349 HB hx370_0 hx370_1 hHeld ⊢; refine zP 0 51 12 1 ?_; refine zP 1 52 12 3 ?_; refine zP 2 53 12 7 ?_; refine zP 3 54 12 15 ?_; refine zP 4 55 12 31 ?_; refine zP 5 56 12 63 ?_; refine zP 6 57 12 127 ?_; refine zP 7 58 12 255 ?_; refine zT 8 59 12 511 hHeld ?_; refine zT 9 60 12 1023 hHeld ?_; refine zP 10 61 12 2047 ?_; refine zP 11 62 12 4095 ?_; refine done_ (by kernel_rfl) ?_
              try go_wp2
              go_roundg k3
              case measure => have := HK1.out; have := HJ5.out; have := HK3.out; omega
              case rel => exact ⟨(x3_1), (wrap64 (x4_1 + 1)), jz, H', ⟨by have := HK1.out; have := HJ5.out; have := HK3.out; omega⟩, ⟨by (with_reducible repeat (first | apply Kd.R_alloc | apply Kd.R_drewN | apply Kd.R_drew)); exact Kd.R_mono HO_3.out (fun _ hk => trivial)⟩, ⟨bz⟩⟩
             ·rw [if_neg c30] at H; have c30b0 : (((rd_T24 x3_1 x6_3).f0) == t351 && (((rd_T24 x3_1 x6_3).f1) == t352)) = false := by simpa using c30
              (try (have c30b1 : decide (((rd_T24 x3_1 x6_3).f0) = t351 && (((rd_T24 x3_1 x6_3).f1) == t352)) = false := by simpa using c30))
              (try (have c30b2 : (((rd_T24 x3_1 x6_3).f0) == t351 && (((rd_T24 x3_1 x6_3).f1) == t352)) = false := by simpa using c30))
              (try (have c30b3 : ¬ (((rd_T24 x3_1 x6_3).f0) = t351 && (((rd_T24 x3_1 x6_3).f1) == t352)) := by simpa using c30))
              clear c30; obtain ⟨y371, hy371⟩ : ∃ y_ : List (S24), y_ = (([] : List (S24))) := ⟨_, rfl⟩; replace H : (if x6_3 ≤ (x3_1.length : Int) then ((some (x3_1.take (x6_3 : Int).toNat : List (S24))).bind fun y374 => (if y371.length + y374.length < 8796093022208 then ((some (y371 ++ y374 : List (S24))).bind fun y378 => (if y378.length < 8796093022208 then ((some (y378 ++ [(⟨t351, t352⟩ : S24)] : List (S24))).bind fun y381 => ((some (x3_1.drop (x6_3 : Int).toNat : List (S24))).bind fun y384 => (if y381.length + y384.length < 8796093022208 then (dioramaref02_ends.l0 k3 l0 (y381 ++ y384) (wrap64 (x4_1 + 1))) else (none)))) else (none))) else (none))) else (none)) = some r := by first | (rw [hy371]; with_reducible exact H) | (have H2_ := (Option.bind_some _ _).symm.trans H; rw [hy371]; with_reducible exact H2_) | (have H2_ := (Option.bind_some _ _).symm.trans H; with_reducible exact H2_) | with_reducible exact H | (rw [hy371]; exact H) | exact H
              have Ny371 := Aside0.mk hy371; clear hy371; have c41b0 := eq_true (od : 0 ≤ x6_3)
              by_cases c42 : x6_3 ≤ (x3_1.length : Int)
              ·rw [if_pos c42] at H; have c42b0 := eq_true c42; have c42b1 : decide (x6_3 ≤ (x3_1.length : Int)) = true := decide_eq_true c42; clear c42; obtain ⟨y374, hy374⟩ : ∃ y_ : List (S24), y_ = (x3_1.take (x6_3 : Int).toNat) := ⟨_, rfl⟩; replace H : (if y371.length + y374.length < 8796093022208 then ((some (y371 ++ y374 : List (S24))).bind fun y378 => (if y378.length < 8796093022208 then ((some (y378 ++ [(⟨t351, t352⟩ : S24)] : List (S24))).bind fun y381 => ((some (x3_1.drop (x6_3 : Int).toNat : List (S24))).bind fun y384 => (if y381.length + y384.length < 8796093022208 then (dioramaref02_ends.l0 k3 l0 (y381 ++ y384) (wrap64 (x4_1 + 1))) else (none)))) else (none))) else (none)) = some r := by first | (rw [hy374]; with_reducible exact H) | (have H2_ := (Option.bind_some _ _).symm.trans H; rw [hy374]; with_reducible exact H2_) | (have H2_ := (Option.bind_some _ _).symm.trans H; with_reducible exact H2_) | with_reducible exact H | (rw [hy374]; exact H) | exact H
               have Ny374 := Aside0.mk hy374; clear hy374
               by_cases c43 : y371.length + y374.length < 8796093022208
               ·rw [if_pos c43] at H; have LMc43 := Aside0.mk c43; clear c43; obtain ⟨y378, hy378⟩ : ∃ y_ : List (S24), y_ = (y371 ++ y374) := ⟨_, rfl⟩; replace H : (if y378.length < 8796093022208 then ((some (y378 ++ [(⟨t351, t352⟩ : S24)] : List (S24))).bind fun y381 => ((some (x3_1.drop (x6_3 : Int).toNat : List (S24))).bind fun y384 => (if y381.length + y384.length < 8796093022208 then (dioramaref02_ends.l0 k3 l0 (y381 ++ y384) (wrap64 (x4_1 + 1))) else (none)))) else (none)) = some r := by first | (rw [hy378]; with_reducible exact H) | (have H2_ := (Option.bind_some _ _).symm.trans H; rw [hy378]; with_reducible exact H2_) | (have H2_ := (Option.bind_some _ _).symm.trans H; with_reducible exact H2_) | with_reducible exact H | (rw [hy378]; exact H) | exact H
                have Ny378 := Aside0.mk hy378; clear hy378
                by_cases c44 : y378.length < 8796093022208
                ·rw [if_pos c44] at H; have LMc44 := Aside0.mk c44; clear c44; obtain ⟨y381, hy381⟩ : ∃ y_ : List (S24), y_ = (y378 ++ [(⟨t351, t352⟩ : S24)]) := ⟨_, rfl⟩; replace H : ((some (x3_1.drop (x6_3 : Int).toNat : List (S24))).bind fun y384 => (if y381.length + y384.length < 8796093022208 then (dioramaref02_ends.l0 k3 l0 (y381 ++ y384) (wrap64 (x4_1 + 1))) else (none))) = some r := by first | (rw [hy381]; with_reducible exact H) | (have H2_ := (Option.bind_some _ _).symm.trans H; rw [hy381]; with_reducible exact H2_) | (have H2_ := (Option.bind_some _ _).symm.trans H; with_reducible exact H2_) | with_reducible exact H | (rw [hy381]; exact H) | exact H
                 have Ny381 := Aside0.mk hy381; clear hy381; have c45b0 := eq_true (od : 0 ≤ x6_3); have c46b0 := eq_true (od : x6_3 ≤ (x3_1.length : Int)); obtain ⟨y384, hy384⟩ : ∃ y_ : List (S24), y_ = (x3_1.drop (x6_3 : Int).toNat) := ⟨_, rfl⟩; replace H : (if y381.length + y384.length < 8796093022208 then (dioramaref02_ends.l0 k3 l0 (y381 ++ y384) (wrap64 (x4_1 + 1))) else (none)) = some r := by first | (rw [hy384]; with_reducible exact H) | (have H2_ := (Option.bind_some _ _).symm.trans H; rw [hy384]; with_reducible exact H2_) | (have H2_ := (Option.bind_some _ _).symm.trans H; with_reducible exact H2_) | with_reducible exact H | (rw [hy384]; exact H) | exact H
                 have Ny384 := Aside0.mk hy384; clear hy384
                 by_cases c47 : y381.length + y384.length < 8796093022208
                 ·rw [if_pos c47] at H; have LMc47 := Aside0.mk c47; clear c47; obtain ⟨y388, hy388⟩ : ∃ y_ : List (S24), y_ = (y381 ++ y384) := ⟨_, rfl⟩; replace H : (dioramaref02_ends.l0 k3 l0 y388 (wrap64 (x4_1 + 1))) = some r := by first | (rw [hy388]; with_reducible exact H) | (have H2_ := (Option.bind_some _ _).symm.trans H; rw [hy388]; with_reducible exact H2_) | (have H2_ := (Option.bind_some _ _).symm.trans H; with_reducible exact H2_) | with_reducible exact H | (rw [hy388]; exact H) | exact H
                  have Ny388 := Aside0.mk hy388; clear hy388; have H' := Aside0.mk H; clear H
                  try go_wp2
                  replace HO_3 := Aside0.mk (Kd.R_drew HO_3.out); replace BK349 := Aside0.mk (blk_drew BK349.out); replace HB := Aside0.mk (below_drew1 HB.out); obtain ⟨Ao49, co49, eo49⟩ := Kd.R_slice HO_3.out
                  (first | subst eo49 | (injection eo49 with f1_ f2_ f3_; have f4_ := f1_.symm; have f5_ := f3_.symm; clear f1_ f2_ f3_; subst f4_; subst f5_))
                  have p354 : 0 ≤ (x6_3 : Int) := od; have q354 : x6_3 < (x3_1.length : Int) := od; obtain ⟨ad354, e354, hx354_0, hx354_1⟩ := at_T24 (Kd.R_reads' HO_3.out).2.2 x6_3 p354 q354
                  cases e354
                  replace p354 := eq_true p354; replace q354 := eq_true q354; refine start_ (n := 14) (S := fun w' => w'.cell? ⟨gb349, 0, none⟩ = some (.int .i64 t351) ∧ w'.cell? ⟨gb349, 1, none⟩ = some (.int .i64 t352) ∧ w'.cell? (ad354.add ((x6_3).toNat * 2)) = some (.int .i64 ((rd_T24 x3_1 x6_3).f0)) ∧ w'.cell? ⟨(ad354.add ((x6_3).toNat * 2)).block, (ad354.add ((x6_3).toNat * 2)).off + 1, none⟩ = some (.int .i64 ((rd_T24 x3_1 x6_3).f1))) (ds := []) (bs 14 0) (by kernel_rfl) rfl rfl ⟨ct BK349 0, ct BK349 1, hx354_0, hx354_1⟩ (fun hHeld => ?_)
                  generalize wr.drew = w48 at HO_3 BK349 HB hx354_0 hx354_1 hHeld ⊢; refine zP 0 35 14 1 ?_; refine zP 1 36 14 3 ?_; refine zP 2 37 14 7 ?_; refine zP 3 38 14 15 ?_; refine zP 4 39 14 31 ?_; refine zP 5 40 14 63 ?_; refine zP 6 41 14 127 ?_; refine zP 7 42 14 255 ?_; refine zT 8 43 14 511 hHeld ?_; refine zT 10 45 14 1535 hHeld ?_; refine zN 9 (some 44) 14 2047 (fun K hK => ?_); refine zG Tryz.func68 #[.agg #[.int .i64 ((rd_T24 x3_1 x6_3).f0), .int .i64 ((rd_T24 x3_1 x6_3).f1)]] ?_
                  with_reducible refine (dioramaref02_RatOf.calls k3 ((rd_T24 x3_1 x6_3).f0) ((rd_T24 x3_1 x6_3).f1) t355 t356 t359 _ A17.out).mono ?_
                  rintro e w50 ⟨v357, v360, rfl, ho0, ho1, hb⟩; have HS2_ := (hb.cell (World.block_lt_of_cell? _ _ (hHeld.2.2.1))).trans (hHeld.2.2.1); have HS3_ := (hb.cell (World.block_lt_of_cell? _ _ (hHeld.2.2.2))).trans (hHeld.2.2.2); refine ⟨_, rfl, ?_⟩; replace HO_3 := Aside0.mk (Kd.R_below (rz HO_3) hb); have HO358 := Aside0.mk (Kd.R_lower ho0 sz); have HO361 := Aside0.mk (Kd.R_lower ho1 sz); replace BK349 := kb BK349 hb; replace HB := bp hb; clear hb ho0 ho1; refine hK.out _ _ ⟨ct BK349 0, ct BK349 1, HS2_, HS3_⟩ (fun hHeld => ?_); clear hK K; refine zM 44 ?_; refine zN 11 (some 46) 14 4095 (fun K hK => ?_); refine zG Tryz.func68 #[.agg #[.int .i64 t351, .int .i64 t352]] ?_
                  with_reducible refine (dioramaref02_RatOf.calls k3 t351 t352 t362 t363 t366 _ A18.out).mono ?_
                  rintro e w51 ⟨v364, v367, rfl, ho0, ho1, hb⟩; have HS2_ := (hb.cell (World.block_lt_of_cell? _ _ (hHeld.2.2.1))).trans (hHeld.2.2.1); have HS3_ := (hb.cell (World.block_lt_of_cell? _ _ (hHeld.2.2.2))).trans (hHeld.2.2.2); refine ⟨_, rfl, ?_⟩; replace HO_3 := Aside0.mk (Kd.R_below (rz HO_3) hb); have HO365 := Aside0.mk (Kd.R_lower (Kd.R_new' (Kd.R_new' ho0 (Kd.R_lt (rz HO358))) (Kd.R_lt (rz HO361))) sz); have HO368 := Aside0.mk (Kd.R_lower (Kd.R_new' (Kd.R_new' ho1 (Kd.R_lt (rz HO358))) (Kd.R_lt (rz HO361))) sz); replace HO358 := Aside0.mk (Kd.R_mono (Kd.R_told (Kd.R_told (Kd.R_old (rz HO358) hb) (Kd.R_base ho0)) (Kd.R_base ho1)) (fun _ h_ => h_.1)); replace HO361 := Aside0.mk (Kd.R_mono (Kd.R_told (Kd.R_told (Kd.R_old (rz HO361) hb) (Kd.R_base ho0)) (Kd.R_base ho1)) (fun _ h_ => h_.1)); replace BK349 := kb BK349 hb; replace HB := bp hb; clear hb ho0 ho1; obtain ⟨Ao52, co52, eo52⟩ := Kd.R_slice HO358.out
                  (first | subst eo52 | (injection eo52 with f1_ f2_ f3_; have f4_ := f1_.symm; have f5_ := f3_.symm; clear f1_ f2_ f3_; subst f4_; subst f5_))
                  obtain ⟨Ao53, co53, eo53⟩ := Kd.R_slice HO361.out
                  (first | subst eo53 | (injection eo53 with f1_ f2_ f3_; have f4_ := f1_.symm; have f5_ := f3_.symm; clear f1_ f2_ f3_; subst f4_; subst f5_))
                  obtain ⟨Ao54, co54, eo54⟩ := Kd.R_slice HO365.out
                  (first | subst eo54 | (injection eo54 with f1_ f2_ f3_; have f4_ := f1_.symm; have f5_ := f3_.symm; clear f1_ f2_ f3_; subst f4_; subst f5_))
                  obtain ⟨Ao55, co55, eo55⟩ := Kd.R_slice HO368.out
                  (first | subst eo55 | (injection eo55 with f1_ f2_ f3_; have f4_ := f1_.symm; have f5_ := f3_.symm; clear f1_ f2_ f3_; subst f4_; subst f5_))
                  refine hK.out _ _ ⟨ct BK349 0, ct BK349 1, HS2_, HS3_⟩ (fun hHeld => ?_); clear hK K; refine zM 46 ?_; refine zN 12 (some 47) 14 8191 (fun K hK => ?_); refine zG Tryz.func76 #[.agg #[.bool t355, .slice Ao52 t356.length co52, .slice Ao53 t359.length co53], .agg #[.bool t362, .slice Ao54 t363.length co54, .slice Ao55 t366.length co55]] ?_
                  with_reducible refine (dioramaref02_Less.calls k3 t355 _ _ t356 _ _ t359 t362 _ _ t363 _ _ t366 false _ ?side1 ?side2 ?side3 ?side4 ?side5 ?side6 ?side7 ?side8 A19.out).mono ?_
                  (case side1 => exact cr HO358)
                  (case side2 => exact (Kd.R_reads' HO358.out).2.1)
                  (case side3 => exact cr HO361)
                  (case side4 => exact (Kd.R_reads' HO361.out).2.1)
                  (case side5 => exact cr HO365)
                  (case side6 => exact (Kd.R_reads' HO365.out).2.1)
                  (case side7 => exact cr HO368)
                  (case side8 => exact (Kd.R_reads' HO368.out).2.1)
                  rintro e w56 ⟨rfl, hb⟩; have HS2_ := (hb.cell (World.block_lt_of_cell? _ _ (hHeld.2.2.1))).trans (hHeld.2.2.1); have HS3_ := (hb.cell (World.block_lt_of_cell? _ _ (hHeld.2.2.2))).trans (hHeld.2.2.2); refine ⟨_, rfl, ?_⟩; replace HO_3 := Aside0.mk (Kd.R_below (rz HO_3) hb); replace HO358 := Aside0.mk (Kd.R_below (rz HO358) hb); replace HO361 := Aside0.mk (Kd.R_below (rz HO361) hb); replace HO365 := Aside0.mk (Kd.R_below (rz HO365) hb); replace HO368 := Aside0.mk (Kd.R_below (rz HO368) hb); replace BK349 := kb BK349 hb; replace HB := bp hb; clear hb; refine hK.out _ _ ⟨ct BK349 0, ct BK349 1, HS2_, HS3_⟩ (fun hHeld => ?_); clear hK K; refine zM 47 ?_; refine zP 13 48 14 16383 ?_; refine done_ (by kernel_rfl) ?_
                  try go_wp2
                  replace HO_3 := Aside0.mk (Kd.R_drew HO_3.out); replace HO358 := Aside0.mk (Kd.R_drew HO358.out); replace HO361 := Aside0.mk (Kd.R_drew HO361.out); replace HO365 := Aside0.mk (Kd.R_drew HO365.out); replace HO368 := Aside0.mk (Kd.R_drew HO368.out); replace BK349 := Aside0.mk (blk_drew BK349.out); replace HB := Aside0.mk (below_drew1 HB.out); have p370 : 0 ≤ (x6_3 : Int) := od; have q370 : x6_3 < (x3_1.length : Int) := od; obtain ⟨ad370, e370, hx370_0, hx370_1⟩ := at_T24 (Kd.R_reads' HO_3.out).2.2 x6_3 p370 q370; obtain rfl : ad354 = ad370 := (by injection e370); replace p370 := eq_true p370; replace q370 := eq_true q370; refine start_ (n := 12) (S := fun w' => w'.cell? ⟨gb349, 0, none⟩ = some (.int .i64 t351) ∧ w'.cell? ⟨gb349, 1, none⟩ = some (.int .i64 t352) ∧ w'.cell? (ad354.add ((x6_3).toNat * 2)) = some (.int .i64 ((rd_T24 x3_1 x6_3).f0)) ∧ w'.cell? ⟨(ad354.add ((x6_3).toNat * 2)).block, (ad354.add ((x6_3).toNat * 2)).off + 1, none⟩ = some (.int .i64 ((rd_T24 x3_1 x6_3).f1))) (ds := []) (bs 12 0) (by kernel_rfl) rfl rfl ⟨ct BK349 0, ct BK349 1, hx370_0, hx370_1⟩ (fun hHeld => ?_)
                  generalize w56.drew = w57 at HO_3 HO358 HO361 HO365 HO368 BK349 HB hx370_0 hx370_1 hHeld ⊢; refine zP 0 51 12 1 ?_; refine zP 1 52 12 3 ?_; refine zP 2 53 12 7 ?_; refine zP 3 54 12 15 ?_; refine zP 4 55 12 31 ?_; refine zP 5 56 12 63 ?_; refine zP 6 57 12 127 ?_; refine zP 7 58 12 255 ?_; refine zT 8 59 12 511 hHeld ?_; refine zT 9 60 12 1023 hHeld ?_; refine zP 10 61 12 2047 ?_; refine zP 11 62 12 4095 ?_; refine done_ (by kernel_rfl) ?_
                  try go_wp2_with (first | ((with_reducible refine gate_dst (N := 63) rfl ?_); refine Kd.R_lit k24 _ 24 ?hg (N := 63) ?hd (xs := ([] : List (S24))) (inner := []) (ok := fun _ => True) (okp := fun _ => True) ?hr ?hp (fun _ hk => hk) trivial (Below.refl _ _) (Nat.le_refl _) (by simp) ?_; (case hd => rfl); (case hg => rfl); (case hr => first | (go_simp; done) | (go_simp; rfl)); (case hp => exact (Reps.none _ _)); intro v372 w58 ho59 hb hg_ hnew_; clear hg_ hnew_; (first | rw [← Ny371.out] at ho59 | (simp only [Int.reduceToNat] at ho59; rw [← Ny371.out] at ho59)); replace HO358 := Aside0.mk (Kd.R_below (rz HO358) hb); replace HO361 := Aside0.mk (Kd.R_below (rz HO361) hb); replace HO365 := Aside0.mk (Kd.R_below (rz HO365) hb); replace HO368 := Aside0.mk (Kd.R_below (rz HO368) hb); have HO373 := Aside0.mk (Kd.R_lower (Kd.R_newB (Kd.R_new' ho59 (Kd.R_lt (rz HO_3))) (g := gb349) (o := .cells #[.int .i64 t351, .int .i64 t352] 24 (0, 0)) kz) sz); replace HO_3 := Aside0.mk (Kd.R_elder' (rz HO_3) (Kd.R_base ho59) hb); replace BK349 := kb BK349 hb; replace HB := bp hb; clear hb ho59; have q60 : (x6_3 : Int) ≤ ((x3_1.length : Int) : Int) := od; obtain ⟨i060, hi060, _, hsz60, _⟩ := info_parts info24; have hroom60 : x3_1.length ≤ co49 := (Kd.R_reads' HO_3.out).2.1; have hC60 : Kd.C k24 _ (some ad354) x3_1.length x3_1 := (Kd.R_reads' HO_3.out).2.2; have hcut60 := cut_to (P := Tryz.prog) 104 24 .i64 Tryz.underlying104 hi060 (some ad354) x3_1.length co49 x6_3 (od) q60 hroom60; have hr60 := Kd.C_take (m := (x6_3 : Int).toNat) hC60 (by omega); have hy60 : y374.length = (x6_3 : Int).toNat := (by rw [Ny374.out, List.length_take]; omega); rw [← Ny374.out] at hr60; rw [← hy60] at hcut60; have HR377 := Aside0.mk hr60; have HC377 := Aside0.mk (show y374.length ≤ co49 from by omega); clear hr60 hC60 hroom60 hi060 hsz60; have KY60 := Aside0.mk hy60; clear hy60; have KL60 := Aside0.mk (show (x6_3 : Int).toNat ≤ x3_1.length from by omega); replace q60 := eq_true q60) | ((with_reducible refine gate_builtin (b := .append) (xs := #[.tmp 63, .tmp 66]) rfl ?_); at_builtin; refine Kd.R_append_rows k24 (w0 := w) w.heap.size rfl (.tmp 63) (.tmp 66) 104 24 (.agg #[(.int .i64 0), (.int .i64 0)]) 16 rfl Tryz.underlying104 info24 rfl (by decide) (by omega) v372 y371 y374 _ _ _ (fun k_ => some k_ ≠ (.slice (some ad354) x3_1.length co49 : Value).ownBlock ∧ k_ ≠ gb349) (fun _ => False) rfl rfl ?aO ?aR (fun _ _ h => h) (fun _ h => h.elim) ?aF ?aB ?aS ?aL ?_; (case aR => repeat (first | exact (by repeat (first | (with_reducible exact HR377.out) | (with_reducible refine Kd.C_alloc ?_ _) | (with_reducible refine Kd.C_drewN ?_ _) | (with_reducible refine Kd.C_drew ?_) | exact HR377.out)) | (with_reducible refine Kd.C_alloc ?_ _) | (with_reducible refine Kd.C_drewN ?_ _) | (with_reducible refine Kd.C_drew ?_))); (case aB => exact bz); (case aF => exact (fun k_ hk => ⟨Kd.fresh' (Kd.R_lt (rz HO_3)) k_ hk, Kd.freshB (g := gb349) (o := .cells #[.int .i64 t351, .int .i64 t352] 24 (0, 0)) kz k_ hk⟩)); (case aO => exact (by (with_reducible repeat (first | apply Kd.R_alloc | apply Kd.R_drewN | apply Kd.R_drew)); exact Kd.R_mono HO373.out (fun _ hk => ⟨hk.1.2, hk.2⟩))); (case aS => exact sz); (case aL => have := LMc43.out; omega); intro v379 w61 ho hb hg hat; rw [← Ny378.out] at ho; replace BK349 := Aside0.mk (blk_grown (g := gb349) (o := .cells #[.int .i64 t351, .int .i64 t352] 24 (0, 0)) kz hg (Kd.R_away HO373.out (fun _ hk => hk.2))); replace HO358 := Aside0.mk (Kd.R_over' (rz HO358) (Kd.R_typed (rz HO373)) (by decide) hg); replace HO361 := Aside0.mk (Kd.R_over' (rz HO361) (Kd.R_typed (rz HO373)) (by decide) hg); replace HO365 := Aside0.mk (Kd.R_over' (rz HO365) (Kd.R_typed (rz HO373)) (by decide) hg); replace HO368 := Aside0.mk (Kd.R_over' (rz HO368) (Kd.R_typed (rz HO373)) (by decide) hg); replace HB := Aside0.mk (hb); replace HR377 := Aside0.mk ((show Kd.C k24 w61 (some ad354) y374.length y374 from by rw [Ny374.out]; exact Kd.C_take (m := (x6_3 : Int).toNat) ((Kd.R_reads' (Kd.R_after (ok := (fun k_ => k_ ≠ gb349)) (rz HO_3) hg hat)).2.2) KL60.out)); replace HO_3 := Aside0.mk (Kd.R_after (ok := (fun k_ => k_ ≠ gb349)) (rz HO_3) hg hat); have HO380 := Aside0.mk (ho); clear HO373; clear ho hb hg hat; obtain ⟨hcz62_0, hcz62_1, hfz62_0, hfz62_1⟩ := xc2 BK349) | ((with_reducible refine gate_builtin (b := .append) (xs := #[.tmp 68, .tmp 70]) rfl ?_); at_builtin; refine Kd.R_append k24 (w0 := w) w.heap.size rfl (.tmp 68) (.tmp 70) 104 24 (.agg #[(.int .i64 0), (.int .i64 0)]) 16 rfl Tryz.underlying104 info24 rfl (by decide) (by omega) v379 y378 (⟨t351, t352⟩ : S24) [.int .i64 t351, .int .i64 t352] (fun k_ => some k_ ≠ (.slice (some ad354) x3_1.length co49 : Value).ownBlock ∧ k_ ≠ gb349) (fun _ => False) rfl rfl ?aP (fun _ hk => hk.elim) ?aF ?aO ?aB ?aS ?aL ?_; (case aP => exact k24_mkM _ _ _ (⟨t351, t352⟩ : S24)); (case aB => exact bz); (case aF => exact (fun k_ hk => ⟨Kd.fresh' (Kd.R_lt (rz HO_3)) k_ hk, Kd.freshB (g := gb349) (o := .cells #[.int .i64 t351, .int .i64 t352] 24 (0, 0)) kz k_ hk⟩)); (case aO => exact (rz HO380)); (case aS => exact sz); (case aL => have := LMc44.out; omega); intro v382 w63 ho hb hg hat; rw [← Ny381.out] at ho; replace BK349 := Aside0.mk (blk_grown (g := gb349) (o := .cells #[.int .i64 t351, .int .i64 t352] 24 (0, 0)) kz hg (Kd.R_away HO380.out (fun _ hk => hk.2))); replace HO358 := Aside0.mk (Kd.R_over' (rz HO358) (Kd.R_typed (rz HO380)) (by decide) hg); replace HO361 := Aside0.mk (Kd.R_over' (rz HO361) (Kd.R_typed (rz HO380)) (by decide) hg); replace HO365 := Aside0.mk (Kd.R_over' (rz HO365) (Kd.R_typed (rz HO380)) (by decide) hg); replace HO368 := Aside0.mk (Kd.R_over' (rz HO368) (Kd.R_typed (rz HO380)) (by decide) hg); replace HB := Aside0.mk (hb); replace HR377 := Aside0.mk ((show Kd.C k24 w63 (some ad354) y374.length y374 from by rw [Ny374.out]; exact Kd.C_take (m := (x6_3 : Int).toNat) ((Kd.R_reads' (Kd.R_after (ok := (fun k_ => k_ ≠ gb349)) (rz HO_3) hg hat)).2.2) KL60.out)); replace HO_3 := Aside0.mk (Kd.R_after (ok := (fun k_ => k_ ≠ gb349)) (rz HO_3) hg hat); have HO383 := Aside0.mk (ho); clear HO380; clear ho hb hg hat; have q64 : (x6_3 : Int) ≤ ((x3_1.length : Int) : Int) := od; obtain ⟨i064, hi064, _, hsz64, _⟩ := info_parts info24; have hroom64 : x3_1.length ≤ co49 := (Kd.R_reads' HO_3.out).2.1; have hC64 : Kd.C k24 _ (some ad354) x3_1.length x3_1 := (Kd.R_reads' HO_3.out).2.2; have q064 : (0 : Int) ≤ (x6_3 : Int) := od; have hcut64 := cut_from (P := Tryz.prog) 104 24 .i64 Tryz.underlying104 hi064 2 hsz64 (some ad354) x3_1.length co49 x6_3 q064 q64; have hr64 := Kd.C_drop (m := (x6_3 : Int).toNat) (c := co49) hC64 (by omega) hroom64; obtain ⟨A64, hA64⟩ : ∃ A1, A1 = (if co49 = (x6_3 : Int).toNat then (some ad354) else ((some ad354) : Option Addr).map (·.add ((x6_3 : Int).toNat * 2))) := ⟨_, rfl⟩; obtain ⟨c64, hc64⟩ : ∃ c1, c1 = co49 - (x6_3 : Int).toNat := ⟨_, rfl⟩; have hy64 : y384.length = x3_1.length - (x6_3 : Int).toNat := (by rw [Ny384.out, List.length_drop] <;> omega); rw [show (x3_1).drop (x6_3 : Int).toNat = y384 from Ny384.out.symm] at hr64; replace hr64 : Kd.C k24 _ A64 y384.length y384 := (by rw [hA64]; exact hr64); rw [← hy64, ← hA64, ← hc64] at hcut64; have HR387 := Aside0.mk hr64; have HC387 := Aside0.mk (show y384.length ≤ c64 from by rw [hy64, hc64]; exact Nat.sub_le_sub_right hroom64 _); clear hr64 hC64 hroom64 hi064 hsz64 hc64; have KY64 := Aside0.mk hy64; have KA64 := Aside0.mk hA64; clear hy64 hA64; have KL64 := Aside0.mk (show (x6_3 : Int).toNat ≤ x3_1.length from by omega); replace q64 := eq_true q64) | ((with_reducible refine gate_builtin (b := .append) (xs := #[.tmp 72, .tmp 75]) rfl ?_); at_builtin; refine Kd.R_append_rows k24 (w0 := w) w.heap.size rfl (.tmp 72) (.tmp 75) 104 24 (.agg #[(.int .i64 0), (.int .i64 0)]) 16 rfl Tryz.underlying104 info24 rfl (by decide) (by omega) v382 y381 y384 _ _ _ (fun k_ => some k_ ≠ (.slice (some ad354) x3_1.length co49 : Value).ownBlock ∧ k_ ≠ gb349) (fun _ => False) rfl rfl ?aO ?aR (fun _ _ h => h) (fun _ h => h.elim) ?aF ?aB ?aS ?aL ?_; (case aR => repeat (first | exact (by repeat (first | (with_reducible exact HR387.out) | (with_reducible refine Kd.C_alloc ?_ _) | (with_reducible refine Kd.C_drewN ?_ _) | (with_reducible refine Kd.C_drew ?_) | exact HR387.out)) | (with_reducible refine Kd.C_alloc ?_ _) | (with_reducible refine Kd.C_drewN ?_ _) | (with_reducible refine Kd.C_drew ?_))); (case aB => exact bz); (case aF => exact (fun k_ hk => ⟨Kd.fresh' (Kd.R_lt (rz HO_3)) k_ hk, Kd.freshB (g := gb349) (o := .cells #[.int .i64 t351, .int .i64 t352] 24 (0, 0)) kz k_ hk⟩)); (case aO => exact (rz HO383)); (case aS => exact sz); (case aL => have := LMc47.out; omega); intro v389 w65 ho hb hg hat; rw [← Ny388.out] at ho; replace BK349 := Aside0.mk (blk_grown (g := gb349) (o := .cells #[.int .i64 t351, .int .i64 t352] 24 (0, 0)) kz hg (Kd.R_away HO383.out (fun _ hk => hk.2))); replace HO358 := Aside0.mk (Kd.R_over' (rz HO358) (Kd.R_typed (rz HO383)) (by decide) hg); replace HO361 := Aside0.mk (Kd.R_over' (rz HO361) (Kd.R_typed (rz HO383)) (by decide) hg); replace HO365 := Aside0.mk (Kd.R_over' (rz HO365) (Kd.R_typed (rz HO383)) (by decide) hg); replace HO368 := Aside0.mk (Kd.R_over' (rz HO368) (Kd.R_typed (rz HO383)) (by decide) hg); replace HB := Aside0.mk (hb); replace HR377 := Aside0.mk ((show Kd.C k24 w65 (some ad354) y374.length y374 from by rw [Ny374.out]; exact Kd.C_take (m := (x6_3 : Int).toNat) ((Kd.R_reads' (Kd.R_after (ok := (fun k_ => k_ ≠ gb349)) (rz HO_3) hg hat)).2.2) KL60.out)); replace HR387 := Aside0.mk ((show Kd.C k24 w65 A64 y384.length y384 from by rw [Ny384.out, KA64.out]; exact Kd.C_drop (m := (x6_3 : Int).toNat) (c := co49) ((Kd.R_reads' (Kd.R_after (ok := (fun k_ => k_ ≠ gb349)) (rz HO_3) hg hat)).2.2) KL64.out ((Kd.R_reads' (Kd.R_after (ok := (fun k_ => k_ ≠ gb349)) (rz HO_3) hg hat)).2.1))); replace HO_3 := Aside0.mk (Kd.R_after (ok := (fun k_ => k_ ≠ gb349)) (rz HO_3) hg hat); have HO390 := Aside0.mk (ho); clear HO383; clear ho hb hg hat))
                  go_roundg k3
                  case measure => have := HK1.out; have := HJ5.out; have := HK3.out; omega
                  case rel => exact ⟨(y388), (wrap64 (x4_1 + 1)), jz, H', ⟨by have := HK1.out; have := HJ5.out; have := HK3.out; omega⟩, ⟨by (with_reducible repeat (first | apply Kd.R_alloc | apply Kd.R_drewN | apply Kd.R_drew)); exact Kd.R_mono HO390.out (fun _ hk => trivial)⟩, ⟨bz⟩⟩
                 ·rw [if_neg c47] at H
                  exact absurd H (by simp)
                ·rw [if_neg c44] at H
                 exact absurd H (by simp)
               ·rw [if_neg c43] at H
                exact absurd H (by simp)
              ·rw [if_neg c42] at H
               exact absurd H (by simp)
           ·rw [if_neg c16] at H
            exact absurd H (by simp)
          ·rw [if_neg c15] at H; have c15b0 : decide (x6_3 < (x3_1.length : Int)) = false := decide_eq_false c15; clear c15; obtain ⟨y391, hy391⟩ : ∃ y_ : List (S24), y_ = (([] : List (S24))) := ⟨_, rfl⟩; replace H : (if 0 ≤ x6_3 then (if x6_3 ≤ (x3_1.length : Int) then ((some (x3_1.take (x6_3 : Int).toNat : List (S24))).bind fun y394 => (if y391.length + y394.length < 8796093022208 then ((some (y391 ++ y394 : List (S24))).bind fun y398 => (if y398.length < 8796093022208 then ((some (y398 ++ [(⟨t351, t352⟩ : S24)] : List (S24))).bind fun y401 => ((some (x3_1.drop (x6_3 : Int).toNat : List (S24))).bind fun y404 => (if y401.length + y404.length < 8796093022208 then (dioramaref02_ends.l0 k3 l0 (y401 ++ y404) (wrap64 (x4_1 + 1))) else (none)))) else (none))) else (none))) else (none)) else (none)) = some r := by first | (rw [hy391]; with_reducible exact H) | (have H2_ := (Option.bind_some _ _).symm.trans H; rw [hy391]; with_reducible exact H2_) | (have H2_ := (Option.bind_some _ _).symm.trans H; with_reducible exact H2_) | with_reducible exact H | (rw [hy391]; exact H) | exact H
           have Ny391 := Aside0.mk hy391; clear hy391
           by_cases c66 : 0 ≤ x6_3
           ·rw [if_pos c66] at H; have c66b0 := eq_true c66; have c66b1 : decide (0 ≤ x6_3) = true := decide_eq_true c66; clear c66
            by_cases c67 : x6_3 ≤ (x3_1.length : Int)
            ·rw [if_pos c67] at H; have c67b0 := eq_true c67; have c67b1 : decide (x6_3 ≤ (x3_1.length : Int)) = true := decide_eq_true c67; clear c67; obtain ⟨y394, hy394⟩ : ∃ y_ : List (S24), y_ = (x3_1.take (x6_3 : Int).toNat) := ⟨_, rfl⟩; replace H : (if y391.length + y394.length < 8796093022208 then ((some (y391 ++ y394 : List (S24))).bind fun y398 => (if y398.length < 8796093022208 then ((some (y398 ++ [(⟨t351, t352⟩ : S24)] : List (S24))).bind fun y401 => ((some (x3_1.drop (x6_3 : Int).toNat : List (S24))).bind fun y404 => (if y401.length + y404.length < 8796093022208 then (dioramaref02_ends.l0 k3 l0 (y401 ++ y404) (wrap64 (x4_1 + 1))) else (none)))) else (none))) else (none)) = some r := by first | (rw [hy394]; with_reducible exact H) | (have H2_ := (Option.bind_some _ _).symm.trans H; rw [hy394]; with_reducible exact H2_) | (have H2_ := (Option.bind_some _ _).symm.trans H; with_reducible exact H2_) | with_reducible exact H | (rw [hy394]; exact H) | exact H
             have Ny394 := Aside0.mk hy394; clear hy394
             by_cases c68 : y391.length + y394.length < 8796093022208
             ·rw [if_pos c68] at H; have LMc68 := Aside0.mk c68; clear c68; obtain ⟨y398, hy398⟩ : ∃ y_ : List (S24), y_ = (y391 ++ y394) := ⟨_, rfl⟩; replace H : (if y398.length < 8796093022208 then ((some (y398 ++ [(⟨t351, t352⟩ : S24)] : List (S24))).bind fun y401 => ((some (x3_1.drop (x6_3 : Int).toNat : List (S24))).bind fun y404 => (if y401.length + y404.length < 8796093022208 then (dioramaref02_ends.l0 k3 l0 (y401 ++ y404) (wrap64 (x4_1 + 1))) else (none)))) else (none)) = some r := by first | (rw [hy398]; with_reducible exact H) | (have H2_ := (Option.bind_some _ _).symm.trans H; rw [hy398]; with_reducible exact H2_) | (have H2_ := (Option.bind_some _ _).symm.trans H; with_reducible exact H2_) | with_reducible exact H | (rw [hy398]; exact H) | exact H
              have Ny398 := Aside0.mk hy398; clear hy398
              by_cases c69 : y398.length < 8796093022208
              ·rw [if_pos c69] at H; have LMc69 := Aside0.mk c69; clear c69; obtain ⟨y401, hy401⟩ : ∃ y_ : List (S24), y_ = (y398 ++ [(⟨t351, t352⟩ : S24)]) := ⟨_, rfl⟩; replace H : ((some (x3_1.drop (x6_3 : Int).toNat : List (S24))).bind fun y404 => (if y401.length + y404.length < 8796093022208 then (dioramaref02_ends.l0 k3 l0 (y401 ++ y404) (wrap64 (x4_1 + 1))) else (none))) = some r := by first | (rw [hy401]; with_reducible exact H) | (have H2_ := (Option.bind_some _ _).symm.trans H; rw [hy401]; with_reducible exact H2_) | (have H2_ := (Option.bind_some _ _).symm.trans H; with_reducible exact H2_) | with_reducible exact H | (rw [hy401]; exact H) | exact H
               have Ny401 := Aside0.mk hy401; clear hy401; have c70b0 := eq_true (od : 0 ≤ x6_3); have c71b0 := eq_true (od : x6_3 ≤ (x3_1.length : Int)); obtain ⟨y404, hy404⟩ : ∃ y_ : List (S24), y_ = (x3_1.drop (x6_3 : Int).toNat) := ⟨_, rfl⟩; replace H : (if y401.length + y404.length < 8796093022208 then (dioramaref02_ends.l0 k3 l0 (y401 ++ y404) (wrap64 (x4_1 + 1))) else (none)) = some r := by first | (rw [hy404]; with_reducible exact H) | (have H2_ := (Option.bind_some _ _).symm.trans H; rw [hy404]; with_reducible exact H2_) | (have H2_ := (Option.bind_some _ _).symm.trans H; with_reducible exact H2_) | with_reducible exact H | (rw [hy404]; exact H) | exact H
               have Ny404 := Aside0.mk hy404; clear hy404
               by_cases c72 : y401.length + y404.length < 8796093022208
               ·rw [if_pos c72] at H; have LMc72 := Aside0.mk c72; clear c72; obtain ⟨y408, hy408⟩ : ∃ y_ : List (S24), y_ = (y401 ++ y404) := ⟨_, rfl⟩; replace H : (dioramaref02_ends.l0 k3 l0 y408 (wrap64 (x4_1 + 1))) = some r := by first | (rw [hy408]; with_reducible exact H) | (have H2_ := (Option.bind_some _ _).symm.trans H; rw [hy408]; with_reducible exact H2_) | (have H2_ := (Option.bind_some _ _).symm.trans H; with_reducible exact H2_) | with_reducible exact H | (rw [hy408]; exact H) | exact H
                have Ny408 := Aside0.mk hy408; clear hy408; have H' := Aside0.mk H; clear H
                try go_wp2
                replace HO_3 := Aside0.mk (Kd.R_drew HO_3.out); replace BK349 := Aside0.mk (blk_drew BK349.out); replace HB := Aside0.mk (below_drew1 HB.out); obtain ⟨Ao74, co74, eo74⟩ := Kd.R_slice HO_3.out
                (first | subst eo74 | (injection eo74 with f1_ f2_ f3_; have f4_ := f1_.symm; have f5_ := f3_.symm; clear f1_ f2_ f3_; subst f4_; subst f5_))
                refine start_ (n := 14) (S := fun w' => True) (ds := []) (bs 14 0) (by kernel_rfl) rfl rfl trivial (fun hHeld => ?_); generalize wr.drew = w73 at HO_3 BK349 HB hHeld ⊢; refine zP 0 35 14 1 ?_; refine zP 1 36 14 3 ?_; refine zP 2 37 14 7 ?_; refine zP 3 38 14 15 ?_; refine zP 4 39 14 31 ?_; refine zO 5 40 14 63 ?_; refine zO 6 41 14 127 ?_; refine zO 7 42 14 255 ?_; refine zO 8 43 14 511 ?_; refine zO 9 44 14 1023 ?_; refine zO 10 45 14 2047 ?_; refine zO 11 46 14 4095 ?_; refine zO 12 47 14 8191 ?_; refine zP 13 48 14 16383 ?_; refine done_ (by kernel_rfl) ?_
                try go_wp2
                replace HO_3 := Aside0.mk (Kd.R_drew HO_3.out); replace BK349 := Aside0.mk (blk_drew BK349.out); replace HB := Aside0.mk (below_drew1 HB.out); refine start_ (n := 12) (S := fun w' => True) (ds := []) (bs 12 0) (by kernel_rfl) rfl rfl trivial (fun hHeld => ?_); generalize w73.drew = w75 at HO_3 BK349 HB hHeld ⊢; refine zP 0 51 12 1 ?_; refine zP 1 52 12 3 ?_; refine zP 2 53 12 7 ?_; refine zP 3 54 12 15 ?_; refine zP 4 55 12 31 ?_; refine zO 5 56 12 63 ?_; refine zO 6 57 12 127 ?_; refine zO 7 58 12 255 ?_; refine zO 8 59 12 511 ?_; refine zO 9 60 12 1023 ?_; refine zO 10 61 12 2047 ?_; refine zP 11 62 12 4095 ?_; refine done_ (by kernel_rfl) ?_
                try go_wp2_with (first | ((with_reducible refine gate_dst (N := 63) rfl ?_); refine Kd.R_lit k24 _ 24 ?hg (N := 63) ?hd (xs := ([] : List (S24))) (inner := []) (ok := fun _ => True) (okp := fun _ => True) ?hr ?hp (fun _ hk => hk) trivial (Below.refl _ _) (Nat.le_refl _) (by simp) ?_; (case hd => rfl); (case hg => rfl); (case hr => first | (go_simp; done) | (go_simp; rfl)); (case hp => exact (Reps.none _ _)); intro v392 w76 ho77 hb hg_ hnew_; clear hg_ hnew_; (first | rw [← Ny391.out] at ho77 | (simp only [Int.reduceToNat] at ho77; rw [← Ny391.out] at ho77)); have HO393 := Aside0.mk (Kd.R_lower (Kd.R_newB (Kd.R_new' ho77 (Kd.R_lt (rz HO_3))) (g := gb349) (o := .cells #[.int .i64 t351, .int .i64 t352] 24 (0, 0)) kz) sz); replace HO_3 := Aside0.mk (Kd.R_elder' (rz HO_3) (Kd.R_base ho77) hb); replace BK349 := kb BK349 hb; replace HB := bp hb; clear hb ho77; have q78 : (x6_3 : Int) ≤ ((x3_1.length : Int) : Int) := od; obtain ⟨i078, hi078, _, hsz78, _⟩ := info_parts info24; have hroom78 : x3_1.length ≤ co74 := (Kd.R_reads' HO_3.out).2.1; have hC78 : Kd.C k24 _ Ao74 x3_1.length x3_1 := (Kd.R_reads' HO_3.out).2.2; have hcut78 := cut_to (P := Tryz.prog) 104 24 .i64 Tryz.underlying104 hi078 Ao74 x3_1.length co74 x6_3 (od) q78 hroom78; have hr78 := Kd.C_take (m := (x6_3 : Int).toNat) hC78 (by omega); have hy78 : y394.length = (x6_3 : Int).toNat := (by rw [Ny394.out, List.length_take]; omega); rw [← Ny394.out] at hr78; rw [← hy78] at hcut78; have HR397 := Aside0.mk hr78; have HC397 := Aside0.mk (show y394.length ≤ co74 from by omega); clear hr78 hC78 hroom78 hi078 hsz78; have KY78 := Aside0.mk hy78; clear hy78; have KL78 := Aside0.mk (show (x6_3 : Int).toNat ≤ x3_1.length from by omega); replace q78 := eq_true q78) | ((with_reducible refine gate_builtin (b := .append) (xs := #[.tmp 63, .tmp 66]) rfl ?_); at_builtin; refine Kd.R_append_rows k24 (w0 := w) w.heap.size rfl (.tmp 63) (.tmp 66) 104 24 (.agg #[(.int .i64 0), (.int .i64 0)]) 16 rfl Tryz.underlying104 info24 rfl (by decide) (by omega) v392 y391 y394 _ _ _ (fun k_ => some k_ ≠ (.slice Ao74 x3_1.length co74 : Value).ownBlock ∧ k_ ≠ gb349) (fun _ => False) rfl rfl ?aO ?aR (fun _ _ h => h) (fun _ h => h.elim) ?aF ?aB ?aS ?aL ?_; (case aR => repeat (first | exact (by repeat (first | (with_reducible exact HR397.out) | (with_reducible refine Kd.C_alloc ?_ _) | (with_reducible refine Kd.C_drewN ?_ _) | (with_reducible refine Kd.C_drew ?_) | exact HR397.out)) | (with_reducible refine Kd.C_alloc ?_ _) | (with_reducible refine Kd.C_drewN ?_ _) | (with_reducible refine Kd.C_drew ?_))); (case aB => exact bz); (case aF => exact (fun k_ hk => ⟨Kd.fresh' (Kd.R_lt (rz HO_3)) k_ hk, Kd.freshB (g := gb349) (o := .cells #[.int .i64 t351, .int .i64 t352] 24 (0, 0)) kz k_ hk⟩)); (case aO => exact (by (with_reducible repeat (first | apply Kd.R_alloc | apply Kd.R_drewN | apply Kd.R_drew)); exact Kd.R_mono HO393.out (fun _ hk => ⟨hk.1.2, hk.2⟩))); (case aS => exact sz); (case aL => have := LMc68.out; omega); intro v399 w79 ho hb hg hat; rw [← Ny398.out] at ho; replace BK349 := Aside0.mk (blk_grown (g := gb349) (o := .cells #[.int .i64 t351, .int .i64 t352] 24 (0, 0)) kz hg (Kd.R_away HO393.out (fun _ hk => hk.2))); replace HB := Aside0.mk (hb); replace HR397 := Aside0.mk ((show Kd.C k24 w79 Ao74 y394.length y394 from by rw [Ny394.out]; exact Kd.C_take (m := (x6_3 : Int).toNat) ((Kd.R_reads' (Kd.R_after (ok := (fun k_ => k_ ≠ gb349)) (rz HO_3) hg hat)).2.2) KL78.out)); replace HO_3 := Aside0.mk (Kd.R_after (ok := (fun k_ => k_ ≠ gb349)) (rz HO_3) hg hat); have HO400 := Aside0.mk (ho); clear HO393; clear ho hb hg hat; obtain ⟨hcz80_0, hcz80_1, hfz80_0, hfz80_1⟩ := xc2 BK349) | ((with_reducible refine gate_builtin (b := .append) (xs := #[.tmp 68, .tmp 70]) rfl ?_); at_builtin; refine Kd.R_append k24 (w0 := w) w.heap.size rfl (.tmp 68) (.tmp 70) 104 24 (.agg #[(.int .i64 0), (.int .i64 0)]) 16 rfl Tryz.underlying104 info24 rfl (by decide) (by omega) v399 y398 (⟨t351, t352⟩ : S24) [.int .i64 t351, .int .i64 t352] (fun k_ => some k_ ≠ (.slice Ao74 x3_1.length co74 : Value).ownBlock ∧ k_ ≠ gb349) (fun _ => False) rfl rfl ?aP (fun _ hk => hk.elim) ?aF ?aO ?aB ?aS ?aL ?_; (case aP => exact k24_mkM _ _ _ (⟨t351, t352⟩ : S24)); (case aB => exact bz); (case aF => exact (fun k_ hk => ⟨Kd.fresh' (Kd.R_lt (rz HO_3)) k_ hk, Kd.freshB (g := gb349) (o := .cells #[.int .i64 t351, .int .i64 t352] 24 (0, 0)) kz k_ hk⟩)); (case aO => exact (rz HO400)); (case aS => exact sz); (case aL => have := LMc69.out; omega); intro v402 w81 ho hb hg hat; rw [← Ny401.out] at ho; replace BK349 := Aside0.mk (blk_grown (g := gb349) (o := .cells #[.int .i64 t351, .int .i64 t352] 24 (0, 0)) kz hg (Kd.R_away HO400.out (fun _ hk => hk.2))); replace HB := Aside0.mk (hb); replace HR397 := Aside0.mk ((show Kd.C k24 w81 Ao74 y394.length y394 from by rw [Ny394.out]; exact Kd.C_take (m := (x6_3 : Int).toNat) ((Kd.R_reads' (Kd.R_after (ok := (fun k_ => k_ ≠ gb349)) (rz HO_3) hg hat)).2.2) KL78.out)); replace HO_3 := Aside0.mk (Kd.R_after (ok := (fun k_ => k_ ≠ gb349)) (rz HO_3) hg hat); have HO403 := Aside0.mk (ho); clear HO400; clear ho hb hg hat; have q82 : (x6_3 : Int) ≤ ((x3_1.length : Int) : Int) := od; obtain ⟨i082, hi082, _, hsz82, _⟩ := info_parts info24; have hroom82 : x3_1.length ≤ co74 := (Kd.R_reads' HO_3.out).2.1; have hC82 : Kd.C k24 _ Ao74 x3_1.length x3_1 := (Kd.R_reads' HO_3.out).2.2; have q082 : (0 : Int) ≤ (x6_3 : Int) := od; have hcut82 := cut_from (P := Tryz.prog) 104 24 .i64 Tryz.underlying104 hi082 2 hsz82 Ao74 x3_1.length co74 x6_3 q082 q82; have hr82 := Kd.C_drop (m := (x6_3 : Int).toNat) (c := co74) hC82 (by omega) hroom82; obtain ⟨A82, hA82⟩ : ∃ A1, A1 = (if co74 = (x6_3 : Int).toNat then Ao74 else (Ao74 : Option Addr).map (·.add ((x6_3 : Int).toNat * 2))) := ⟨_, rfl⟩; obtain ⟨c82, hc82⟩ : ∃ c1, c1 = co74 - (x6_3 : Int).toNat := ⟨_, rfl⟩; have hy82 : y404.length = x3_1.length - (x6_3 : Int).toNat := (by rw [Ny404.out, List.length_drop] <;> omega); rw [show (x3_1).drop (x6_3 : Int).toNat = y404 from Ny404.out.symm] at hr82; replace hr82 : Kd.C k24 _ A82 y404.length y404 := (by rw [hA82]; exact hr82); rw [← hy82, ← hA82, ← hc82] at hcut82; have HR407 := Aside0.mk hr82; have HC407 := Aside0.mk (show y404.length ≤ c82 from by rw [hy82, hc82]; exact Nat.sub_le_sub_right hroom82 _); clear hr82 hC82 hroom82 hi082 hsz82 hc82; have KY82 := Aside0.mk hy82; have KA82 := Aside0.mk hA82; clear hy82 hA82; have KL82 := Aside0.mk (show (x6_3 : Int).toNat ≤ x3_1.length from by omega); replace q82 := eq_true q82) | ((with_reducible refine gate_builtin (b := .append) (xs := #[.tmp 72, .tmp 75]) rfl ?_); at_builtin; refine Kd.R_append_rows k24 (w0 := w) w.heap.size rfl (.tmp 72) (.tmp 75) 104 24 (.agg #[(.int .i64 0), (.int .i64 0)]) 16 rfl Tryz.underlying104 info24 rfl (by decide) (by omega) v402 y401 y404 _ _ _ (fun k_ => some k_ ≠ (.slice Ao74 x3_1.length co74 : Value).ownBlock ∧ k_ ≠ gb349) (fun _ => False) rfl rfl ?aO ?aR (fun _ _ h => h) (fun _ h => h.elim) ?aF ?aB ?aS ?aL ?_; (case aR => repeat (first | exact (by repeat (first | (with_reducible exact HR407.out) | (with_reducible refine Kd.C_alloc ?_ _) | (with_reducible refine Kd.C_drewN ?_ _) | (with_reducible refine Kd.C_drew ?_) | exact HR407.out)) | (with_reducible refine Kd.C_alloc ?_ _) | (with_reducible refine Kd.C_drewN ?_ _) | (with_reducible refine Kd.C_drew ?_))); (case aB => exact bz); (case aF => exact (fun k_ hk => ⟨Kd.fresh' (Kd.R_lt (rz HO_3)) k_ hk, Kd.freshB (g := gb349) (o := .cells #[.int .i64 t351, .int .i64 t352] 24 (0, 0)) kz k_ hk⟩)); (case aO => exact (rz HO403)); (case aS => exact sz); (case aL => have := LMc72.out; omega); intro v409 w83 ho hb hg hat; rw [← Ny408.out] at ho; replace BK349 := Aside0.mk (blk_grown (g := gb349) (o := .cells #[.int .i64 t351, .int .i64 t352] 24 (0, 0)) kz hg (Kd.R_away HO403.out (fun _ hk => hk.2))); replace HB := Aside0.mk (hb); replace HR397 := Aside0.mk ((show Kd.C k24 w83 Ao74 y394.length y394 from by rw [Ny394.out]; exact Kd.C_take (m := (x6_3 : Int).toNat) ((Kd.R_reads' (Kd.R_after (ok := (fun k_ => k_ ≠ gb349)) (rz HO_3) hg hat)).2.2) KL78.out)); replace HR407 := Aside0.mk ((show Kd.C k24 w83 A82 y404.length y404 from by rw [Ny404.out, KA82.out]; exact Kd.C_drop (m := (x6_3 : Int).toNat) (c := co74) ((Kd.R_reads' (Kd.R_after (ok := (fun k_ => k_ ≠ gb349)) (rz HO_3) hg hat)).2.2) KL82.out ((Kd.R_reads' (Kd.R_after (ok := (fun k_ => k_ ≠ gb349)) (rz HO_3) hg hat)).2.1))); replace HO_3 := Aside0.mk (Kd.R_after (ok := (fun k_ => k_ ≠ gb349)) (rz HO_3) hg hat); have HO410 := Aside0.mk (ho); clear HO403; clear ho hb hg hat))
                go_roundg k3
                case measure => have := HK1.out; have := HJ5.out; have := HK3.out; omega
                case rel => exact ⟨(y408), (wrap64 (x4_1 + 1)), jz, H', ⟨by have := HK1.out; have := HJ5.out; have := HK3.out; omega⟩, ⟨by (with_reducible repeat (first | apply Kd.R_alloc | apply Kd.R_drewN | apply Kd.R_drew)); exact Kd.R_mono HO410.out (fun _ hk => trivial)⟩, ⟨bz⟩⟩
               ·rw [if_neg c72] at H
                exact absurd H (by simp)
              ·rw [if_neg c69] at H
               exact absurd H (by simp)
             ·rw [if_neg c68] at H
              exact absurd H (by simp)
            ·rw [if_neg c67] at H
             exact absurd H (by simp)
           ·rw [if_neg c66] at H
            exact absurd H (by simp)
     ·rw [if_neg c5] at H
      exact absurd H (by simp)
    ·rw [if_neg c4] at H
     exact absurd H (by simp)
   ·rw [if_neg c2] at H; have c2b0 : decide (x4_1 < (wrap64 (2 * (l0.length : Int)))) = false := decide_eq_false c2; clear c2; obtain rfl := Option.some.inj H
    go_wp2
    go_ret
    exact ⟨_, ez, by (with_reducible repeat (first | apply Kd.R_alloc | apply Kd.R_drewN | apply Kd.R_drew)); exact HO_3.out, bz⟩
mutual
def dioramaref02_joined.l0 : Nat → List (S53) → List (S53) → Int → List (S24) → List (S53) → Int → Option ((List (S53)))
  | 0, _, _, _, _, _, _ => none
  | k + 1, x0, x1, x2, x8, x9, x10 => if (wrap64 (x10 + 1)) < (x8.length : Int) then (if 0 ≤ x10 then (if x10 < (x8.length : Int) then ((dioramaref02_inside.f k x0 ((rd_T24 x8 x10).f0) ((rd_T24 x8 x10).f1)).bind fun t424 => ((dioramaref02_inside.f k x1 ((rd_T24 x8 x10).f0) ((rd_T24 x8 x10).f1)).bind fun t426 => (if x2 = 0 then (if t424 = true then (if x2 = 1 then (if t426 = true then (if x2 = 2 then (dioramaref02_joined.j1 k x0 x1 x2 x8 x9 x10 (!(!t426))) else (dioramaref02_joined.j1 k x0 x1 x2 x8 x9 x10 false)) else (dioramaref02_joined.j1 k x0 x1 x2 x8 x9 x10 true)) else (if x2 = 2 then (dioramaref02_joined.j1 k x0 x1 x2 x8 x9 x10 (!(!t426))) else (dioramaref02_joined.j1 k x0 x1 x2 x8 x9 x10 false))) else (if t426 = true then (if x2 = 1 then (dioramaref02_joined.j1 k x0 x1 x2 x8 x9 x10 true) else (if x2 = 2 then (dioramaref02_joined.j1 k x0 x1 x2 x8 x9 x10 (!false)) else (dioramaref02_joined.j1 k x0 x1 x2 x8 x9 x10 false))) else (dioramaref02_joined.j1 k x0 x1 x2 x8 x9 x10 true))) else (if x2 = 1 then (if t424 = true then (if t426 = true then (if x2 = 2 then (dioramaref02_joined.j1 k x0 x1 x2 x8 x9 x10 (!(!t426))) else (dioramaref02_joined.j1 k x0 x1 x2 x8 x9 x10 false)) else (dioramaref02_joined.j1 k x0 x1 x2 x8 x9 x10 true)) else (dioramaref02_joined.j1 k x0 x1 x2 x8 x9 x10 true)) else (if x2 = 2 then (if t424 = true then (dioramaref02_joined.j1 k x0 x1 x2 x8 x9 x10 (!(!t426))) else (dioramaref02_joined.j1 k x0 x1 x2 x8 x9 x10 (!false))) else (dioramaref02_joined.j1 k x0 x1 x2 x8 x9 x10 false)))))) else (none)) else (none)) else (some x9)
def dioramaref02_joined.j1 : Nat → List (S53) → List (S53) → Int → List (S24) → List (S53) → Int → Bool → Option ((List (S53)))
  | 0, _, _, _, _, _, _, _ => none
  | k + 1, x0, x1, x2, x8, x9, x10, x72 => if x72 = true then (dioramaref02_joined.l0 k x0 x1 x2 x8 x9 (wrap64 (x10 + 1))) else (if (x9.length : Int) > 0 then (if 0 ≤ (wrap64 ((x9.length : Int) - 1)) then (if (wrap64 ((x9.length : Int) - 1)) < (x9.length : Int) then (if 0 ≤ x10 then (if x10 < (x8.length : Int) then (if (((rd_T53 x9 (wrap64 ((x9.length : Int) - 1))).f1.f0) == ((rd_T24 x8 x10).f0) && (((rd_T53 x9 (wrap64 ((x9.length : Int) - 1))).f1.f1) == ((rd_T24 x8 x10).f1))) = true then (if 0 ≤ (wrap64 (x10 + 1)) then (if (wrap64 (x10 + 1)) < (x8.length : Int) then (dioramaref02_joined.l0 k x0 x1 x2 x8 (x9.set ((wrap64 ((x9.length : Int) - 1)) : Int).toNat (⟨(⟨(rd_T53 x9 (wrap64 ((x9.length : Int) - 1))).f0.f0, (rd_T53 x9 (wrap64 ((x9.length : Int) - 1))).f0.f1⟩ : S24), (⟨(rd_T24 x8 (wrap64 (x10 + 1))).f0, (rd_T24 x8 (wrap64 (x10 + 1))).f1⟩ : S24)⟩ : S53)) (wrap64 (x10 + 1))) else (none)) else (none)) else (if 0 ≤ (wrap64 (x10 + 1)) then (if (wrap64 (x10 + 1)) < (x8.length : Int) then (if x9.length < 4398046511104 then (dioramaref02_joined.l0 k x0 x1 x2 x8 (x9 ++ [(⟨(⟨(rd_T24 x8 x10).f0, (rd_T24 x8 x10).f1⟩ : S24), (⟨(rd_T24 x8 (wrap64 (x10 + 1))).f0, (rd_T24 x8 (wrap64 (x10 + 1))).f1⟩ : S24)⟩ : S53)]) (wrap64 (x10 + 1))) else (none)) else (none)) else (none))) else (none)) else (none)) else (none)) else (none)) else (if 0 ≤ x10 then (if x10 < (x8.length : Int) then (if 0 ≤ (wrap64 (x10 + 1)) then (if (wrap64 (x10 + 1)) < (x8.length : Int) then (if x9.length < 4398046511104 then (dioramaref02_joined.l0 k x0 x1 x2 x8 (x9 ++ [(⟨(⟨(rd_T24 x8 x10).f0, (rd_T24 x8 x10).f1⟩ : S24), (⟨(rd_T24 x8 (wrap64 (x10 + 1))).f0, (rd_T24 x8 (wrap64 (x10 + 1))).f1⟩ : S24)⟩ : S53)]) (wrap64 (x10 + 1))) else (none)) else (none)) else (none)) else (none)) else (none)))
end
def dioramaref02_joined.f (k : Nat) (l0 : List (S53)) (l1 : List (S53)) (a2 : Int) : Option ((List (S53))) := (some (([] : List (S53)) : List (S53))).bind fun y411 => (if y411.length + l0.length < 4398046511104 then ((some (y411 ++ l0 : List (S53))).bind fun y414 => (if y414.length + l1.length < 4398046511104 then ((dioramaref02_ends.f k (y414 ++ l1)).bind fun t420 => (dioramaref02_joined.l0 k l0 l1 a2 t420 ([] : List (S53)) 0)) else (none))) else (none))
set_option maxHeartbeats 8000000 in
set_option maxRecDepth 100000 in
theorem dioramaref02_joined.calls (k : Nat) (A0 : Option Addr) (c0 : Nat) (l0 : List (S53)) (A1 : Option Addr) (c1 : Nat) (l1 : List (S53)) (a2 : Int) (r : List (S53)) (w : World) (hr0 : Kd.C k53 w A0 l0.length l0) (hc0 : l0.length ≤ c0) (hr1 : Kd.C k53 w A1 l1.length l1) (hc1 : l1.length ≤ c1) (h : dioramaref02_joined.f k l0 l1 a2 = some r) :
  Calls Tryz.prog 44 #[.slice A0 l0.length c0, .slice A1 l1.length c1, .int .i64 a2] w fun e w' => ∃ v0_ : Value, e = .returned (v0_) ∧ Kd.R k53 53 w' w.heap.size (fun _ => True) v0_ r ∧ Below w.heap.size w w' := by
 have hu24 := Tryz.underlying24; have hu53 := Tryz.underlying53; have HR0 := Aside0.mk hr0; have HC0 := Aside0.mk hc0; clear hr0 hc0; have HR1 := Aside0.mk hr1; have HC1 := Aside0.mk hc1; clear hr1 hc1; have HB := Aside0.mk (Below.refl w.heap.size w); have H : ((some (([] : List (S53)) : List (S53))).bind fun y411 => (if y411.length + l0.length < 4398046511104 then ((some (y411 ++ l0 : List (S53))).bind fun y414 => (if y414.length + l1.length < 4398046511104 then ((dioramaref02_ends.f k (y414 ++ l1)).bind fun t420 => (dioramaref02_joined.l0 k l0 l1 a2 t420 ([] : List (S53)) 0)) else (none))) else (none))) = some r := h
 clear h; obtain ⟨y411, hy411⟩ : ∃ y_ : List (S53), y_ = (([] : List (S53))) := ⟨_, rfl⟩; replace H : (if y411.length + l0.length < 4398046511104 then ((some (y411 ++ l0 : List (S53))).bind fun y414 => (if y414.length + l1.length < 4398046511104 then ((dioramaref02_ends.f k (y414 ++ l1)).bind fun t420 => (dioramaref02_joined.l0 k l0 l1 a2 t420 ([] : List (S53)) 0)) else (none))) else (none)) = some r := by first | (rw [hy411]; with_reducible exact H) | (have H2_ := (Option.bind_some _ _).symm.trans H; rw [hy411]; with_reducible exact H2_) | (have H2_ := (Option.bind_some _ _).symm.trans H; with_reducible exact H2_) | with_reducible exact H | (rw [hy411]; exact H) | exact H
 have Ny411 := Aside0.mk hy411; clear hy411
 by_cases c4 : y411.length + l0.length < 4398046511104
 ·rw [if_pos c4] at H; have LMc4 := Aside0.mk c4; clear c4; obtain ⟨y414, hy414⟩ : ∃ y_ : List (S53), y_ = (y411 ++ l0) := ⟨_, rfl⟩; replace H : (if y414.length + l1.length < 4398046511104 then ((dioramaref02_ends.f k (y414 ++ l1)).bind fun t420 => (dioramaref02_joined.l0 k l0 l1 a2 t420 ([] : List (S53)) 0)) else (none)) = some r := by first | (rw [hy414]; with_reducible exact H) | (have H2_ := (Option.bind_some _ _).symm.trans H; rw [hy414]; with_reducible exact H2_) | (have H2_ := (Option.bind_some _ _).symm.trans H; with_reducible exact H2_) | with_reducible exact H | (rw [hy414]; exact H) | exact H
  have Ny414 := Aside0.mk hy414; clear hy414
  by_cases c5 : y414.length + l1.length < 4398046511104
  ·rw [if_pos c5] at H; have LMc5 := Aside0.mk c5; clear c5; obtain ⟨y417, hy417⟩ : ∃ y_ : List (S53), y_ = (y414 ++ l1) := ⟨_, rfl⟩; replace H : ((dioramaref02_ends.f k y417).bind fun t420 => (dioramaref02_joined.l0 k l0 l1 a2 t420 ([] : List (S53)) 0)) = some r := by first | (rw [hy417]; with_reducible exact H) | (have H2_ := (Option.bind_some _ _).symm.trans H; rw [hy417]; with_reducible exact H2_) | (have H2_ := (Option.bind_some _ _).symm.trans H; with_reducible exact H2_) | with_reducible exact H | (rw [hy417]; exact H) | exact H
   have Ny417 := Aside0.mk hy417; clear hy417; obtain ⟨t420, A6, H⟩ := ob H; have H' := Aside0.mk H; clear H
   go_enter Tryz.func44, Tryz.ntmps44
   go_wp2_with (first | ((with_reducible refine gate_dst (N := 14) rfl ?_); refine Kd.R_lit k53 _ 53 ?hg (N := 14) ?hd (xs := ([] : List (S53))) (inner := []) (ok := fun _ => True) (okp := fun _ => True) ?hr ?hp (fun _ hk => hk) trivial (Below.refl _ _) (Nat.le_refl _) (by simp) ?_; (case hd => rfl); (case hg => rfl); (case hr => first | (go_simp; done) | (go_simp; rfl)); (case hp => exact (Reps.none _ _)); intro v412 w7 ho8 hb hg_ hnew_; clear hg_ hnew_; (first | rw [← Ny411.out] at ho8 | (simp only [Int.reduceToNat] at ho8; rw [← Ny411.out] at ho8)); have HO413 := Aside0.mk (Kd.R_lower ho8 sz); replace HB := bp hb; clear hb ho8) | ((with_reducible refine gate_builtin (b := .append) (xs := #[.tmp 14, .tmp 15]) rfl ?_); at_builtin; refine Kd.R_append_rows k53 (w0 := w) w.heap.size rfl (.tmp 14) (.tmp 15) 22 53 (.agg #[(.int .i64 0), (.int .i64 0), (.int .i64 0), (.int .i64 0)]) 32 rfl Tryz.underlying22 info53 rfl (by decide) (by omega) v412 y411 l0 _ _ _ (fun _ => True) (fun _ => False) rfl rfl ?aO ?aR (fun _ _ h => h) (fun _ h => h.elim) ?aF ?aB ?aS ?aL ?_; (case aR => repeat (first | exact (Kd.C_below HR0.out HB.out) | (with_reducible refine Kd.C_alloc ?_ _) | (with_reducible refine Kd.C_drewN ?_ _) | (with_reducible refine Kd.C_drew ?_))); (case aB => exact bz); (case aF => exact (fun _ _ => trivial)); (case aO => exact (rz HO413)); (case aS => exact sz); (case aL => have := LMc4.out; omega); intro v415 w9 ho hb hg hat; rw [← Ny414.out] at ho; replace HB := Aside0.mk (hb); have HO416 := Aside0.mk (ho); clear HO413; clear ho hb hg hat) | ((with_reducible refine gate_builtin (b := .append) (xs := #[.tmp 16, .tmp 17]) rfl ?_); at_builtin; refine Kd.R_append_rows k53 (w0 := w) w.heap.size rfl (.tmp 16) (.tmp 17) 22 53 (.agg #[(.int .i64 0), (.int .i64 0), (.int .i64 0), (.int .i64 0)]) 32 rfl Tryz.underlying22 info53 rfl (by decide) (by omega) v415 y414 l1 _ _ _ (fun _ => True) (fun _ => False) rfl rfl ?aO ?aR (fun _ _ h => h) (fun _ h => h.elim) ?aF ?aB ?aS ?aL ?_; (case aR => repeat (first | exact (Kd.C_below HR1.out HB.out) | (with_reducible refine Kd.C_alloc ?_ _) | (with_reducible refine Kd.C_drewN ?_ _) | (with_reducible refine Kd.C_drew ?_))); (case aB => exact bz); (case aF => exact (fun _ _ => trivial)); (case aO => exact (rz HO416)); (case aS => exact sz); (case aL => have := LMc5.out; omega); intro v418 w10 ho hb hg hat; rw [← Ny417.out] at ho; replace HB := Aside0.mk (hb); have HO419 := Aside0.mk (ho); clear HO416; clear ho hb hg hat; obtain ⟨Ao11, co11, eo11⟩ := Kd.R_slice HO419.out; subst eo11) | ((with_reducible refine gate_callee (f := 98) rfl ?_); refine zC 20 Tryz.func98 #[.slice Ao11 y417.length co11] ?_; (with_reducible refine (dioramaref02_ends.calls k _ _ y417 t420 _ ?side1 ?side2 A6.out).mono ?_); (case side1 => exact cr HO419); (case side2 => exact (Kd.R_reads' HO419.out).2.1); rintro e w12 ⟨v421, rfl, ho0, hb⟩; refine ⟨_, rfl, ?_⟩; replace HO419 := Aside0.mk (Kd.R_below (rz HO419) hb); have HO422 := Aside0.mk (Kd.R_lower ho0 sz); replace HB := bp hb; clear hb ho0))
   go_loopg [9, 10] k (fun kq v9 v10 w' => ∃ (x9_1 : List (S53)) (x10_1 : Int), v10 = .int .i64 x10_1 ∧ Aside0 (dioramaref02_joined.l0 kq l0 l1 a2 t420 x9_1 x10_1 = some r) ∧ Aside0 (kq ≤ k) ∧ Aside0 (Kd.R k24 24 w' w.heap.size (fun _ => True) v421 t420) ∧ Aside0 (Kd.R k53 53 w' w.heap.size (fun _ => True) v9 x9_1) ∧ Aside0 (Below w.heap.size w w'))
   case atStart => exact ⟨(([] : List (S53))), (0), jz, H', ⟨Nat.le_refl _⟩, ⟨rz HO422⟩, ⟨by first | exact Kd.R_nil _ _ _ _ _ | exact Kd.N_nil _ _ _ _ _ | exact Kd.V_nil _ _ _ _ _ | exact Kd.Q_nil _ _ _ _ _ | exact Kd.S_nil _ _ _ _ _⟩, ⟨bz⟩⟩
   case round =>
    clear H'
    try clear c1
    try clear p2
    try clear c4
    try clear c5
    try clear c9
    obtain ⟨x9_1, x10_1, rfl, HA, HK1, HO_8, HO_9, HB⟩ := hrel
    cases gk with
    | zero => exact absurd HA.out (by simp [dioramaref02_joined.l0])
    | succ k1 =>
     have H := HA.out; clear HA; simp only [dioramaref02_joined.l0] at H
     by_cases c13 : (wrap64 (x10_1 + 1)) < (t420.length : Int)
     ·rw [if_pos c13] at H; have c13b0 : decide ((wrap64 (x10_1 + 1)) < (t420.length : Int)) = true := decide_eq_true c13; clear c13
      by_cases c14 : 0 ≤ x10_1
      ·rw [if_pos c14] at H; have c14b0 : decide (0 ≤ x10_1) = true := decide_eq_true c14; clear c14
       by_cases c15 : x10_1 < (t420.length : Int)
       ·rw [if_pos c15] at H; have c15b0 : decide (x10_1 < (t420.length : Int)) = true := decide_eq_true c15; clear c15; obtain ⟨t424, A16, H⟩ := ob H; obtain ⟨t426, A17, H⟩ := ob H; have HC18 := Aside0.mk H; clear H; obtain ⟨Ao19, co19, eo19⟩ := Kd.R_slice HO_8.out; subst eo19
        try go_wp2
        replace HO_8 := Aside0.mk (Kd.R_drew HO_8.out); replace HO_9 := Aside0.mk (Kd.R_drew HO_9.out); replace HB := Aside0.mk (below_drew1 HB.out); have p423 : 0 ≤ (x10_1 : Int) := od; have q423 : x10_1 < (t420.length : Int) := od; obtain ⟨ad423, e423, hx423_0, hx423_1⟩ := at_T24 (Kd.R_reads' HO_8.out).2.2 x10_1 p423 q423
        cases e423
        replace p423 := eq_true p423; replace q423 := eq_true q423; have p425 : 0 ≤ (x10_1 : Int) := od; have q425 : x10_1 < (t420.length : Int) := od; obtain ⟨ad425, e425, hx425_0, hx425_1⟩ := at_T24 (Kd.R_reads' HO_8.out).2.2 x10_1 p425 q425; obtain rfl : ad423 = ad425 := (by injection e425); replace p425 := eq_true p425; replace q425 := eq_true q425; refine start_ (n := 14) (S := fun w' => w'.cell? (ad423.add ((x10_1).toNat * 2)) = some (.int .i64 ((rd_T24 t420 x10_1).f0)) ∧ w'.cell? ⟨(ad423.add ((x10_1).toNat * 2)).block, (ad423.add ((x10_1).toNat * 2)).off + 1, none⟩ = some (.int .i64 ((rd_T24 t420 x10_1).f1)) ∧ w'.cell? (ad423.add ((x10_1).toNat * 2)) = some (.int .i64 ((rd_T24 t420 x10_1).f0)) ∧ w'.cell? ⟨(ad423.add ((x10_1).toNat * 2)).block, (ad423.add ((x10_1).toNat * 2)).off + 1, none⟩ = some (.int .i64 ((rd_T24 t420 x10_1).f1))) (ds := []) (bs 14 0) (by kernel_rfl) rfl rfl ⟨hx423_0, hx423_1, hx425_0, hx425_1⟩ (fun hHeld => ?_)
        generalize wr.drew = w20 at HO_8 HO_9 HB hx423_0 hx423_1 hx425_0 hx425_1 hHeld ⊢; refine zP 0 28 14 1 ?_; refine zP 1 29 14 3 ?_; refine zP 2 30 14 7 ?_; refine zP 3 31 14 15 ?_; refine zP 6 34 14 79 ?_; refine zP 7 35 14 207 ?_; refine zP 8 36 14 463 ?_; refine zP 9 37 14 975 ?_; refine zT 4 32 14 991 hHeld ?_; refine zT 10 38 14 2015 hHeld ?_; refine zN 5 (some 33) 14 2047 (fun K hK => ?_); refine zG Tryz.func51 #[.slice A0 l0.length c0, .agg #[.int .i64 ((rd_T24 t420 x10_1).f0), .int .i64 ((rd_T24 t420 x10_1).f1)]] ?_
        with_reducible refine (dioramaref02_inside.calls k1 _ _ l0 ((rd_T24 t420 x10_1).f0) ((rd_T24 t420 x10_1).f1) t424 _ ?side1 ?side2 A16.out).mono ?_
        (case side1 => exact cz HR0)
        (case side2 => exact HC0.out)
        rintro e w21 ⟨rfl, hb⟩; have HS0_ := (hb.cell (World.block_lt_of_cell? _ _ (hHeld.1))).trans (hHeld.1); have HS1_ := (hb.cell (World.block_lt_of_cell? _ _ (hHeld.2.1))).trans (hHeld.2.1); have HS2_ := (hb.cell (World.block_lt_of_cell? _ _ (hHeld.2.2.1))).trans (hHeld.2.2.1); have HS3_ := (hb.cell (World.block_lt_of_cell? _ _ (hHeld.2.2.2))).trans (hHeld.2.2.2); refine ⟨_, rfl, ?_⟩; replace HO_8 := Aside0.mk (Kd.R_below (rz HO_8) hb); replace HO_9 := Aside0.mk (Kd.R_below (rz HO_9) hb); replace HB := bp hb; clear hb; refine hK.out _ _ ⟨HS0_, HS1_, HS2_, HS3_⟩ (fun hHeld => ?_); clear hK K; refine zM 33 ?_; refine zN 11 (some 39) 14 4095 (fun K hK => ?_); refine zG Tryz.func51 #[.slice A1 l1.length c1, .agg #[.int .i64 ((rd_T24 t420 x10_1).f0), .int .i64 ((rd_T24 t420 x10_1).f1)]] ?_
        with_reducible refine (dioramaref02_inside.calls k1 _ _ l1 ((rd_T24 t420 x10_1).f0) ((rd_T24 t420 x10_1).f1) t426 _ ?side1 ?side2 A17.out).mono ?_
        (case side1 => exact cz HR1)
        (case side2 => exact HC1.out)
        rintro e w22 ⟨rfl, hb⟩; have HS0_ := (hb.cell (World.block_lt_of_cell? _ _ (hHeld.1))).trans (hHeld.1); have HS1_ := (hb.cell (World.block_lt_of_cell? _ _ (hHeld.2.1))).trans (hHeld.2.1); have HS2_ := (hb.cell (World.block_lt_of_cell? _ _ (hHeld.2.2.1))).trans (hHeld.2.2.1); have HS3_ := (hb.cell (World.block_lt_of_cell? _ _ (hHeld.2.2.2))).trans (hHeld.2.2.2); refine ⟨_, rfl, ?_⟩; replace HO_8 := Aside0.mk (Kd.R_below (rz HO_8) hb); replace HO_9 := Aside0.mk (Kd.R_below (rz HO_9) hb); replace HB := bp hb; clear hb; refine hK.out _ _ ⟨HS0_, HS1_, HS2_, HS3_⟩ (fun hHeld => ?_); clear hK K; refine zM 39 ?_; refine zP 12 11 14 8191 ?_; refine zP 13 12 14 16383 ?_; refine done_ (by kernel_rfl) ?_
        go_upto_region 8 with (fail)
        go_cut [72] (fun v72 wc => ∃ (kq : Nat) (x72_17 : Bool), v72 = .bool x72_17 ∧ Aside0 (dioramaref02_joined.j1 kq l0 l1 a2 t420 x9_1 x10_1 x72_17 = some r) ∧ Aside0 (kq ≤ k1) ∧ Aside0 (Kd.R k24 24 wc w.heap.size (fun _ => True) (.slice (some ad423) t420.length co19) t420) ∧ Aside0 (Kd.R k53 53 wc w.heap.size (fun _ => True) u9 x9_1) ∧ Aside0 (Below w.heap.size w wc))
        case first =>
         have H := HC18.out; clear HC18
         by_cases c23 : a2 = 0
         ·rw [if_pos c23] at H; have c23b0 : (a2 == 0) = true := beq_iff_eq.mpr c23; have c23b1 : (a2 != 0) = false := bne_eq_false_iff_eq.mpr c23; clear c23
          (first | rw [c23b0] | (simp only [i64_w, i32_w]; rw [c23b0]) | skip)
          by_cases c24 : t424 = true
          ·subst c24; rw [if_pos rfl] at H
           by_cases c25 : a2 = 1
           ·rw [if_pos c25] at H; have c25b0 : (a2 == 1) = true := beq_iff_eq.mpr c25; have c25b1 : (a2 != 1) = false := bne_eq_false_iff_eq.mpr c25; clear c25
            by_cases c26 : t426 = true
            ·subst c26; rw [if_pos rfl] at H
             by_cases c27 : a2 = 2
             ·rw [if_pos c27] at H; have c27b0 : (a2 == 2) = true := beq_iff_eq.mpr c27; have c27b1 : (a2 != 2) = false := bne_eq_false_iff_eq.mpr c27; clear c27; have H' := Aside0.mk H; clear H
              go_wp2
              go_meet
              case rel => exact ⟨_, (!(!true)), jz, H', ⟨by have := HK1.out; first | omega | exact Nat.le_refl _⟩, ⟨rz HO_8⟩, ⟨rz HO_9⟩, ⟨bz⟩⟩
             ·rw [if_neg c27] at H; have c27b0 : (a2 == 2) = false := beq_eq_false_iff_ne.mpr c27; have c27b1 : (a2 != 2) = true := bne_iff_ne.mpr c27; have H' := Aside0.mk H; clear H
              go_wp2
              go_meet
              case rel => exact ⟨_, (false), jz, H', ⟨by have := HK1.out; first | omega | exact Nat.le_refl _⟩, ⟨rz HO_8⟩, ⟨rz HO_9⟩, ⟨bz⟩⟩
            ·obtain rfl := bf c26; rw [if_neg (show ¬ (false = true) by decide)] at H; have H' := Aside0.mk H; clear H
             go_wp2
             go_meet
             case rel => exact ⟨_, (true), jz, H', ⟨by have := HK1.out; first | omega | exact Nat.le_refl _⟩, ⟨rz HO_8⟩, ⟨rz HO_9⟩, ⟨bz⟩⟩
           ·rw [if_neg c25] at H; have c25b0 : (a2 == 1) = false := beq_eq_false_iff_ne.mpr c25; have c25b1 : (a2 != 1) = true := bne_iff_ne.mpr c25
            by_cases c28 : a2 = 2
            ·rw [if_pos c28] at H; have c28b0 : (a2 == 2) = true := beq_iff_eq.mpr c28; have c28b1 : (a2 != 2) = false := bne_eq_false_iff_eq.mpr c28; clear c28; have H' := Aside0.mk H; clear H
             go_wp2
             go_meet
             case rel => exact ⟨_, (!(!t426)), jz, H', ⟨by have := HK1.out; first | omega | exact Nat.le_refl _⟩, ⟨rz HO_8⟩, ⟨rz HO_9⟩, ⟨bz⟩⟩
            ·rw [if_neg c28] at H; have c28b0 : (a2 == 2) = false := beq_eq_false_iff_ne.mpr c28; have c28b1 : (a2 != 2) = true := bne_iff_ne.mpr c28; have H' := Aside0.mk H; clear H
             go_wp2
             go_meet
             case rel => exact ⟨_, (false), jz, H', ⟨by have := HK1.out; first | omega | exact Nat.le_refl _⟩, ⟨rz HO_8⟩, ⟨rz HO_9⟩, ⟨bz⟩⟩
          ·obtain rfl := bf c24; rw [if_neg (show ¬ (false = true) by decide)] at H
           by_cases c29 : t426 = true
           ·subst c29; rw [if_pos rfl] at H
            by_cases c30 : a2 = 1
            ·rw [if_pos c30] at H; have c30b0 : (a2 == 1) = true := beq_iff_eq.mpr c30; have c30b1 : (a2 != 1) = false := bne_eq_false_iff_eq.mpr c30; clear c30; have H' := Aside0.mk H; clear H
             go_wp2
             go_meet
             case rel => exact ⟨_, (true), jz, H', ⟨by have := HK1.out; first | omega | exact Nat.le_refl _⟩, ⟨rz HO_8⟩, ⟨rz HO_9⟩, ⟨bz⟩⟩
            ·rw [if_neg c30] at H; have c30b0 : (a2 == 1) = false := beq_eq_false_iff_ne.mpr c30; have c30b1 : (a2 != 1) = true := bne_iff_ne.mpr c30
             by_cases c31 : a2 = 2
             ·rw [if_pos c31] at H; have c31b0 : (a2 == 2) = true := beq_iff_eq.mpr c31; have c31b1 : (a2 != 2) = false := bne_eq_false_iff_eq.mpr c31; clear c31; have H' := Aside0.mk H; clear H
              go_wp2
              go_meet
              case rel => exact ⟨_, (!false), jz, H', ⟨by have := HK1.out; first | omega | exact Nat.le_refl _⟩, ⟨rz HO_8⟩, ⟨rz HO_9⟩, ⟨bz⟩⟩
             ·rw [if_neg c31] at H; have c31b0 : (a2 == 2) = false := beq_eq_false_iff_ne.mpr c31; have c31b1 : (a2 != 2) = true := bne_iff_ne.mpr c31; have H' := Aside0.mk H; clear H
              go_wp2
              go_meet
              case rel => exact ⟨_, (false), jz, H', ⟨by have := HK1.out; first | omega | exact Nat.le_refl _⟩, ⟨rz HO_8⟩, ⟨rz HO_9⟩, ⟨bz⟩⟩
           ·obtain rfl := bf c29; rw [if_neg (show ¬ (false = true) by decide)] at H; have H' := Aside0.mk H; clear H
            go_wp2
            go_meet
            case rel => exact ⟨_, (true), jz, H', ⟨by have := HK1.out; first | omega | exact Nat.le_refl _⟩, ⟨rz HO_8⟩, ⟨rz HO_9⟩, ⟨bz⟩⟩
         ·rw [if_neg c23] at H; have c23b0 : (a2 == 0) = false := beq_eq_false_iff_ne.mpr c23; have c23b1 : (a2 != 0) = true := bne_iff_ne.mpr c23
          (first | rw [c23b0] | (simp only [i64_w, i32_w]; rw [c23b0]) | skip)
          by_cases c32 : a2 = 1
          ·rw [if_pos c32] at H; have c32b0 : (a2 == 1) = true := beq_iff_eq.mpr c32; have c32b1 : (a2 != 1) = false := bne_eq_false_iff_eq.mpr c32; clear c32
           by_cases c33 : t424 = true
           ·subst c33; rw [if_pos rfl] at H
            by_cases c34 : t426 = true
            ·subst c34; rw [if_pos rfl] at H
             by_cases c35 : a2 = 2
             ·rw [if_pos c35] at H; have c35b0 : (a2 == 2) = true := beq_iff_eq.mpr c35; have c35b1 : (a2 != 2) = false := bne_eq_false_iff_eq.mpr c35; clear c35; have H' := Aside0.mk H; clear H
              go_wp2
              go_meet
              case rel => exact ⟨_, (!(!true)), jz, H', ⟨by have := HK1.out; first | omega | exact Nat.le_refl _⟩, ⟨rz HO_8⟩, ⟨rz HO_9⟩, ⟨bz⟩⟩
             ·rw [if_neg c35] at H; have c35b0 : (a2 == 2) = false := beq_eq_false_iff_ne.mpr c35; have c35b1 : (a2 != 2) = true := bne_iff_ne.mpr c35; have H' := Aside0.mk H; clear H
              go_wp2
              go_meet
              case rel => exact ⟨_, (false), jz, H', ⟨by have := HK1.out; first | omega | exact Nat.le_refl _⟩, ⟨rz HO_8⟩, ⟨rz HO_9⟩, ⟨bz⟩⟩
            ·obtain rfl := bf c34; rw [if_neg (show ¬ (false = true) by decide)] at H; have H' := Aside0.mk H; clear H
             go_wp2
             go_meet
             case rel => exact ⟨_, (true), jz, H', ⟨by have := HK1.out; first | omega | exact Nat.le_refl _⟩, ⟨rz HO_8⟩, ⟨rz HO_9⟩, ⟨bz⟩⟩
           ·obtain rfl := bf c33; rw [if_neg (show ¬ (false = true) by decide)] at H; have H' := Aside0.mk H; clear H
            go_wp2
            go_meet
            case rel => exact ⟨_, (true), jz, H', ⟨by have := HK1.out; first | omega | exact Nat.le_refl _⟩, ⟨rz HO_8⟩, ⟨rz HO_9⟩, ⟨bz⟩⟩
          ·rw [if_neg c32] at H; have c32b0 : (a2 == 1) = false := beq_eq_false_iff_ne.mpr c32; have c32b1 : (a2 != 1) = true := bne_iff_ne.mpr c32
           by_cases c36 : a2 = 2
           ·rw [if_pos c36] at H; have c36b0 : (a2 == 2) = true := beq_iff_eq.mpr c36; have c36b1 : (a2 != 2) = false := bne_eq_false_iff_eq.mpr c36; clear c36
            by_cases c37 : t424 = true
            ·subst c37; rw [if_pos rfl] at H; have H' := Aside0.mk H; clear H
             go_wp2
             go_meet
             case rel => exact ⟨_, (!(!t426)), jz, H', ⟨by have := HK1.out; first | omega | exact Nat.le_refl _⟩, ⟨rz HO_8⟩, ⟨rz HO_9⟩, ⟨bz⟩⟩
            ·obtain rfl := bf c37; rw [if_neg (show ¬ (false = true) by decide)] at H; have H' := Aside0.mk H; clear H
             go_wp2
             go_meet
             case rel => exact ⟨_, (!false), jz, H', ⟨by have := HK1.out; first | omega | exact Nat.le_refl _⟩, ⟨rz HO_8⟩, ⟨rz HO_9⟩, ⟨bz⟩⟩
           ·rw [if_neg c36] at H; have c36b0 : (a2 == 2) = false := beq_eq_false_iff_ne.mpr c36; have c36b1 : (a2 != 2) = true := bne_iff_ne.mpr c36; have H' := Aside0.mk H; clear H
            go_wp2
            go_meet
            case rel => exact ⟨_, (false), jz, H', ⟨by have := HK1.out; first | omega | exact Nat.le_refl _⟩, ⟨rz HO_8⟩, ⟨rz HO_9⟩, ⟨bz⟩⟩
        case rest =>
         clear HC18
         try clear c1
         try clear c2
         try clear p2
         try clear c3
         try clear c4
         try clear p4
         try clear q4
         try clear hx4
         try clear c5
         try clear p6
         try clear c9
         try clear c13
         try clear c13b0
         try clear c14
         try clear c14b0
         try clear c15
         try clear c15b0
         try clear c23
         try clear c23b0
         try clear c23b1
         try clear c24
         try clear c25
         try clear c25b0
         try clear c25b1
         try clear c26
         try clear c27
         try clear c27b0
         try clear c27b1
         try clear c28
         try clear c28b0
         try clear c28b1
         try clear c29
         try clear c30
         try clear c30b0
         try clear c30b1
         try clear c31
         try clear c31b0
         try clear c31b1
         try clear c32
         try clear c32b0
         try clear c32b1
         try clear c33
         try clear c34
         try clear c35
         try clear c35b0
         try clear c35b1
         try clear c36
         try clear c36b0
         try clear c36b1
         try clear c37
         try clear hx423_0
         try clear hx423_1
         try clear hx425_0
         try clear hx425_1
         try clear p2
         try clear p423
         try clear p425
         try clear q423
         try clear q425
         obtain ⟨kq, x72_17, rfl, HA, HJ17, HO_8, HO_9, HB⟩ := hcut
         cases kq with
         | zero => exact absurd HA.out (by simp [dioramaref02_joined.j1])
         | succ kj17 =>
          have H := HA.out; clear HA; simp only [dioramaref02_joined.j1] at H
          by_cases c38 : x72_17 = true
          ·subst c38; rw [if_pos rfl] at H; have H' := Aside0.mk H; clear H
           go_wp2
           go_roundg kj17
           case measure => have := HK1.out; have := HJ17.out; omega
           case rel => exact ⟨(x9_1), (wrap64 (x10_1 + 1)), jz, H', ⟨by have := HK1.out; have := HJ17.out; omega⟩, ⟨rz HO_8⟩, ⟨rz HO_9⟩, ⟨bz⟩⟩
          ·obtain rfl := bf c38; rw [if_neg (show ¬ (false = true) by decide)] at H
           by_cases c39 : (x9_1.length : Int) > 0
           ·rw [if_pos c39] at H; have c39b0 : decide (0 < (x9_1.length : Int)) = true := decide_eq_true c39; have c39b1 : decide (0 < x9_1.length) = true := decide_eq_true (by omega); clear c39; obtain ⟨ji40, hji40⟩ : ∃ j_ : Int, (wrap64 ((x9_1.length : Int) - 1)) = j_ := ⟨_, rfl⟩; replace H : (if 0 ≤ (ji40) then (if (ji40) < (x9_1.length : Int) then (if 0 ≤ x10_1 then (if x10_1 < (t420.length : Int) then (if (((rd_T53 x9_1 (ji40)).f1.f0) == ((rd_T24 t420 x10_1).f0) && (((rd_T53 x9_1 (ji40)).f1.f1) == ((rd_T24 t420 x10_1).f1))) = true then (if 0 ≤ (wrap64 (x10_1 + 1)) then (if (wrap64 (x10_1 + 1)) < (t420.length : Int) then (dioramaref02_joined.l0 kj17 l0 l1 a2 t420 (x9_1.set ((ji40) : Int).toNat (⟨(⟨(rd_T53 x9_1 (ji40)).f0.f0, (rd_T53 x9_1 (ji40)).f0.f1⟩ : S24), (⟨(rd_T24 t420 (wrap64 (x10_1 + 1))).f0, (rd_T24 t420 (wrap64 (x10_1 + 1))).f1⟩ : S24)⟩ : S53)) (wrap64 (x10_1 + 1))) else (none)) else (none)) else (if 0 ≤ (wrap64 (x10_1 + 1)) then (if (wrap64 (x10_1 + 1)) < (t420.length : Int) then (if x9_1.length < 4398046511104 then (dioramaref02_joined.l0 kj17 l0 l1 a2 t420 (x9_1 ++ [(⟨(⟨(rd_T24 t420 x10_1).f0, (rd_T24 t420 x10_1).f1⟩ : S24), (⟨(rd_T24 t420 (wrap64 (x10_1 + 1))).f0, (rd_T24 t420 (wrap64 (x10_1 + 1))).f1⟩ : S24)⟩ : S53)]) (wrap64 (x10_1 + 1))) else (none)) else (none)) else (none))) else (none)) else (none)) else (none)) else (none)) = some r := by first | (rw [hji40] at H; exact H) | (simp only [hji40] at H ⊢; exact H)
            have hji40w : (IntKind.i64.wrap ((x9_1.length : Int) - 1)) = ji40 := (i64_w _).trans hji40
            by_cases c41 : 0 ≤ (ji40)
            ·rw [if_pos c41] at H; have c41b0 : decide (0 ≤ (ji40)) = true := decide_eq_true c41; clear c41
             by_cases c42 : (ji40) < (x9_1.length : Int)
             ·rw [if_pos c42] at H; have c42b0 : decide ((ji40) < (x9_1.length : Int)) = true := decide_eq_true c42; clear c42
              by_cases c43 : 0 ≤ x10_1
              ·rw [if_pos c43] at H; have c43b0 : decide (0 ≤ x10_1) = true := decide_eq_true c43; clear c43
               by_cases c44 : x10_1 < (t420.length : Int)
               ·rw [if_pos c44] at H; have c44b0 : decide (x10_1 < (t420.length : Int)) = true := decide_eq_true c44; clear c44
                by_cases c45 : (((rd_T53 x9_1 (ji40)).f1.f0) == ((rd_T24 t420 x10_1).f0) && (((rd_T53 x9_1 (ji40)).f1.f1) == ((rd_T24 t420 x10_1).f1))) = true
                ·rw [if_pos c45] at H; have c45b0 : (((rd_T53 x9_1 (ji40)).f1.f0) == ((rd_T24 t420 x10_1).f0) && (((rd_T53 x9_1 (ji40)).f1.f1) == ((rd_T24 t420 x10_1).f1))) = true := c45
                 (try (have c45b1 : decide (((rd_T53 x9_1 (ji40)).f1.f0) = ((rd_T24 t420 x10_1).f0) && (((rd_T53 x9_1 (ji40)).f1.f1) == ((rd_T24 t420 x10_1).f1))) = true := by simpa using c45))
                 (try (have c45b2 : (((rd_T53 x9_1 (ji40)).f1.f0) == ((rd_T24 t420 x10_1).f0) && (((rd_T53 x9_1 (ji40)).f1.f1) == ((rd_T24 t420 x10_1).f1))) = true := by simpa using c45))
                 clear c45; obtain ⟨ji46, hji46⟩ : ∃ j_ : Int, (wrap64 (x10_1 + 1)) = j_ := ⟨_, rfl⟩; replace H : (if 0 ≤ (ji46) then (if (ji46) < (t420.length : Int) then (dioramaref02_joined.l0 kj17 l0 l1 a2 t420 (x9_1.set ((ji40) : Int).toNat (⟨(⟨(rd_T53 x9_1 (ji40)).f0.f0, (rd_T53 x9_1 (ji40)).f0.f1⟩ : S24), (⟨(rd_T24 t420 (ji46)).f0, (rd_T24 t420 (ji46)).f1⟩ : S24)⟩ : S53)) ji46) else (none)) else (none)) = some r := by first | (rw [hji46] at H; exact H) | (simp only [hji46] at H ⊢; exact H)
                 (try rw [hji46] at c13b0)
                 have hji46w : (IntKind.i64.wrap (x10_1 + 1)) = ji46 := (i64_w _).trans hji46
                 by_cases c47 : 0 ≤ (ji46)
                 ·rw [if_pos c47] at H; have c47b0 : decide (0 ≤ (ji46)) = true := decide_eq_true c47; clear c47
                  by_cases c48 : (ji46) < (t420.length : Int)
                  ·rw [if_pos c48] at H; have c48b0 : decide ((ji46) < (t420.length : Int)) = true := decide_eq_true c48; clear c48; obtain ⟨y430, hy430⟩ : ∃ y_ : List (S53), y_ = (x9_1.set ((ji40) : Int).toNat (⟨(⟨(rd_T53 x9_1 (ji40)).f0.f0, (rd_T53 x9_1 (ji40)).f0.f1⟩ : S24), (⟨(rd_T24 t420 (ji46)).f0, (rd_T24 t420 (ji46)).f1⟩ : S24)⟩ : S53)) := ⟨_, rfl⟩; replace H : (dioramaref02_joined.l0 kj17 l0 l1 a2 t420 y430 ji46) = some r := by first | (rw [hy430]; with_reducible exact H) | (have H2_ := (Option.bind_some _ _).symm.trans H; rw [hy430]; with_reducible exact H2_) | (have H2_ := (Option.bind_some _ _).symm.trans H; with_reducible exact H2_) | with_reducible exact H | (rw [hy430]; exact H) | exact H
                   have Ny430 := Aside0.mk hy430; clear hy430; have H' := Aside0.mk H; clear H; obtain ⟨Ao50, co50, eo50⟩ := Kd.R_slice HO_9.out; subst eo50
                   try go_wp2
                   replace HO_8 := Aside0.mk (Kd.R_drew HO_8.out); replace HO_9 := Aside0.mk (Kd.R_drew HO_9.out); replace HB := Aside0.mk (below_drew1 HB.out); have p427 : 0 ≤ ((ji40) : Int) := od; have q427 : (ji40) < (x9_1.length : Int) := od; obtain ⟨ad427, e427, hx427_0, hx427_1, hx427_2, hx427_3⟩ := at_T53 (Kd.R_reads' HO_9.out).2.2 (ji40) p427 q427
                   cases e427
                   replace p427 := eq_true p427; replace q427 := eq_true q427; have p428 : 0 ≤ (x10_1 : Int) := od; have q428 : x10_1 < (t420.length : Int) := od; obtain ⟨ad428, e428, hx428_0, hx428_1⟩ := at_T24 (Kd.R_reads' HO_8.out).2.2 x10_1 p428 q428; obtain rfl : ad423 = ad428 := (by injection e428); replace p428 := eq_true p428; replace q428 := eq_true q428; refine start_ (n := 15) (S := fun w' => w'.cell? (ad427.add (((ji40)).toNat * 4)) = some (.int .i64 ((rd_T53 x9_1 (ji40)).f0.f0)) ∧ w'.cell? ⟨(ad427.add (((ji40)).toNat * 4)).block, (ad427.add (((ji40)).toNat * 4)).off + 1, none⟩ = some (.int .i64 ((rd_T53 x9_1 (ji40)).f0.f1)) ∧ w'.cell? ⟨(ad427.add (((ji40)).toNat * 4)).block, (ad427.add (((ji40)).toNat * 4)).off + 2, none⟩ = some (.int .i64 ((rd_T53 x9_1 (ji40)).f1.f0)) ∧ w'.cell? ⟨(ad427.add (((ji40)).toNat * 4)).block, (ad427.add (((ji40)).toNat * 4)).off + 3, none⟩ = some (.int .i64 ((rd_T53 x9_1 (ji40)).f1.f1)) ∧ w'.cell? (ad423.add ((x10_1).toNat * 2)) = some (.int .i64 ((rd_T24 t420 x10_1).f0)) ∧ w'.cell? ⟨(ad423.add ((x10_1).toNat * 2)).block, (ad423.add ((x10_1).toNat * 2)).off + 1, none⟩ = some (.int .i64 ((rd_T24 t420 x10_1).f1))) (ds := []) (bs 15 0) (by kernel_rfl) rfl rfl ⟨hx427_0, hx427_1, hx427_2, hx427_3, hx428_0, hx428_1⟩ (fun hHeld => ?_)
                   generalize wc.drew = w51 at HO_8 HO_9 HB hx427_0 hx427_1 hx427_2 hx427_3 hx428_0 hx428_1 hHeld ⊢; refine zP 0 75 15 1 ?_; refine zP 1 76 15 3 ?_; refine zP 2 77 15 7 ?_; refine zP 3 78 15 15 ?_; refine zP 4 79 15 31 ?_; refine zP 5 80 15 63 ?_; refine zP 6 81 15 127 ?_; refine zP 7 82 15 255 ?_; refine zP 9 84 15 767 ?_; refine zP 10 85 15 1791 ?_; refine zP 11 86 15 3839 ?_; refine zT 8 83 15 4095 hHeld ?_; refine zT 12 87 15 8191 hHeld ?_; refine zP 13 88 15 16383 ?_; refine zP 14 89 15 32767 ?_; refine done_ (by kernel_rfl) ?_; have p429 : 0 ≤ ((ji46) : Int) := od; have q429 : (ji46) < (t420.length : Int) := od; obtain ⟨ad429, e429, hx429_0, hx429_1⟩ := at_T24 (Kd.R_reads' HO_8.out).2.2 (ji46) p429 q429; obtain rfl : ad423 = ad429 := (by injection e429); replace p429 := eq_true p429; replace q429 := eq_true q429; have p49 : 0 ≤ ((ji40) : Int) := od; have q49 : ((ji40) : Int) < ((x9_1.length : Int) : Int) := od; obtain ⟨go49, co49, eo49, gb49, gl49, cl49, HG49⟩ := Kd.R_form HO_9.out (by omega)
                   (first | cases eo49 | (injection eo49 with ea_ en_ ec_; (first | subst ea_ | (injection ea_ with ea_; subst ea_)); subst ec_; clear en_))
                   have GB49 := Aside0.mk gb49; have GG49 := Aside0.mk HG49; clear gb49 gl49 HG49
                   (first | simp only [add_plain] at hx427_0 | skip)
                   (first | simp only [add_plain] at hx427_1 | skip)
                   (first | simp only [add_plain] at hx427_2 | skip)
                   (first | simp only [add_plain] at hx427_3 | skip)
                   obtain ⟨ce49, hcl49, hM49, hcc49, hfr49⟩ := Kd.R_elem HO_9.out z53 ((ji40) : Int) p49 q49; obtain rfl := k53_openM hM49; have hx49_0 : w51.cell? ⟨go49, ((ji40) : Int).toNat * 4, none⟩ = some (.int .i64 ((rd_T53 x9_1 (ji40)).f0.f0)) := hcc49 0 _ rfl; have hx49_1 : w51.cell? ⟨go49, ((ji40) : Int).toNat * 4 + 1, none⟩ = some (.int .i64 ((rd_T53 x9_1 (ji40)).f0.f1)) := hcc49 1 _ rfl; have hx49_2 : w51.cell? ⟨go49, ((ji40) : Int).toNat * 4 + 2, none⟩ = some (.int .i64 ((rd_T53 x9_1 (ji40)).f1.f0)) := hcc49 2 _ rfl; have hx49_3 : w51.cell? ⟨go49, ((ji40) : Int).toNat * 4 + 3, none⟩ = some (.int .i64 ((rd_T53 x9_1 (ji40)).f1.f1)) := hcc49 3 _ rfl; have hf49_0 : w51.frozen? ⟨go49, ((ji40) : Int).toNat * 4, none⟩ = false := hfr49 0; have hf49_1 : w51.frozen? ⟨go49, ((ji40) : Int).toNat * 4 + 1, none⟩ = false := hfr49 1; have hf49_2 : w51.frozen? ⟨go49, ((ji40) : Int).toNat * 4 + 2, none⟩ = false := hfr49 2; have hf49_3 : w51.frozen? ⟨go49, ((ji40) : Int).toNat * 4 + 3, none⟩ = false := hfr49 3; clear hcl49 hcc49 hfr49 hM49; replace p49 := eq_true p49; replace q49 := eq_true q49; have HX52 := Aside0.mk (show Kd.R k53 53 w51 w.heap.size (fun _ => True) (.slice (some ⟨go49, 0, none⟩) x9_1.length co50) x9_1 from (rz HO_9)); obtain ⟨ce52, hcl52, hM52, hcc52, hfr52⟩ := Kd.R_elem HX52.out z53 ((ji40) : Int) (od) (by have h_ : ((ji40) : Int) < ((x9_1.length : Int) : Int) := od; first | exact h_ | (have e_ := (Kd.R_reads' HO_9.out).1; omega) | simpa using h_); obtain rfl := k53_openM hM52; have HP52 := Kd.R_seg HX52.out ((ji40) : Int) (od) (by have h_ : ((ji40) : Int) < ((x9_1.length : Int) : Int) := od; first | exact h_ | (have e_ := (Kd.R_reads' HO_9.out).1; omega) | simpa using h_) (seg := [.int .i64 ((rd_T24 t420 (ji46)).f0), .int .i64 ((rd_T24 t420 (ji46)).f1)]) (j := 2) hcl52 hcc52 (show 4 ≤ 4 from by decide) (x' := (⟨(⟨(rd_T53 x9_1 (ji40)).f0.f0, (rd_T53 x9_1 (ji40)).f0.f1⟩ : S24), (⟨(rd_T24 t420 (ji46)).f0, (rd_T24 t420 (ji46)).f1⟩ : S24)⟩ : S53)) (k53_mkM _ _ _ (⟨(⟨(rd_T53 x9_1 (ji40)).f0.f0, (rd_T53 x9_1 (ji40)).f0.f1⟩ : S24), (⟨(rd_T24 t420 (ji46)).f0, (rd_T24 t420 (ji46)).f1⟩ : S24)⟩ : S53) ) (fun _ hk => hk); have hx52_2 := hcc52 2 _ rfl
                   (try simp only [show (k53).sz = 4 from rfl, Nat.mul_one, Nat.add_zero] at hx52_2)
                   have hf52_2 := hfr52 2
                   (try simp only [show (k53).sz = 4 from rfl, Nat.mul_one, Nat.add_zero] at hf52_2)
                   have hx52_3 := hcc52 3 _ rfl
                   (try simp only [show (k53).sz = 4 from rfl, Nat.mul_one, Nat.add_zero] at hx52_3)
                   have hf52_3 := hfr52 3
                   (try simp only [show (k53).sz = 4 from rfl, Nat.mul_one, Nat.add_zero] at hf52_3)
                   clear hcl52 hcc52 hfr52 hM52
                   try go_wp2_with (first | ((with_reducible refine gate_store (t := 24) (p := 99) rfl ?_); refine store_event (t := 24) (p := 99) (v := ?vo_w53) (w1 := ((w51.setCell ⟨go49, ((ji40) : Int).toNat * 4 + 2, none⟩ (.int .i64 ((rd_T24 t420 (ji46)).f0))).setCell ⟨go49, ((ji40) : Int).toNat * 4 + 3, none⟩ (.int .i64 ((rd_T24 t420 (ji46)).f1)))) ?hg ?ho ?hn ?hr ?_; (case ho => rfl); (case hg => rfl); (case hn => rfl); (case hr => first | (go_simp; done) | (go_simp; rfl)); intro w53 hw; have hg : w51.grownBy w53 (some go49) := (by rw [hw]; exact HP52.2); have hp_ : Kd.R k53 53 w53 w.heap.size (fun _ => True) (.slice (some ⟨go49, 0, none⟩) x9_1.length co50) y430 := (by rw [hw, Ny430.out]; exact HP52.1); clear HP52; replace HO_8 := Aside0.mk (Kd.R_over' (v := (.slice (some ⟨go49, 0, none⟩) x9_1.length co50)) (rz HO_8) (Kd.R_typed HO_9.out) (by decide) hg); replace HO_9 := Aside0.mk (hp_); replace HB := Aside0.mk ((by rw [hw]; exact below_set (below_set (HB.out) GB49.out) GB49.out : Below w.heap.size w w53)); clear hg hw hp_))
                   go_roundg kj17
                   case measure => have := HK1.out; have := HJ17.out; omega
                   case rel => exact ⟨(y430), (ji46), (by first | rfl | (simp; done) | (simp only [← hji46] <;> (first | rfl | simp)) | (simp [*]; done)), H', ⟨by have := HK1.out; have := HJ17.out; omega⟩, ⟨rz HO_8⟩, ⟨rz HO_9⟩, ⟨bz⟩⟩
                  ·rw [if_neg c48] at H
                   exact absurd H (by simp)
                 ·rw [if_neg c47] at H
                  exact absurd H (by simp)
                ·rw [if_neg c45] at H; have c45b0 : (((rd_T53 x9_1 (ji40)).f1.f0) == ((rd_T24 t420 x10_1).f0) && (((rd_T53 x9_1 (ji40)).f1.f1) == ((rd_T24 t420 x10_1).f1))) = false := by simpa using c45
                 (try (have c45b1 : decide (((rd_T53 x9_1 (ji40)).f1.f0) = ((rd_T24 t420 x10_1).f0) && (((rd_T53 x9_1 (ji40)).f1.f1) == ((rd_T24 t420 x10_1).f1))) = false := by simpa using c45))
                 (try (have c45b2 : (((rd_T53 x9_1 (ji40)).f1.f0) == ((rd_T24 t420 x10_1).f0) && (((rd_T53 x9_1 (ji40)).f1.f1) == ((rd_T24 t420 x10_1).f1))) = false := by simpa using c45))
                 (try (have c45b3 : ¬ (((rd_T53 x9_1 (ji40)).f1.f0) = ((rd_T24 t420 x10_1).f0) && (((rd_T53 x9_1 (ji40)).f1.f1) == ((rd_T24 t420 x10_1).f1))) := by simpa using c45))
                 clear c45; obtain ⟨ji54, hji54⟩ : ∃ j_ : Int, (wrap64 (x10_1 + 1)) = j_ := ⟨_, rfl⟩; replace H : (if 0 ≤ (ji54) then (if (ji54) < (t420.length : Int) then (if x9_1.length < 4398046511104 then (dioramaref02_joined.l0 kj17 l0 l1 a2 t420 (x9_1 ++ [(⟨(⟨(rd_T24 t420 x10_1).f0, (rd_T24 t420 x10_1).f1⟩ : S24), (⟨(rd_T24 t420 (ji54)).f0, (rd_T24 t420 (ji54)).f1⟩ : S24)⟩ : S53)]) ji54) else (none)) else (none)) else (none)) = some r := by first | (rw [hji54] at H; exact H) | (simp only [hji54] at H ⊢; exact H)
                 (try rw [hji54] at c13b0)
                 have hji54w : (IntKind.i64.wrap (x10_1 + 1)) = ji54 := (i64_w _).trans hji54
                 by_cases c55 : 0 ≤ (ji54)
                 ·rw [if_pos c55] at H; have c55b0 : decide (0 ≤ (ji54)) = true := decide_eq_true c55; clear c55
                  by_cases c56 : (ji54) < (t420.length : Int)
                  ·rw [if_pos c56] at H; have c56b0 : decide ((ji54) < (t420.length : Int)) = true := decide_eq_true c56; clear c56
                   by_cases c57 : x9_1.length < 4398046511104
                   ·rw [if_pos c57] at H; have LMc57 := Aside0.mk c57; clear c57; obtain ⟨y433, hy433⟩ : ∃ y_ : List (S53), y_ = (x9_1 ++ [(⟨(⟨(rd_T24 t420 x10_1).f0, (rd_T24 t420 x10_1).f1⟩ : S24), (⟨(rd_T24 t420 (ji54)).f0, (rd_T24 t420 (ji54)).f1⟩ : S24)⟩ : S53)]) := ⟨_, rfl⟩; replace H : (dioramaref02_joined.l0 kj17 l0 l1 a2 t420 y433 ji54) = some r := by first | (rw [hy433]; with_reducible exact H) | (have H2_ := (Option.bind_some _ _).symm.trans H; rw [hy433]; with_reducible exact H2_) | (have H2_ := (Option.bind_some _ _).symm.trans H; with_reducible exact H2_) | with_reducible exact H | (rw [hy433]; exact H) | exact H
                    have Ny433 := Aside0.mk hy433; clear hy433; have H' := Aside0.mk H; clear H; obtain ⟨Ao58, co58, eo58⟩ := Kd.R_slice HO_9.out; subst eo58
                    try go_wp2
                    replace HO_8 := Aside0.mk (Kd.R_drew HO_8.out); replace HO_9 := Aside0.mk (Kd.R_drew HO_9.out); replace HB := Aside0.mk (below_drew1 HB.out); have p427 : 0 ≤ ((ji40) : Int) := od; have q427 : (ji40) < (x9_1.length : Int) := od; obtain ⟨ad427, e427, hx427_0, hx427_1, hx427_2, hx427_3⟩ := at_T53 (Kd.R_reads' HO_9.out).2.2 (ji40) p427 q427
                    cases e427
                    replace p427 := eq_true p427; replace q427 := eq_true q427; have p428 : 0 ≤ (x10_1 : Int) := od; have q428 : x10_1 < (t420.length : Int) := od; obtain ⟨ad428, e428, hx428_0, hx428_1⟩ := at_T24 (Kd.R_reads' HO_8.out).2.2 x10_1 p428 q428; obtain rfl : ad423 = ad428 := (by injection e428); replace p428 := eq_true p428; replace q428 := eq_true q428; refine start_ (n := 15) (S := fun w' => w'.cell? (ad427.add (((ji40)).toNat * 4)) = some (.int .i64 ((rd_T53 x9_1 (ji40)).f0.f0)) ∧ w'.cell? ⟨(ad427.add (((ji40)).toNat * 4)).block, (ad427.add (((ji40)).toNat * 4)).off + 1, none⟩ = some (.int .i64 ((rd_T53 x9_1 (ji40)).f0.f1)) ∧ w'.cell? ⟨(ad427.add (((ji40)).toNat * 4)).block, (ad427.add (((ji40)).toNat * 4)).off + 2, none⟩ = some (.int .i64 ((rd_T53 x9_1 (ji40)).f1.f0)) ∧ w'.cell? ⟨(ad427.add (((ji40)).toNat * 4)).block, (ad427.add (((ji40)).toNat * 4)).off + 3, none⟩ = some (.int .i64 ((rd_T53 x9_1 (ji40)).f1.f1)) ∧ w'.cell? (ad423.add ((x10_1).toNat * 2)) = some (.int .i64 ((rd_T24 t420 x10_1).f0)) ∧ w'.cell? ⟨(ad423.add ((x10_1).toNat * 2)).block, (ad423.add ((x10_1).toNat * 2)).off + 1, none⟩ = some (.int .i64 ((rd_T24 t420 x10_1).f1))) (ds := []) (bs 15 0) (by kernel_rfl) rfl rfl ⟨hx427_0, hx427_1, hx427_2, hx427_3, hx428_0, hx428_1⟩ (fun hHeld => ?_)
                    generalize wc.drew = w59 at HO_8 HO_9 HB hx427_0 hx427_1 hx427_2 hx427_3 hx428_0 hx428_1 hHeld ⊢; refine zP 0 75 15 1 ?_; refine zP 1 76 15 3 ?_; refine zP 2 77 15 7 ?_; refine zP 3 78 15 15 ?_; refine zP 4 79 15 31 ?_; refine zP 5 80 15 63 ?_; refine zP 6 81 15 127 ?_; refine zP 7 82 15 255 ?_; refine zP 9 84 15 767 ?_; refine zP 10 85 15 1791 ?_; refine zP 11 86 15 3839 ?_; refine zT 8 83 15 4095 hHeld ?_; refine zT 12 87 15 8191 hHeld ?_; refine zP 13 88 15 16383 ?_; refine zP 14 89 15 32767 ?_; refine done_ (by kernel_rfl) ?_
                    try go_wp2
                    replace HO_8 := Aside0.mk (Kd.R_drew HO_8.out); replace HO_9 := Aside0.mk (Kd.R_drew HO_9.out); replace HB := Aside0.mk (below_drew1 HB.out); have p431 : 0 ≤ (x10_1 : Int) := od; have q431 : x10_1 < (t420.length : Int) := od; obtain ⟨ad431, e431, hx431_0, hx431_1⟩ := at_T24 (Kd.R_reads' HO_8.out).2.2 x10_1 p431 q431; obtain rfl : ad423 = ad431 := (by injection e431); replace p431 := eq_true p431; replace q431 := eq_true q431; have p432 : 0 ≤ ((ji54) : Int) := od; have q432 : (ji54) < (t420.length : Int) := od; obtain ⟨ad432, e432, hx432_0, hx432_1⟩ := at_T24 (Kd.R_reads' HO_8.out).2.2 (ji54) p432 q432; obtain rfl : ad423 = ad432 := (by injection e432); replace p432 := eq_true p432; replace q432 := eq_true q432; refine start_ (n := 14) (S := fun w' => w'.cell? (ad423.add ((x10_1).toNat * 2)) = some (.int .i64 ((rd_T24 t420 x10_1).f0)) ∧ w'.cell? ⟨(ad423.add ((x10_1).toNat * 2)).block, (ad423.add ((x10_1).toNat * 2)).off + 1, none⟩ = some (.int .i64 ((rd_T24 t420 x10_1).f1)) ∧ w'.cell? (ad423.add (((ji54)).toNat * 2)) = some (.int .i64 ((rd_T24 t420 (ji54)).f0)) ∧ w'.cell? ⟨(ad423.add (((ji54)).toNat * 2)).block, (ad423.add (((ji54)).toNat * 2)).off + 1, none⟩ = some (.int .i64 ((rd_T24 t420 (ji54)).f1))) (ds := [11, 12]) (bs 14 0) (by kernel_rfl) rfl rfl ⟨hx431_0, hx431_1, hx432_0, hx432_1⟩ (fun hHeld => ?_)
                    generalize w59.drew = w60 at HO_8 HO_9 HB hx431_0 hx431_1 hx432_0 hx432_1 hHeld ⊢; refine zP 0 100 14 1 ?_; refine zP 1 101 14 3 ?_; refine zP 2 102 14 7 ?_; refine zP 3 103 14 15 ?_; refine zP 5 105 14 47 ?_; refine zP 6 106 14 111 ?_; refine zP 7 107 14 239 ?_; refine zP 8 108 14 495 ?_; refine zT 4 104 14 511 hHeld ?_; refine zT 9 109 14 1023 hHeld ?_; refine zP 10 110 14 2047 ?_; refine zL 11 (some 111) 14 4095 (fun K hK => ?_); refine value_ (w1 := ?_) (v := ?_) (by rfl) rfl ?_ ?_
                    rotate_left 2
                    ·go_simp
                     constructor
                     ·rfl
                     ·rfl
                    refine hK.out _ _ ?_; clear hK K; refine zM 111 ?_; refine zL 12 (some 112) 14 8191 (fun K hK => ?_); refine Kd.R_append_step k53 (w0 := w) w.heap.size (by rfl) (.tmp 100) (.tmp 111) 22 53 (.agg #[(.int .i64 0), (.int .i64 0), (.int .i64 0), (.int .i64 0)]) 32 rfl Tryz.underlying22 info53 rfl (by decide) (by omega) (.slice (some ad427) x9_1.length co58) x9_1 (⟨(⟨(rd_T24 t420 x10_1).f0, (rd_T24 t420 x10_1).f1⟩ : S24), (⟨(rd_T24 t420 (ji54)).f0, (rd_T24 t420 (ji54)).f1⟩ : S24)⟩ : S53) [.int .i64 ((rd_T24 t420 x10_1).f0), .int .i64 ((rd_T24 t420 x10_1).f1), .int .i64 ((rd_T24 t420 (ji54)).f0), .int .i64 ((rd_T24 t420 (ji54)).f1)] (fun _ => True) (fun _ => False) rfl rfl ?aP (fun _ hk => hk.elim) ?aF ?aO ?aB ?aS ?aL ?_
                    (case aP => exact k53_mkM _ _ _ (⟨(⟨(rd_T24 t420 x10_1).f0, (rd_T24 t420 x10_1).f1⟩ : S24), (⟨(rd_T24 t420 (ji54)).f0, (rd_T24 t420 (ji54)).f1⟩ : S24)⟩ : S53))
                    (case aB => exact bz)
                    (case aF => exact (fun _ _ => trivial))
                    (case aO => exact (rz HO_9))
                    (case aS => exact sz)
                    (case aL => have := LMc57.out; omega)
                    intro v434 w61 ho hb hg hat; rw [← Ny433.out] at ho; replace HO_8 := Aside0.mk (Kd.R_over' (rz HO_8) (Kd.R_typed (rz HO_9)) (by decide) hg); replace HB := Aside0.mk (hb); have HO435 := Aside0.mk (ho); clear HO_9; clear ho hb hg hat; refine hK.out _ _ ?_; clear hK K; refine zM 112 ?_; refine zP 13 9 14 16383 ?_; refine done_ (by kernel_rfl) ?_
                    try go_wp2
                    go_roundg kj17
                    case measure => have := HK1.out; have := HJ17.out; omega
                    case rel => exact ⟨(y433), (ji54), (by first | rfl | (simp; done) | (simp only [← hji54] <;> (first | rfl | simp)) | (simp [*]; done)), H', ⟨by have := HK1.out; have := HJ17.out; omega⟩, ⟨rz HO_8⟩, ⟨rz HO435⟩, ⟨bz⟩⟩
                   ·rw [if_neg c57] at H
                    exact absurd H (by simp)
                  ·rw [if_neg c56] at H
                   exact absurd H (by simp)
                 ·rw [if_neg c55] at H
                  exact absurd H (by simp)
               ·rw [if_neg c44] at H
                exact absurd H (by simp)
              ·rw [if_neg c43] at H
               exact absurd H (by simp)
             ·rw [if_neg c42] at H
              exact absurd H (by simp)
            ·rw [if_neg c41] at H
             exact absurd H (by simp)
           ·rw [if_neg c39] at H; have c39b0 : decide (0 < (x9_1.length : Int)) = false := decide_eq_false c39; have c39b1 : decide (0 < x9_1.length) = false := decide_eq_false (by omega); clear c39
            by_cases c62 : 0 ≤ x10_1
            ·rw [if_pos c62] at H; have c62b0 : decide (0 ≤ x10_1) = true := decide_eq_true c62; clear c62
             by_cases c63 : x10_1 < (t420.length : Int)
             ·rw [if_pos c63] at H; have c63b0 : decide (x10_1 < (t420.length : Int)) = true := decide_eq_true c63; clear c63; obtain ⟨ji64, hji64⟩ : ∃ j_ : Int, (wrap64 (x10_1 + 1)) = j_ := ⟨_, rfl⟩; replace H : (if 0 ≤ (ji64) then (if (ji64) < (t420.length : Int) then (if x9_1.length < 4398046511104 then (dioramaref02_joined.l0 kj17 l0 l1 a2 t420 (x9_1 ++ [(⟨(⟨(rd_T24 t420 x10_1).f0, (rd_T24 t420 x10_1).f1⟩ : S24), (⟨(rd_T24 t420 (ji64)).f0, (rd_T24 t420 (ji64)).f1⟩ : S24)⟩ : S53)]) ji64) else (none)) else (none)) else (none)) = some r := by first | (rw [hji64] at H; exact H) | (simp only [hji64] at H ⊢; exact H)
              (try rw [hji64] at c13b0)
              have hji64w : (IntKind.i64.wrap (x10_1 + 1)) = ji64 := (i64_w _).trans hji64
              by_cases c65 : 0 ≤ (ji64)
              ·rw [if_pos c65] at H; have c65b0 : decide (0 ≤ (ji64)) = true := decide_eq_true c65; clear c65
               by_cases c66 : (ji64) < (t420.length : Int)
               ·rw [if_pos c66] at H; have c66b0 : decide ((ji64) < (t420.length : Int)) = true := decide_eq_true c66; clear c66
                by_cases c67 : x9_1.length < 4398046511104
                ·rw [if_pos c67] at H; have LMc67 := Aside0.mk c67; clear c67; obtain ⟨y438, hy438⟩ : ∃ y_ : List (S53), y_ = (x9_1 ++ [(⟨(⟨(rd_T24 t420 x10_1).f0, (rd_T24 t420 x10_1).f1⟩ : S24), (⟨(rd_T24 t420 (ji64)).f0, (rd_T24 t420 (ji64)).f1⟩ : S24)⟩ : S53)]) := ⟨_, rfl⟩; replace H : (dioramaref02_joined.l0 kj17 l0 l1 a2 t420 y438 ji64) = some r := by first | (rw [hy438]; with_reducible exact H) | (have H2_ := (Option.bind_some _ _).symm.trans H; rw [hy438]; with_reducible exact H2_) | (have H2_ := (Option.bind_some _ _).symm.trans H; with_reducible exact H2_) | with_reducible exact H | (rw [hy438]; exact H) | exact H
                 have Ny438 := Aside0.mk hy438; clear hy438; have H' := Aside0.mk H; clear H; obtain ⟨Ao68, co68, eo68⟩ := Kd.R_slice HO_9.out; subst eo68
                 try go_wp2
                 replace HO_8 := Aside0.mk (Kd.R_drew HO_8.out); replace HO_9 := Aside0.mk (Kd.R_drew HO_9.out); replace HB := Aside0.mk (below_drew1 HB.out); refine start_ (n := 15) (S := fun w' => True) (ds := []) (bs 15 0) (by kernel_rfl) rfl rfl trivial (fun hHeld => ?_); generalize wc.drew = w69 at HO_8 HO_9 HB hHeld ⊢; refine zP 0 75 15 1 ?_; refine zP 1 76 15 3 ?_; refine zP 2 77 15 7 ?_; refine zO 3 78 15 15 ?_; refine zO 4 79 15 31 ?_; refine zO 5 80 15 63 ?_; refine zO 6 81 15 127 ?_; refine zO 7 82 15 255 ?_; refine zO 8 83 15 511 ?_; refine zO 9 84 15 1023 ?_; refine zO 10 85 15 2047 ?_; refine zO 11 86 15 4095 ?_; refine zO 12 87 15 8191 ?_; refine zO 13 88 15 16383 ?_; refine zP 14 89 15 32767 ?_; refine done_ (by kernel_rfl) ?_
                 try go_wp2
                 replace HO_8 := Aside0.mk (Kd.R_drew HO_8.out); replace HO_9 := Aside0.mk (Kd.R_drew HO_9.out); replace HB := Aside0.mk (below_drew1 HB.out); have p436 : 0 ≤ (x10_1 : Int) := od; have q436 : x10_1 < (t420.length : Int) := od; obtain ⟨ad436, e436, hx436_0, hx436_1⟩ := at_T24 (Kd.R_reads' HO_8.out).2.2 x10_1 p436 q436; obtain rfl : ad423 = ad436 := (by injection e436); replace p436 := eq_true p436; replace q436 := eq_true q436; have p437 : 0 ≤ ((ji64) : Int) := od; have q437 : (ji64) < (t420.length : Int) := od; obtain ⟨ad437, e437, hx437_0, hx437_1⟩ := at_T24 (Kd.R_reads' HO_8.out).2.2 (ji64) p437 q437; obtain rfl : ad423 = ad437 := (by injection e437); replace p437 := eq_true p437; replace q437 := eq_true q437; refine start_ (n := 14) (S := fun w' => w'.cell? (ad423.add ((x10_1).toNat * 2)) = some (.int .i64 ((rd_T24 t420 x10_1).f0)) ∧ w'.cell? ⟨(ad423.add ((x10_1).toNat * 2)).block, (ad423.add ((x10_1).toNat * 2)).off + 1, none⟩ = some (.int .i64 ((rd_T24 t420 x10_1).f1)) ∧ w'.cell? (ad423.add (((ji64)).toNat * 2)) = some (.int .i64 ((rd_T24 t420 (ji64)).f0)) ∧ w'.cell? ⟨(ad423.add (((ji64)).toNat * 2)).block, (ad423.add (((ji64)).toNat * 2)).off + 1, none⟩ = some (.int .i64 ((rd_T24 t420 (ji64)).f1))) (ds := [11, 12]) (bs 14 0) (by kernel_rfl) rfl rfl ⟨hx436_0, hx436_1, hx437_0, hx437_1⟩ (fun hHeld => ?_)
                 generalize w69.drew = w70 at HO_8 HO_9 HB hx436_0 hx436_1 hx437_0 hx437_1 hHeld ⊢; refine zP 0 100 14 1 ?_; refine zP 1 101 14 3 ?_; refine zP 2 102 14 7 ?_; refine zP 3 103 14 15 ?_; refine zP 5 105 14 47 ?_; refine zP 6 106 14 111 ?_; refine zP 7 107 14 239 ?_; refine zP 8 108 14 495 ?_; refine zT 4 104 14 511 hHeld ?_; refine zT 9 109 14 1023 hHeld ?_; refine zP 10 110 14 2047 ?_; refine zL 11 (some 111) 14 4095 (fun K hK => ?_); refine value_ (w1 := ?_) (v := ?_) (by rfl) rfl ?_ ?_
                 rotate_left 2
                 ·go_simp
                  constructor
                  ·rfl
                  ·rfl
                 refine hK.out _ _ ?_; clear hK K; refine zM 111 ?_; refine zL 12 (some 112) 14 8191 (fun K hK => ?_); refine Kd.R_append_step k53 (w0 := w) w.heap.size (by rfl) (.tmp 100) (.tmp 111) 22 53 (.agg #[(.int .i64 0), (.int .i64 0), (.int .i64 0), (.int .i64 0)]) 32 rfl Tryz.underlying22 info53 rfl (by decide) (by omega) (.slice Ao68 x9_1.length co68) x9_1 (⟨(⟨(rd_T24 t420 x10_1).f0, (rd_T24 t420 x10_1).f1⟩ : S24), (⟨(rd_T24 t420 (ji64)).f0, (rd_T24 t420 (ji64)).f1⟩ : S24)⟩ : S53) [.int .i64 ((rd_T24 t420 x10_1).f0), .int .i64 ((rd_T24 t420 x10_1).f1), .int .i64 ((rd_T24 t420 (ji64)).f0), .int .i64 ((rd_T24 t420 (ji64)).f1)] (fun _ => True) (fun _ => False) rfl rfl ?aP (fun _ hk => hk.elim) ?aF ?aO ?aB ?aS ?aL ?_
                 (case aP => exact k53_mkM _ _ _ (⟨(⟨(rd_T24 t420 x10_1).f0, (rd_T24 t420 x10_1).f1⟩ : S24), (⟨(rd_T24 t420 (ji64)).f0, (rd_T24 t420 (ji64)).f1⟩ : S24)⟩ : S53))
                 (case aB => exact bz)
                 (case aF => exact (fun _ _ => trivial))
                 (case aO => exact (rz HO_9))
                 (case aS => exact sz)
                 (case aL => have := LMc67.out; omega)
                 intro v439 w71 ho hb hg hat; rw [← Ny438.out] at ho; replace HO_8 := Aside0.mk (Kd.R_over' (rz HO_8) (Kd.R_typed (rz HO_9)) (by decide) hg); replace HB := Aside0.mk (hb); have HO440 := Aside0.mk (ho); clear HO_9; clear ho hb hg hat; refine hK.out _ _ ?_; clear hK K; refine zM 112 ?_; refine zP 13 9 14 16383 ?_; refine done_ (by kernel_rfl) ?_
                 try go_wp2
                 go_roundg kj17
                 case measure => have := HK1.out; have := HJ17.out; omega
                 case rel => exact ⟨(y438), (ji64), (by first | rfl | (simp; done) | (simp only [← hji64] <;> (first | rfl | simp)) | (simp [*]; done)), H', ⟨by have := HK1.out; have := HJ17.out; omega⟩, ⟨rz HO_8⟩, ⟨rz HO440⟩, ⟨bz⟩⟩
                ·rw [if_neg c67] at H
                 exact absurd H (by simp)
               ·rw [if_neg c66] at H
                exact absurd H (by simp)
              ·rw [if_neg c65] at H
               exact absurd H (by simp)
             ·rw [if_neg c63] at H
              exact absurd H (by simp)
            ·rw [if_neg c62] at H
             exact absurd H (by simp)
       ·rw [if_neg c15] at H
        exact absurd H (by simp)
      ·rw [if_neg c14] at H
       exact absurd H (by simp)
     ·rw [if_neg c13] at H; have c13b0 : decide ((wrap64 (x10_1 + 1)) < (t420.length : Int)) = false := decide_eq_false c13; clear c13; obtain rfl := Option.some.inj H; obtain ⟨Ao72, co72, eo72⟩ := Kd.R_slice HO_8.out; subst eo72
      go_wp2
      go_ret
      exact ⟨_, ez, by (with_reducible repeat (first | apply Kd.R_alloc | apply Kd.R_drewN | apply Kd.R_drew)); exact HO_9.out, bz⟩
  ·rw [if_neg c5] at H
   exact absurd H (by simp)
 ·rw [if_neg c4] at H
  exact absurd H (by simp)
end Go.Proofs.YtekommcfpjonmaaGreat.E
namespace Go.Proofs.YtekommcfpjonmaaGreat.E
open Go.Proofs.YtekommcfpjonmaaGreat.Z Go.RowKit Go.Proofs.YtekommcfpjonmaaGreatW.PrintWords Go.Proofs.YtekommcfpjonmaaGreatW.PrintLast Go.Proofs.YtekommcfpjonmaaGreatW.PrintMore
attribute [local go_sem] max2_int min2_int max_two min_two max_three min_three max_four min_four
set_option linter.unusedVariables false
set_option linter.unusedSimpArgs false
end Go.Proofs.YtekommcfpjonmaaGreat.E
namespace Go.Proofs.YtekommcfpjonmaaGreat.E
open Go.Proofs.YtekommcfpjonmaaGreat.Z Go.RowKit Go.Proofs.YtekommcfpjonmaaGreatW.PrintWords Go.Proofs.YtekommcfpjonmaaGreatW.PrintLast Go.Proofs.YtekommcfpjonmaaGreatW.PrintMore
attribute [local go_sem] max2_int min2_int max_two min_two max_three min_three max_four min_four
set_option linter.unusedVariables false
set_option linter.unusedSimpArgs false
attribute [local go_sem high] eqA53
def dioramaref02_EqSpans.l0 : Nat → List (S53) → List (S53) → Int → Option (Bool)
  | 0, _, _, _ => none
  | k + 1, x0, x1, x5 => if x5 < (x0.length : Int) then (if 0 ≤ x5 then (if x5 < (x1.length : Int) then (if ((!(((rd_T53 x0 x5).f0.f0) == ((rd_T53 x1 x5).f0.f0)) || (!(((rd_T53 x0 x5).f0.f1) == ((rd_T53 x1 x5).f0.f1)))) || ((!(((rd_T53 x0 x5).f1.f0) == ((rd_T53 x1 x5).f1.f0)) || (!(((rd_T53 x0 x5).f1.f1) == ((rd_T53 x1 x5).f1.f1)))))) = true then (some false) else (dioramaref02_EqSpans.l0 k x0 x1 (wrap64 (x5 + 1)))) else (none)) else (none)) else (some true)
def dioramaref02_EqSpans.f (k : Nat) (l0 : List (S53)) (l1 : List (S53)) : Option (Bool) := if (l0.length : Int) = (l1.length : Int) then (dioramaref02_EqSpans.l0 k l0 l1 0) else (some false)
set_option maxHeartbeats 8000000 in
set_option maxRecDepth 100000 in
theorem dioramaref02_EqSpans.calls (k : Nat) (A0 : Option Addr) (c0 : Nat) (l0 : List (S53)) (A1 : Option Addr) (c1 : Nat) (l1 : List (S53)) (r : Bool) (w : World) (hr0 : Kd.C k53 w A0 l0.length l0) (hc0 : l0.length ≤ c0) (hr1 : Kd.C k53 w A1 l1.length l1) (hc1 : l1.length ≤ c1) (h : dioramaref02_EqSpans.f k l0 l1 = some r) :
  Calls Tryz.prog 13 #[.slice A0 l0.length c0, .slice A1 l1.length c1] w fun e w' => e = .returned (.bool r) ∧ Drawn0 w w' := by
 have hu53 := Tryz.underlying53; have HR0 := Aside0.mk hr0; have HC0 := Aside0.mk hc0; clear hr0 hc0; have HR1 := Aside0.mk hr1; have HC1 := Aside0.mk hc1; clear hr1 hc1; have H : (if (l0.length : Int) = (l1.length : Int) then (dioramaref02_EqSpans.l0 k l0 l1 0) else (some false)) = some r := h; clear h
 by_cases c3 : (l0.length : Int) = (l1.length : Int)
 ·rw [if_pos c3] at H; have c3b0 : ((l0.length : Int) == (l1.length : Int)) = true := beq_iff_eq.mpr c3; have c3b1 : ((l0.length : Int) != (l1.length : Int)) = false := bne_eq_false_iff_eq.mpr c3; have c3b2 : (l0.length == l1.length) = true := by first | simpa using c3 | (simp at c3 ⊢; omega)
  clear c3; have H' := Aside0.mk H; clear H
  go_enter Tryz.func13, Tryz.ntmps13
  go_wp2
  repeat (go_quiet (fail); try go_wp2)
  go_loopg [5] k (fun kq v5 w' => ∃ (x5_1 : Int), v5 = .int .i64 x5_1 ∧ Aside0 (dioramaref02_EqSpans.l0 kq l0 l1 x5_1 = some r) ∧ Aside0 (kq ≤ k) ∧ Drawn0 w w')
  case atStart => exact ⟨(0), jz, H', ⟨Nat.le_refl _⟩, by repeat (first | exact Drawn0.refl _ | apply Drawn0.step)⟩
  case round =>
   clear H'
   try clear c1
   try clear p2
   try clear c3
   try clear c3b0
   try clear c3b1
   try clear c3b2
   obtain ⟨x5_1, rfl, HA, HK1, ⟨m1, rfl⟩⟩ := hrel
   cases gk with
   | zero => exact absurd HA.out (by simp [dioramaref02_EqSpans.l0])
   | succ k1 =>
    have H := HA.out; clear HA; simp only [dioramaref02_EqSpans.l0] at H
    by_cases c4 : x5_1 < (l0.length : Int)
    ·rw [if_pos c4] at H; have c4b0 : decide (x5_1 < (l0.length : Int)) = true := decide_eq_true c4; clear c4
     by_cases c5 : 0 ≤ x5_1
     ·rw [if_pos c5] at H; have c5b0 : decide (0 ≤ x5_1) = true := decide_eq_true c5; clear c5
      by_cases c6 : x5_1 < (l1.length : Int)
      ·rw [if_pos c6] at H; have c6b0 : decide (x5_1 < (l1.length : Int)) = true := decide_eq_true c6; clear c6
       by_cases c7 : ((!(((rd_T53 l0 x5_1).f0.f0) == ((rd_T53 l1 x5_1).f0.f0)) || (!(((rd_T53 l0 x5_1).f0.f1) == ((rd_T53 l1 x5_1).f0.f1)))) || ((!(((rd_T53 l0 x5_1).f1.f0) == ((rd_T53 l1 x5_1).f1.f0)) || (!(((rd_T53 l0 x5_1).f1.f1) == ((rd_T53 l1 x5_1).f1.f1)))))) = true
       ·rw [if_pos c7] at H; have c7b0 : ((!(((rd_T53 l0 x5_1).f0.f0) == ((rd_T53 l1 x5_1).f0.f0)) || (!(((rd_T53 l0 x5_1).f0.f1) == ((rd_T53 l1 x5_1).f0.f1)))) || ((!(((rd_T53 l0 x5_1).f1.f0) == ((rd_T53 l1 x5_1).f1.f0)) || (!(((rd_T53 l0 x5_1).f1.f1) == ((rd_T53 l1 x5_1).f1.f1)))))) = true := c7; clear c7; obtain rfl := Option.some.inj H; have p460 : 0 ≤ (x5_1 : Int) := od; have q460 : x5_1 < (l0.length : Int) := od; obtain ⟨ad460, e460, hx460_0, hx460_1, hx460_2, hx460_3⟩ := at_T53 HR0.out x5_1 p460 q460
        cases e460
        replace p460 := eq_true p460; replace q460 := eq_true q460; have p461 : 0 ≤ (x5_1 : Int) := od; have q461 : x5_1 < (l1.length : Int) := od; obtain ⟨ad461, e461, hx461_0, hx461_1, hx461_2, hx461_3⟩ := at_T53 HR1.out x5_1 p461 q461
        cases e461
        replace p461 := eq_true p461; replace q461 := eq_true q461
        go_wp2
        repeat (go_quiet (fail); try go_wp2)
        go_ret
        exact ⟨by first | rfl | (simp; done) | (simp [*]; done), by repeat (first | exact Drawn0.refl _ | apply Drawn0.step)⟩
       ·rw [if_neg c7] at H; have c7b0 : ((!(((rd_T53 l0 x5_1).f0.f0) == ((rd_T53 l1 x5_1).f0.f0)) || (!(((rd_T53 l0 x5_1).f0.f1) == ((rd_T53 l1 x5_1).f0.f1)))) || ((!(((rd_T53 l0 x5_1).f1.f0) == ((rd_T53 l1 x5_1).f1.f0)) || (!(((rd_T53 l0 x5_1).f1.f1) == ((rd_T53 l1 x5_1).f1.f1)))))) = false := by simpa using c7
        clear c7; have H' := Aside0.mk H; clear H; have p460 : 0 ≤ (x5_1 : Int) := od; have q460 : x5_1 < (l0.length : Int) := od; obtain ⟨ad460, e460, hx460_0, hx460_1, hx460_2, hx460_3⟩ := at_T53 HR0.out x5_1 p460 q460
        cases e460
        replace p460 := eq_true p460; replace q460 := eq_true q460; have p461 : 0 ≤ (x5_1 : Int) := od; have q461 : x5_1 < (l1.length : Int) := od; obtain ⟨ad461, e461, hx461_0, hx461_1, hx461_2, hx461_3⟩ := at_T53 HR1.out x5_1 p461 q461
        cases e461
        replace p461 := eq_true p461; replace q461 := eq_true q461
        go_wp2
        repeat (go_quiet (fail); try go_wp2)
        go_roundg k1
        case measure => have := HK1.out; omega
        case rel => exact ⟨(wrap64 (x5_1 + 1)), jz, H', ⟨by have := HK1.out; omega⟩, by repeat (first | exact Drawn0.refl _ | apply Drawn0.step)⟩
      ·rw [if_neg c6] at H
       exact absurd H (by simp)
     ·rw [if_neg c5] at H
      exact absurd H (by simp)
    ·rw [if_neg c4] at H; have c4b0 : decide (x5_1 < (l0.length : Int)) = false := decide_eq_false c4; clear c4; obtain rfl := Option.some.inj H
     go_wp2
     repeat (go_quiet (fail); try go_wp2)
     go_ret
     exact ⟨by first | rfl | (simp; done) | (simp [*]; done), by repeat (first | exact Drawn0.refl _ | apply Drawn0.step)⟩
 ·rw [if_neg c3] at H; have c3b0 : ((l0.length : Int) == (l1.length : Int)) = false := beq_eq_false_iff_ne.mpr c3; have c3b1 : ((l0.length : Int) != (l1.length : Int)) = true := bne_iff_ne.mpr c3; have c3b2 : (l0.length == l1.length) = false := by first | simpa using c3 | (simp at c3 ⊢; omega)
  obtain rfl := Option.some.inj H
  go_enter Tryz.func13, Tryz.ntmps13
  go_wp2
  repeat (go_quiet (fail); try go_wp2)
  go_ret
  exact ⟨by first | rfl | (simp; done) | (simp [*]; done), by repeat (first | exact Drawn0.refl _ | apply Drawn0.step)⟩
end Go.Proofs.YtekommcfpjonmaaGreat.E
namespace Go.Proofs.YtekommcfpjonmaaGreat.E
open Go.Proofs.YtekommcfpjonmaaGreat.Z Go.RowKit Go.Proofs.YtekommcfpjonmaaGreatW.PrintWords Go.Proofs.YtekommcfpjonmaaGreatW.PrintLast Go.Proofs.YtekommcfpjonmaaGreatW.PrintMore
attribute [local go_sem] max2_int min2_int max_two min_two max_three min_three max_four min_four
set_option linter.unusedVariables false
set_option linter.unusedSimpArgs false
def dioramaref02_combined.f (k : Nat) (l0 : List (S53)) (l1 : List (S53)) (a2 : Int) : Option ((List (S53)) × Int) := (dioramaref02_areSpans.f k l0).bind fun t478 => (if t478 = true then ((dioramaref02_areSpans.f k l1).bind fun t479 => (if t479 = true then ((dioramaref02_joined.f k l0 l1 a2).bind fun t480 => (some (t480, 0))) else (some (([] : List (S53)), 4)))) else (some (([] : List (S53)), 4)))
set_option maxHeartbeats 8000000 in
set_option maxRecDepth 100000 in
theorem dioramaref02_combined.calls (k : Nat) (A0 : Option Addr) (c0 : Nat) (l0 : List (S53)) (A1 : Option Addr) (c1 : Nat) (l1 : List (S53)) (a2 : Int) (r1 : List (S53)) (r2 : Int) (w : World) (hr0 : Kd.C k53 w A0 l0.length l0) (hc0 : l0.length ≤ c0) (hr1 : Kd.C k53 w A1 l1.length l1) (hc1 : l1.length ≤ c1) (h : dioramaref02_combined.f k l0 l1 a2 = some (r1, r2)) :
  Calls Tryz.prog 45 #[.slice A0 l0.length c0, .slice A1 l1.length c1, .int .i64 a2] w fun e w' => ∃ v0_ : Value, e = .returned (.tuple #[v0_, .int .i64 r2]) ∧ Kd.R k53 53 w' w.heap.size (fun _ => True) v0_ r1 ∧ Below w.heap.size w w' := by
 have HR0 := Aside0.mk hr0; have HC0 := Aside0.mk hc0; clear hr0 hc0; have HR1 := Aside0.mk hr1; have HC1 := Aside0.mk hc1; clear hr1 hc1; have HB := Aside0.mk (Below.refl w.heap.size w); have H : ((dioramaref02_areSpans.f k l0).bind fun t478 => (if t478 = true then ((dioramaref02_areSpans.f k l1).bind fun t479 => (if t479 = true then ((dioramaref02_joined.f k l0 l1 a2).bind fun t480 => (some (t480, 0))) else (some (([] : List (S53)), 4)))) else (some (([] : List (S53)), 4)))) = some (r1, r2) := h
 clear h; obtain ⟨t478, A4, H⟩ := ob H
 by_cases c5 : t478 = true
 ·subst c5; rw [if_pos rfl] at H; obtain ⟨t479, A6, H⟩ := ob H
  by_cases c7 : t479 = true
  ·subst c7; rw [if_pos rfl] at H; obtain ⟨t480, A8, H⟩ := ob H; simp only [Option.some.injEq, Prod.mk.injEq] at H; obtain ⟨rfl, rfl⟩ := H
   go_enter Tryz.func45, Tryz.ntmps45
   go_wp2_with (first | ((with_reducible refine gate_callee (f := 41) rfl ?_); refine zC 9 Tryz.func41 #[.slice A0 l0.length c0] ?_; (with_reducible refine (dioramaref02_areSpans.calls k _ _ l0 true _ ?side1 ?side2 A4.out).mono ?_); (case side1 => repeat (first | exact HR0.out | (with_reducible refine Kd.C_alloc ?_ _) | (with_reducible refine Kd.C_drewN ?_ _) | (with_reducible refine Kd.C_drew ?_))); (case side2 => exact HC0.out); rintro e w9 ⟨rfl, hb⟩; refine ⟨_, rfl, ?_⟩; replace HB := bp hb; clear hb) | (go_at_call 41; (with_reducible refine (dioramaref02_areSpans.calls k _ _ l1 true _ ?side1 ?side2 A6.out).mono ?_); (case side1 => exact cz HR1); (case side2 => exact HC1.out); rintro e w10 ⟨rfl, hb⟩; replace HB := bp hb; clear hb) | ((with_reducible refine gate_callee (f := 44) rfl ?_); refine zC 19 Tryz.func44 #[.slice A0 l0.length c0, .slice A1 l1.length c1, .int .i64 a2] ?_; (with_reducible refine (dioramaref02_joined.calls k _ _ l0 _ _ l1 a2 t480 _ ?side1 ?side2 ?side3 ?side4 A8.out).mono ?_); (case side1 => exact cz HR0); (case side2 => exact HC0.out); (case side3 => exact cz HR1); (case side4 => exact HC1.out); rintro e w11 ⟨v481, rfl, ho0, hb⟩; refine ⟨_, rfl, ?_⟩; have HO482 := Aside0.mk (Kd.R_lower ho0 sz); replace HB := bp hb; clear hb ho0))
   go_ret2
   exact ⟨_, ez, by (with_reducible repeat (first | apply Kd.R_alloc | apply Kd.R_drewN | apply Kd.R_drew)); exact HO482.out, bz⟩
  ·obtain rfl := bf c7; rw [if_neg (show ¬ (false = true) by decide)] at H; simp only [Option.some.injEq, Prod.mk.injEq] at H; obtain ⟨rfl, rfl⟩ := H
   go_enter Tryz.func45, Tryz.ntmps45
   go_wp2_with (first | ((with_reducible refine gate_callee (f := 41) rfl ?_); refine zC 9 Tryz.func41 #[.slice A0 l0.length c0] ?_; (with_reducible refine (dioramaref02_areSpans.calls k _ _ l0 true _ ?side1 ?side2 A4.out).mono ?_); (case side1 => repeat (first | exact HR0.out | (with_reducible refine Kd.C_alloc ?_ _) | (with_reducible refine Kd.C_drewN ?_ _) | (with_reducible refine Kd.C_drew ?_))); (case side2 => exact HC0.out); rintro e w12 ⟨rfl, hb⟩; refine ⟨_, rfl, ?_⟩; replace HB := bp hb; clear hb) | (go_at_call 41; (with_reducible refine (dioramaref02_areSpans.calls k _ _ l1 false _ ?side1 ?side2 A6.out).mono ?_); (case side1 => exact cz HR1); (case side2 => exact HC1.out); rintro e w13 ⟨rfl, hb⟩; replace HB := bp hb; clear hb))
   go_ret2
   exact ⟨_, ez, by first | exact Kd.R_nil _ _ _ _ _ | exact Kd.N_nil _ _ _ _ _ | exact Kd.V_nil _ _ _ _ _ | exact Kd.Q_nil _ _ _ _ _ | exact Kd.S_nil _ _ _ _ _, bz⟩
 ·obtain rfl := bf c5; rw [if_neg (show ¬ (false = true) by decide)] at H; simp only [Option.some.injEq, Prod.mk.injEq] at H; obtain ⟨rfl, rfl⟩ := H
  go_enter Tryz.func45, Tryz.ntmps45
  go_wp2_with (first | ((with_reducible refine gate_callee (f := 41) rfl ?_); refine zC 9 Tryz.func41 #[.slice A0 l0.length c0] ?_; (with_reducible refine (dioramaref02_areSpans.calls k _ _ l0 false _ ?side1 ?side2 A4.out).mono ?_); (case side1 => repeat (first | exact HR0.out | (with_reducible refine Kd.C_alloc ?_ _) | (with_reducible refine Kd.C_drewN ?_ _) | (with_reducible refine Kd.C_drew ?_))); (case side2 => exact HC0.out); rintro e w14 ⟨rfl, hb⟩; refine ⟨_, rfl, ?_⟩; replace HB := bp hb; clear hb))
  go_ret2
  exact ⟨_, ez, by first | exact Kd.R_nil _ _ _ _ _ | exact Kd.N_nil _ _ _ _ _ | exact Kd.V_nil _ _ _ _ _ | exact Kd.Q_nil _ _ _ _ _ | exact Kd.S_nil _ _ _ _ _, bz⟩
end Go.Proofs.YtekommcfpjonmaaGreat.E

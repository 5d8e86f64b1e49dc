/-
  The normal list of a list of edits as a plain value, and that the code tells it. Whether lists are equal, alike; the first example of the chapter. Whether two lists show the same. The reference's natural numbers, in digits of nine decimal places: what its printed functions compute. The reference's natural numbers: sums, differences, products, quotients, small ones. The reference divides. The reference's rational numbers as rational numbers.
-/
import Derived.Test.YtpbhepdgamoiaaaQREditCutsa
import Derived.Test.YtpbhepdgamoiaaaQREditCutsd
import Derived.Test.YtpbhepdgamoiaaaQREditCutse
import Derived.Test.YtpbhepdgamoiaaaQREditCutsf
import Derived.Test.YtpbhepdgamoiaaaQREditCutsc
import Derived.Test.YtpbhepdgamoiaaaQREditCutsg
namespace Go.Proofs.Ytpbhepdgamoiaaa.E
open Go.Proofs.Ytpbhepdgamoiaaa.Z Go.RowKit Go.Proofs.YtpbhepdgamoiaaaW.PrintWords Go.Proofs.YtpbhepdgamoiaaaW.PrintLast Go.Proofs.YtpbhepdgamoiaaaW.PrintMore
attribute [local go_sem] max2_int min2_int max_two min_two max_three min_three max_four min_four
set_option linter.unusedVariables false
set_option linter.unusedSimpArgs false
mutual
def dioramaref10_cut.l0 : Nat → List (S77) → Int → Int → Int → Int → List (S77) → Int → Int → Option ((List (S77)) × Int)
  | 0, _, _, _, _, _, _, _, _ => none
  | k + 1, x0, x1, x2, x3, x4, x12, x13, x14 => if x14 < (x0.length : Int) then (if 0 ≤ x14 then (if (mn (wrap64 (x13 + ((rd_T77 x0 x14).f0))) x4) > (mx x13 x3) then (if (mx x13 x3) > x13 then ((dioramaref10_isEmpty.f (wrap64 ((mn (wrap64 (x13 + ((rd_T77 x0 x14).f0))) x4) - (mx x13 x3))) ((rd_T77 x0 x14).f1) ((rd_T77 x0 x14).f2) ((rd_T77 x0 x14).f3)).bind fun t971 => (if t971 = true then (dioramaref10_cut.j1 k x0 x1 x2 x3 x4 x12 x13 x14 (mx x13 x3) false (wrap64 ((mn (wrap64 (x13 + ((rd_T77 x0 x14).f0))) x4) - (mx x13 x3))) ((rd_T77 x0 x14).f1) ((rd_T77 x0 x14).f2) ((rd_T77 x0 x14).f3)) else (dioramaref10_cut.j1 k x0 x1 x2 x3 x4 x12 x13 x14 (mx x13 x3) (decide (((rd_T77 x0 x14).f2) > 0)) (wrap64 ((mn (wrap64 (x13 + ((rd_T77 x0 x14).f0))) x4) - (mx x13 x3))) ((rd_T77 x0 x14).f1) ((rd_T77 x0 x14).f2) ((rd_T77 x0 x14).f3)))) else (dioramaref10_cut.j1 k x0 x1 x2 x3 x4 x12 x13 x14 (mx x13 x3) false (wrap64 ((mn (wrap64 (x13 + ((rd_T77 x0 x14).f0))) x4) - (mx x13 x3))) ((rd_T77 x0 x14).f1) ((rd_T77 x0 x14).f2) ((rd_T77 x0 x14).f3))) else (dioramaref10_cut.l0 k x0 x1 x2 x3 x4 x12 (wrap64 (x13 + ((rd_T77 x0 x14).f0))) (wrap64 (x14 + 1)))) else (none)) else ((dioramaref10_told.f k x12 x1 x2).bind fun bt964 => (some (bt964.1, bt964.2)))
def dioramaref10_cut.j1 : Nat → List (S77) → Int → Int → Int → Int → List (S77) → Int → Int → Int → Bool → Int → Int → Int → Int → Option ((List (S77)) × Int)
  | 0, _, _, _, _, _, _, _, _, _, _, _, _, _, _ => none
  | k + 1, x0, x1, x2, x3, x4, x12, x13, x14, x15, x61, x971000, x971001, x971002, x971003 => if x61 = true then ((dioramaref10_ratio.f k (wrap64 (x15 - x13)) x1).bind fun bt972 => ((dioramaref10_media.f k x971000 x971001 x971002 x971003 x2 bt972.1 bt972.2.1 bt972.2.2).bind fun bt979 => ((dioramaref10_ratio.f k x2 1).bind fun bt986 => ((dioramaref10_times.f k bt979.1 bt979.2.1 bt979.2.2 bt986.1 bt986.2.1 bt986.2.2).bind fun bt993 => ((dioramaref10_whole.f k bt993.1 bt993.2.1 bt993.2.2).bind fun bt1000 => (if bt1000.2 = 0 then (if x12.length < 4398046511104 then (if 0 ≤ x14 then (if x14 < (x0.length : Int) then (dioramaref10_cut.l0 k x0 x1 x2 x3 x4 (x12 ++ [(⟨x971000, bt1000.1, x971002, x971003⟩ : S77)]) (wrap64 (x13 + ((rd_T77 x0 x14).f0))) (wrap64 (x14 + 1))) else (none)) else (none)) else (none)) else (some (([] : List (S77)), bt1000.2)))))))) else (if x12.length < 4398046511104 then (if 0 ≤ x14 then (if x14 < (x0.length : Int) then (dioramaref10_cut.l0 k x0 x1 x2 x3 x4 (x12 ++ [(⟨x971000, x971001, x971002, x971003⟩ : S77)]) (wrap64 (x13 + ((rd_T77 x0 x14).f0))) (wrap64 (x14 + 1))) else (none)) else (none)) else (none))
end
def dioramaref10_cut.f (k : Nat) (l0 : List (S77)) (a1 : Int) (a2 : Int) (a3 : Int) (a4 : Int) : Option ((List (S77)) × Int) := dioramaref10_cut.l0 k l0 a1 a2 a3 a4 ([] : List (S77)) 0 0
set_option maxHeartbeats 8000000 in
set_option maxRecDepth 100000 in
theorem dioramaref10_cut.calls (k : Nat) (A0 : Option Addr) (c0 : Nat) (l0 : List (S77)) (a1 : Int) (a2 : Int) (a3 : Int) (a4 : Int) (r1 : List (S77)) (r2 : Int) (w : World) (hr0 : Kd.C k77 w A0 l0.length l0) (hc0 : l0.length ≤ c0) (h : dioramaref10_cut.f k l0 a1 a2 a3 a4 = some (r1, r2)) :
  Calls Try.prog 94 #[.slice A0 l0.length c0, .int .i64 a1, .int .i64 a2, .int .i64 a3, .int .i64 a4] w fun e w' => ∃ v0_ : Value, e = .returned (.tuple #[v0_, .int .i64 r2]) ∧ Kd.R k77 77 w' w.heap.size (fun _ => True) v0_ r1 ∧ Below w.heap.size w w' := by
 have hu77 := Try.underlying77; have HR0 := Aside0.mk hr0; have HC0 := Aside0.mk hc0; clear hr0 hc0; have HB := Aside0.mk (Below.refl w.heap.size w); have H : (dioramaref10_cut.l0 k l0 a1 a2 a3 a4 ([] : List (S77)) 0 0) = some (r1, r2) := h; clear h; have H' := Aside0.mk H; clear H
 go_enter Try.func94, Try.ntmps94
 go_wp2
 go_loopg [12, 13, 14] k (fun kq v12 v13 v14 w' => ∃ (x12_1 : List (S77)) (x13_1 : Int) (x14_1 : Int), v13 = .int .i64 x13_1 ∧ v14 = .int .i64 x14_1 ∧ Aside0 (dioramaref10_cut.l0 kq l0 a1 a2 a3 a4 x12_1 x13_1 x14_1 = some (r1, r2)) ∧ Aside0 (kq ≤ k) ∧ Aside0 (Kd.R k77 77 w' w.heap.size (fun _ => True) v12 x12_1) ∧ Aside0 (Below w.heap.size w w'))
 case atStart => exact ⟨(([] : List (S77))), (0), (0), jz, jz, H', ⟨Nat.le_refl _⟩, ⟨by first | exact Kd.R_nil _ _ _ _ _ | exact Kd.N_nil _ _ _ _ _ | exact Kd.V_nil _ _ _ _ _ | exact Kd.Q_nil _ _ _ _ _ | exact Kd.S_nil _ _ _ _ _⟩, ⟨bz⟩⟩
 case round =>
  clear H'
  try clear p2
  obtain ⟨x12_1, x13_1, x14_1, rfl, rfl, HA, HK1, HO_12, HB⟩ := hrel
  cases gk with
  | zero => exact absurd HA.out (by simp [dioramaref10_cut.l0])
  | succ k1 =>
   have H := HA.out; clear HA; simp only [dioramaref10_cut.l0] at H
   by_cases c6 : x14_1 < (l0.length : Int)
   ·rw [if_pos c6] at H; have c6b0 : decide (x14_1 < (l0.length : Int)) = true := decide_eq_true c6; clear c6; obtain ⟨ji7, hji7⟩ : ∃ j_ : Int, (mx x13_1 a3) = j_ := ⟨_, rfl⟩; replace H : (if 0 ≤ x14_1 then (if (mn (wrap64 (x13_1 + ((rd_T77 l0 x14_1).f0))) a4) > (ji7) then (if (ji7) > x13_1 then ((dioramaref10_isEmpty.f (wrap64 ((mn (wrap64 (x13_1 + ((rd_T77 l0 x14_1).f0))) a4) - (ji7))) ((rd_T77 l0 x14_1).f1) ((rd_T77 l0 x14_1).f2) ((rd_T77 l0 x14_1).f3)).bind fun t971 => (if t971 = true then (dioramaref10_cut.j1 k1 l0 a1 a2 a3 a4 x12_1 x13_1 x14_1 ji7 false (wrap64 ((mn (wrap64 (x13_1 + ((rd_T77 l0 x14_1).f0))) a4) - (ji7))) ((rd_T77 l0 x14_1).f1) ((rd_T77 l0 x14_1).f2) ((rd_T77 l0 x14_1).f3)) else (dioramaref10_cut.j1 k1 l0 a1 a2 a3 a4 x12_1 x13_1 x14_1 ji7 (decide (((rd_T77 l0 x14_1).f2) > 0)) (wrap64 ((mn (wrap64 (x13_1 + ((rd_T77 l0 x14_1).f0))) a4) - (ji7))) ((rd_T77 l0 x14_1).f1) ((rd_T77 l0 x14_1).f2) ((rd_T77 l0 x14_1).f3)))) else (dioramaref10_cut.j1 k1 l0 a1 a2 a3 a4 x12_1 x13_1 x14_1 ji7 false (wrap64 ((mn (wrap64 (x13_1 + ((rd_T77 l0 x14_1).f0))) a4) - (ji7))) ((rd_T77 l0 x14_1).f1) ((rd_T77 l0 x14_1).f2) ((rd_T77 l0 x14_1).f3))) else (dioramaref10_cut.l0 k1 l0 a1 a2 a3 a4 x12_1 (wrap64 (x13_1 + ((rd_T77 l0 x14_1).f0))) (wrap64 (x14_1 + 1)))) else (none)) = some (r1, r2) := by first | (rw [hji7] at H; exact H) | (simp only [hji7] at H ⊢; exact H)
    have hji7_ : (if x13_1 < a3 then a3 else x13_1) = ji7 := hji7
    by_cases c8 : 0 ≤ x14_1
    ·rw [if_pos c8] at H; have c8b0 : decide (0 ≤ x14_1) = true := decide_eq_true c8; clear c8; obtain ⟨ji9, hji9⟩ : ∃ j_ : Int, (mn (wrap64 (x13_1 + ((rd_T77 l0 x14_1).f0))) a4) = j_ := ⟨_, rfl⟩; replace H : (if (ji9) > (ji7) then (if (ji7) > x13_1 then ((dioramaref10_isEmpty.f (wrap64 ((ji9) - (ji7))) ((rd_T77 l0 x14_1).f1) ((rd_T77 l0 x14_1).f2) ((rd_T77 l0 x14_1).f3)).bind fun t971 => (if t971 = true then (dioramaref10_cut.j1 k1 l0 a1 a2 a3 a4 x12_1 x13_1 x14_1 ji7 false (wrap64 ((ji9) - (ji7))) ((rd_T77 l0 x14_1).f1) ((rd_T77 l0 x14_1).f2) ((rd_T77 l0 x14_1).f3)) else (dioramaref10_cut.j1 k1 l0 a1 a2 a3 a4 x12_1 x13_1 x14_1 ji7 (decide (((rd_T77 l0 x14_1).f2) > 0)) (wrap64 ((ji9) - (ji7))) ((rd_T77 l0 x14_1).f1) ((rd_T77 l0 x14_1).f2) ((rd_T77 l0 x14_1).f3)))) else (dioramaref10_cut.j1 k1 l0 a1 a2 a3 a4 x12_1 x13_1 x14_1 ji7 false (wrap64 ((ji9) - (ji7))) ((rd_T77 l0 x14_1).f1) ((rd_T77 l0 x14_1).f2) ((rd_T77 l0 x14_1).f3))) else (dioramaref10_cut.l0 k1 l0 a1 a2 a3 a4 x12_1 (wrap64 (x13_1 + ((rd_T77 l0 x14_1).f0))) (wrap64 (x14_1 + 1)))) = some (r1, r2) := by first | (rw [hji9] at H; exact H) | (simp only [hji9] at H ⊢; exact H)
     have hji9_ : (if a4 < (wrap64 (x13_1 + ((rd_T77 l0 x14_1).f0))) then a4 else (wrap64 (x13_1 + ((rd_T77 l0 x14_1).f0)))) = ji9 := hji9
     by_cases c10 : (ji9) > (ji7)
     ·rw [if_pos c10] at H; have c10b0 : decide ((ji7) < (ji9)) = true := decide_eq_true c10; clear c10; have HC11 := Aside0.mk H; clear H
      try go_wp2
      replace HO_12 := Aside0.mk (Kd.R_drew HO_12.out); replace HB := Aside0.mk (below_drew1 HB.out); have p968 : 0 ≤ (x14_1 : Int) := od; have q968 : x14_1 < (l0.length : Int) := od; obtain ⟨ad968, e968, hx968_0, hx968_1, hx968_2, hx968_3⟩ := at_T77 HR0.out x14_1 p968 q968; have hw968_3 := hx968_3; have hw968_2 := hx968_2; have hw968_1 := hx968_1; have hw968_0 := hx968_0
      cases e968
      replace hx968_0 := cl HB hx968_0; replace hx968_1 := cl HB hx968_1; replace hx968_2 := cl HB hx968_2; replace hx968_3 := cl HB hx968_3; replace p968 := eq_true p968; replace q968 := eq_true q968; refine start_ (n := 14) (S := fun w' => w'.cell? (ad968.add ((x14_1).toNat * 4)) = some (.int .i64 ((rd_T77 l0 x14_1).f0)) ∧ w'.cell? ⟨(ad968.add ((x14_1).toNat * 4)).block, (ad968.add ((x14_1).toNat * 4)).off + 1, none⟩ = some (.int .i64 ((rd_T77 l0 x14_1).f1)) ∧ w'.cell? ⟨(ad968.add ((x14_1).toNat * 4)).block, (ad968.add ((x14_1).toNat * 4)).off + 2, none⟩ = some (.int .i64 ((rd_T77 l0 x14_1).f2)) ∧ w'.cell? ⟨(ad968.add ((x14_1).toNat * 4)).block, (ad968.add ((x14_1).toNat * 4)).off + 3, none⟩ = some (.int .i64 ((rd_T77 l0 x14_1).f3))) (ds := []) (bs 14 0) (by kernel_rfl) rfl rfl ⟨(cl HB hw968_0), (cl HB hw968_1), (cl HB hw968_2), (cl HB hw968_3)⟩ (fun hHeld => ?_)
      generalize wr.drew = w12 at HO_12 HB hx968_0 hx968_1 hx968_2 hx968_3 hHeld ⊢; refine zP 0 26 14 1 ?_; refine zP 1 27 14 3 ?_; refine zP 2 28 14 7 ?_; refine zP 3 29 14 15 ?_; refine zP 4 30 14 31 ?_; refine zP 5 31 14 63 ?_; refine zP 6 32 14 127 ?_; refine zP 7 33 14 255 ?_; refine zP 10 36 14 1279 ?_; refine zP 12 15 14 5375 ?_; refine zT 8 34 14 5631 hHeld ?_; refine zP 9 35 14 6143 ?_; refine zP 11 37 14 8191 ?_; refine zP 13 16 14 16383 ?_; refine done_ (by kernel_rfl) ?_; have p969 : 0 ≤ (x14_1 : Int) := od; have q969 : x14_1 < (l0.length : Int) := od; obtain ⟨ad969, e969, hx969_0, hx969_1, hx969_2, hx969_3⟩ := at_T77 HR0.out x14_1 p969 q969; obtain rfl : ad968 = ad969 := (by injection e969); replace hx969_0 := cl HB hx969_0; replace hx969_1 := cl HB hx969_1; replace hx969_2 := cl HB hx969_2; replace hx969_3 := cl HB hx969_3; replace p969 := eq_true p969; replace q969 := eq_true q969
      go_upto_region 10 with (first | ((with_reducible refine gate_dst (N := 17) rfl ?_); refine zB 17 77 #[.int .i64 0, .int .i64 0, .int .i64 0, .int .i64 0] ?_; intro gb970 hg w13 hbox hb; replace HO_12 := Aside0.mk (Kd.R_below (Kd.R_elderB (rz HO_12) gb970 (Nat.le_of_eq hg.symm)) hb); have BK970 := Aside0.mk hbox; have GW970 := gz hg; have GE970 := gz hg; replace HB := bp hb; clear hb hbox hg; obtain ⟨hcz14_0, hcz14_1, hcz14_2, hcz14_3, hfz14_0, hfz14_1, hfz14_2, hfz14_3⟩ := xc4 BK970))
      (try simp only [Act.put, List.setIfInBounds_toArray, List.set_cons_zero, List.set_cons_succ])
      go_cut [61] (fun v61 wc => ∃ (kq : Nat) (x61_10 : Bool), v61 = .bool x61_10 ∧ Aside0 (dioramaref10_cut.j1 kq l0 a1 a2 a3 a4 x12_1 x13_1 x14_1 ji7 x61_10 (wrap64 ((ji9) - (ji7))) ((rd_T77 l0 x14_1).f1) ((rd_T77 l0 x14_1).f2) ((rd_T77 l0 x14_1).f3) = some (r1, r2)) ∧ Aside0 (kq ≤ k1) ∧ Aside0 (Kd.R k77 77 wc w.heap.size (fun k_ => k_ ≠ gb970) u12 x12_1) ∧ Aside0 (wc.heap[gb970]? = some (.cells #[.int .i64 (wrap64 ((ji9) - (ji7))), .int .i64 ((rd_T77 l0 x14_1).f1), .int .i64 ((rd_T77 l0 x14_1).f2), .int .i64 ((rd_T77 l0 x14_1).f3)] 77 (0, 0))) ∧ Aside0 (Below w.heap.size w wc))
      case first =>
       have H := HC11.out; clear HC11
       by_cases c15 : (ji7) > x13_1
       ·rw [if_pos c15] at H; have c15b0 : decide (x13_1 < (ji7)) = true := decide_eq_true c15; clear c15
        (first | rw [c15b0] | (simp only [i64_w, i32_w]; rw [c15b0]) | skip)
        obtain ⟨t971, A16, H⟩ := ob H
        by_cases c17 : t971 = true
        ·subst c17; rw [if_pos rfl] at H; have H' := Aside0.mk H; clear H; obtain ⟨hcz18_0, hcz18_1, hcz18_2, hcz18_3, hfz18_0, hfz18_1, hfz18_2, hfz18_3⟩ := xc4 BK970
         go_wp2_with (first | (go_at_call 74; (with_reducible refine (dioramaref10_isEmpty.calls (wrap64 ((ji9) - (ji7))) ((rd_T77 l0 x14_1).f1) ((rd_T77 l0 x14_1).f2) ((rd_T77 l0 x14_1).f3) true _ A16.out).mono ?_); rintro e w19 ⟨rfl, hb⟩; replace HO_12 := Aside0.mk (Kd.R_below (by (with_reducible repeat (first | apply Kd.R_alloc | apply Kd.R_drewN | apply Kd.R_drew)); exact (Kd.R_mono (Kd.R_far (p := ⟨gb970, 0, none⟩) (Kd.R_far (p := ⟨gb970, 3, none⟩) (Kd.R_far (p := ⟨gb970, 2, none⟩) (Kd.R_far (p := ⟨gb970, 1, none⟩) (Kd.R_far (p := ⟨gb970, 0, none⟩) (Kd.R_mono HO_12.out (fun k_ hk => (⟨hk, hk.2⟩ : _ ∧ k_ ≠ gb970))) (fun _ hk => hk.2) (.int .i64 ((rd_T77 l0 x14_1).f0))) (fun _ hk => hk.2) (.int .i64 ((rd_T77 l0 x14_1).f1))) (fun _ hk => hk.2) (.int .i64 ((rd_T77 l0 x14_1).f2))) (fun _ hk => hk.2) (.int .i64 ((rd_T77 l0 x14_1).f3))) (fun _ hk => hk.2) (.int .i64 (wrap64 ((ji9) - (ji7))))) (fun _ h_ => h_.1))) hb); replace BK970 := Aside0.mk (blk_below (g := gb970) (o := .cells #[.int .i64 (wrap64 ((ji9) - (ji7))), .int .i64 ((rd_T77 l0 x14_1).f1), .int .i64 ((rd_T77 l0 x14_1).f2), .int .i64 ((rd_T77 l0 x14_1).f3)] 77 (0, 0)) (by (with_reducible repeat (first | refine blk_drewN ?_ _ | refine blk_drew ?_ | refine blk_alloc ?_ _)); refine blk_put (cs := #[.int .i64 ((rd_T77 l0 x14_1).f0), .int .i64 ((rd_T77 l0 x14_1).f1), .int .i64 ((rd_T77 l0 x14_1).f2), .int .i64 ((rd_T77 l0 x14_1).f3)]) ?_ 0 _ rfl; (with_reducible repeat (first | refine blk_drewN ?_ _ | refine blk_drew ?_ | refine blk_alloc ?_ _)); refine blk_put (cs := #[.int .i64 ((rd_T77 l0 x14_1).f0), .int .i64 ((rd_T77 l0 x14_1).f1), .int .i64 ((rd_T77 l0 x14_1).f2), .int .i64 0]) ?_ 3 _ rfl; (with_reducible repeat (first | refine blk_drewN ?_ _ | refine blk_drew ?_ | refine blk_alloc ?_ _)); refine blk_put (cs := #[.int .i64 ((rd_T77 l0 x14_1).f0), .int .i64 ((rd_T77 l0 x14_1).f1), .int .i64 0, .int .i64 0]) ?_ 2 _ rfl; (with_reducible repeat (first | refine blk_drewN ?_ _ | refine blk_drew ?_ | refine blk_alloc ?_ _)); refine blk_put (cs := #[.int .i64 ((rd_T77 l0 x14_1).f0), .int .i64 0, .int .i64 0, .int .i64 0]) ?_ 1 _ rfl; (with_reducible repeat (first | refine blk_drewN ?_ _ | refine blk_drew ?_ | refine blk_alloc ?_ _)); refine blk_put (cs := #[.int .i64 0, .int .i64 0, .int .i64 0, .int .i64 0]) ?_ 0 _ rfl; (with_reducible repeat (first | refine blk_drewN ?_ _ | refine blk_drew ?_ | refine blk_alloc ?_ _)); exact BK970.out) hb); replace HB := bp hb; clear hb))
         go_meet
         case rel => exact ⟨_, (false), jz, H', ⟨by have := HK1.out; first | omega | exact Nat.le_refl _⟩, ⟨by (with_reducible repeat (first | apply Kd.R_alloc | apply Kd.R_drewN | apply Kd.R_drew)); exact Kd.R_mono HO_12.out (fun _ hk => hk.2)⟩, ⟨kz⟩, ⟨bz⟩⟩
        ·obtain rfl := bf c17; rw [if_neg (show ¬ (false = true) by decide)] at H; have H' := Aside0.mk H; clear H; obtain ⟨hcz20_0, hcz20_1, hcz20_2, hcz20_3, hfz20_0, hfz20_1, hfz20_2, hfz20_3⟩ := xc4 BK970
         go_wp2_with (first | (go_at_call 74; (with_reducible refine (dioramaref10_isEmpty.calls (wrap64 ((ji9) - (ji7))) ((rd_T77 l0 x14_1).f1) ((rd_T77 l0 x14_1).f2) ((rd_T77 l0 x14_1).f3) false _ A16.out).mono ?_); rintro e w21 ⟨rfl, hb⟩; replace HO_12 := Aside0.mk (Kd.R_below (by (with_reducible repeat (first | apply Kd.R_alloc | apply Kd.R_drewN | apply Kd.R_drew)); exact (Kd.R_mono (Kd.R_far (p := ⟨gb970, 0, none⟩) (Kd.R_far (p := ⟨gb970, 3, none⟩) (Kd.R_far (p := ⟨gb970, 2, none⟩) (Kd.R_far (p := ⟨gb970, 1, none⟩) (Kd.R_far (p := ⟨gb970, 0, none⟩) (Kd.R_mono HO_12.out (fun k_ hk => (⟨hk, hk.2⟩ : _ ∧ k_ ≠ gb970))) (fun _ hk => hk.2) (.int .i64 ((rd_T77 l0 x14_1).f0))) (fun _ hk => hk.2) (.int .i64 ((rd_T77 l0 x14_1).f1))) (fun _ hk => hk.2) (.int .i64 ((rd_T77 l0 x14_1).f2))) (fun _ hk => hk.2) (.int .i64 ((rd_T77 l0 x14_1).f3))) (fun _ hk => hk.2) (.int .i64 (wrap64 ((ji9) - (ji7))))) (fun _ h_ => h_.1))) hb); replace BK970 := Aside0.mk (blk_below (g := gb970) (o := .cells #[.int .i64 (wrap64 ((ji9) - (ji7))), .int .i64 ((rd_T77 l0 x14_1).f1), .int .i64 ((rd_T77 l0 x14_1).f2), .int .i64 ((rd_T77 l0 x14_1).f3)] 77 (0, 0)) (by (with_reducible repeat (first | refine blk_drewN ?_ _ | refine blk_drew ?_ | refine blk_alloc ?_ _)); refine blk_put (cs := #[.int .i64 ((rd_T77 l0 x14_1).f0), .int .i64 ((rd_T77 l0 x14_1).f1), .int .i64 ((rd_T77 l0 x14_1).f2), .int .i64 ((rd_T77 l0 x14_1).f3)]) ?_ 0 _ rfl; (with_reducible repeat (first | refine blk_drewN ?_ _ | refine blk_drew ?_ | refine blk_alloc ?_ _)); refine blk_put (cs := #[.int .i64 ((rd_T77 l0 x14_1).f0), .int .i64 ((rd_T77 l0 x14_1).f1), .int .i64 ((rd_T77 l0 x14_1).f2), .int .i64 0]) ?_ 3 _ rfl; (with_reducible repeat (first | refine blk_drewN ?_ _ | refine blk_drew ?_ | refine blk_alloc ?_ _)); refine blk_put (cs := #[.int .i64 ((rd_T77 l0 x14_1).f0), .int .i64 ((rd_T77 l0 x14_1).f1), .int .i64 0, .int .i64 0]) ?_ 2 _ rfl; (with_reducible repeat (first | refine blk_drewN ?_ _ | refine blk_drew ?_ | refine blk_alloc ?_ _)); refine blk_put (cs := #[.int .i64 ((rd_T77 l0 x14_1).f0), .int .i64 0, .int .i64 0, .int .i64 0]) ?_ 1 _ rfl; (with_reducible repeat (first | refine blk_drewN ?_ _ | refine blk_drew ?_ | refine blk_alloc ?_ _)); refine blk_put (cs := #[.int .i64 0, .int .i64 0, .int .i64 0, .int .i64 0]) ?_ 0 _ rfl; (with_reducible repeat (first | refine blk_drewN ?_ _ | refine blk_drew ?_ | refine blk_alloc ?_ _)); exact BK970.out) hb); replace HB := bp hb; clear hb; obtain ⟨hcz22_0, hcz22_1, hcz22_2, hcz22_3, hfz22_0, hfz22_1, hfz22_2, hfz22_3⟩ := xc4 BK970))
         go_meet
         case rel => exact ⟨_, (decide (((rd_T77 l0 x14_1).f2) > 0)), jz, H', ⟨by have := HK1.out; first | omega | exact Nat.le_refl _⟩, ⟨by (with_reducible repeat (first | apply Kd.R_alloc | apply Kd.R_drewN | apply Kd.R_drew)); exact Kd.R_mono HO_12.out (fun _ hk => hk.2)⟩, ⟨kz⟩, ⟨bz⟩⟩
       ·rw [if_neg c15] at H; have c15b0 : decide (x13_1 < (ji7)) = false := decide_eq_false c15; clear c15
        (first | rw [c15b0] | (simp only [i64_w, i32_w]; rw [c15b0]) | skip)
        have H' := Aside0.mk H; clear H
        go_wp2
        go_meet
        case rel => exact ⟨_, (false), jz, H', ⟨by have := HK1.out; first | omega | exact Nat.le_refl _⟩, ⟨by (with_reducible repeat (first | apply Kd.R_alloc | apply Kd.R_drewN | apply Kd.R_drew)); exact Kd.R_mono (Kd.R_far (p := ⟨gb970, 0, none⟩) (Kd.R_far (p := ⟨gb970, 3, none⟩) (Kd.R_far (p := ⟨gb970, 2, none⟩) (Kd.R_far (p := ⟨gb970, 1, none⟩) (Kd.R_far (p := ⟨gb970, 0, none⟩) (Kd.R_mono HO_12.out (fun k_ hk => (⟨hk, hk.2⟩ : _ ∧ k_ ≠ gb970))) (fun _ hk => hk.2) (.int .i64 ((rd_T77 l0 x14_1).f0))) (fun _ hk => hk.2) (.int .i64 ((rd_T77 l0 x14_1).f1))) (fun _ hk => hk.2) (.int .i64 ((rd_T77 l0 x14_1).f2))) (fun _ hk => hk.2) (.int .i64 ((rd_T77 l0 x14_1).f3))) (fun _ hk => hk.2) (.int .i64 (wrap64 ((ji9) - (ji7))))) (fun _ hk => hk.1.2)⟩, ⟨by (with_reducible repeat (first | refine blk_drewN ?_ _ | refine blk_drew ?_ | refine blk_alloc ?_ _)); refine blk_put (cs := #[.int .i64 ((rd_T77 l0 x14_1).f0), .int .i64 ((rd_T77 l0 x14_1).f1), .int .i64 ((rd_T77 l0 x14_1).f2), .int .i64 ((rd_T77 l0 x14_1).f3)]) ?_ 0 _ rfl; (with_reducible repeat (first | refine blk_drewN ?_ _ | refine blk_drew ?_ | refine blk_alloc ?_ _)); refine blk_put (cs := #[.int .i64 ((rd_T77 l0 x14_1).f0), .int .i64 ((rd_T77 l0 x14_1).f1), .int .i64 ((rd_T77 l0 x14_1).f2), .int .i64 0]) ?_ 3 _ rfl; (with_reducible repeat (first | refine blk_drewN ?_ _ | refine blk_drew ?_ | refine blk_alloc ?_ _)); refine blk_put (cs := #[.int .i64 ((rd_T77 l0 x14_1).f0), .int .i64 ((rd_T77 l0 x14_1).f1), .int .i64 0, .int .i64 0]) ?_ 2 _ rfl; (with_reducible repeat (first | refine blk_drewN ?_ _ | refine blk_drew ?_ | refine blk_alloc ?_ _)); refine blk_put (cs := #[.int .i64 ((rd_T77 l0 x14_1).f0), .int .i64 0, .int .i64 0, .int .i64 0]) ?_ 1 _ rfl; (with_reducible repeat (first | refine blk_drewN ?_ _ | refine blk_drew ?_ | refine blk_alloc ?_ _)); refine blk_put (cs := #[.int .i64 0, .int .i64 0, .int .i64 0, .int .i64 0]) ?_ 0 _ rfl; (with_reducible repeat (first | refine blk_drewN ?_ _ | refine blk_drew ?_ | refine blk_alloc ?_ _)); exact BK970.out⟩, ⟨bz⟩⟩
      case rest =>
       clear HC11
       try clear c1
       try clear p2
       try clear c6
       try clear c6b0
       try clear p6
       try clear c8
       try clear c8b0
       try clear c9
       try clear p9
       try clear q9
       try clear hx9
       try clear c10
       try clear c10b0
       try clear c15
       try clear c15b0
       try clear c17
       try clear hcz14_0
       try clear hcz14_1
       try clear hcz14_2
       try clear hcz14_3
       try clear hcz18_0
       try clear hcz18_1
       try clear hcz18_2
       try clear hcz18_3
       try clear hcz20_0
       try clear hcz20_1
       try clear hcz20_2
       try clear hcz20_3
       try clear hcz22_0
       try clear hcz22_1
       try clear hcz22_2
       try clear hcz22_3
       try clear hfz14_0
       try clear hfz14_1
       try clear hfz14_2
       try clear hfz14_3
       try clear hfz18_0
       try clear hfz18_1
       try clear hfz18_2
       try clear hfz18_3
       try clear hfz20_0
       try clear hfz20_1
       try clear hfz20_2
       try clear hfz20_3
       try clear hfz22_0
       try clear hfz22_1
       try clear hfz22_2
       try clear hfz22_3
       try clear hx968_0
       try clear hx968_1
       try clear hx968_2
       try clear hx968_3
       try clear hx969_0
       try clear hx969_1
       try clear hx969_2
       try clear hx969_3
       try clear p2
       try clear p968
       try clear p969
       try clear q968
       try clear q969
       obtain ⟨kq, x61_10, rfl, HA, HJ10, HO_12, BK970, HB⟩ := hcut
       cases kq with
       | zero => exact absurd HA.out (by simp [dioramaref10_cut.j1])
       | succ kj10 =>
        have H := HA.out; clear HA; simp only [dioramaref10_cut.j1] at H
        by_cases c23 : x61_10 = true
        ·subst c23; rw [if_pos rfl] at H; obtain ⟨⟨t972, t973, t976⟩, A24, H⟩ := ob H
         (try dsimp only at H)
         obtain ⟨⟨t979, t980, t983⟩, A25, H⟩ := ob H
         (try dsimp only at H)
         obtain ⟨⟨t986, t987, t990⟩, A26, H⟩ := ob H
         (try dsimp only at H)
         obtain ⟨⟨t993, t994, t997⟩, A27, H⟩ := ob H
         (try dsimp only at H)
         obtain ⟨⟨t1000, t1001⟩, A28, H⟩ := ob H
         (try dsimp only at H)
         by_cases c29 : t1001 = 0
         ·rw [if_pos c29] at H; have c29b0 : (t1001 == 0) = true := beq_iff_eq.mpr c29; have c29b1 : (t1001 != 0) = false := bne_eq_false_iff_eq.mpr c29; clear c29
          by_cases c30 : x12_1.length < 4398046511104
          ·rw [if_pos c30] at H; have LMc30 := Aside0.mk c30; clear c30; obtain ⟨y1002, hy1002⟩ : ∃ y_ : List (S77), y_ = (x12_1 ++ [(⟨(wrap64 ((ji9) - (ji7))), t1000, ((rd_T77 l0 x14_1).f2), ((rd_T77 l0 x14_1).f3)⟩ : S77)]) := ⟨_, rfl⟩; replace H : (if 0 ≤ x14_1 then (if x14_1 < (l0.length : Int) then (dioramaref10_cut.l0 kj10 l0 a1 a2 a3 a4 y1002 (wrap64 (x13_1 + ((rd_T77 l0 x14_1).f0))) (wrap64 (x14_1 + 1))) else (none)) else (none)) = some (r1, r2) := by first | (rw [hy1002]; with_reducible exact H) | (have H2_ := (Option.bind_some _ _).symm.trans H; rw [hy1002]; with_reducible exact H2_) | (have H2_ := (Option.bind_some _ _).symm.trans H; with_reducible exact H2_) | with_reducible exact H | (rw [hy1002]; exact H) | exact H
           have Ny1002 := Aside0.mk hy1002; clear hy1002
           by_cases c31 : 0 ≤ x14_1
           ·rw [if_pos c31] at H; have c31b0 : decide (0 ≤ x14_1) = true := decide_eq_true c31; clear c31
            by_cases c32 : x14_1 < (l0.length : Int)
            ·rw [if_pos c32] at H; have c32b0 : decide (x14_1 < (l0.length : Int)) = true := decide_eq_true c32; clear c32; have H' := Aside0.mk H; clear H
             try go_wp2
             replace HO_12 := Aside0.mk (Kd.R_drew HO_12.out); replace BK970 := Aside0.mk (blk_drew BK970.out); replace HB := Aside0.mk (below_drew1 HB.out); refine start_ (n := 17) (S := fun w' => w'.cell? ⟨gb970, 0, none⟩ = some (.int .i64 (wrap64 ((ji9) - (ji7)))) ∧ w'.cell? ⟨gb970, 1, none⟩ = some (.int .i64 ((rd_T77 l0 x14_1).f1)) ∧ w'.cell? ⟨gb970, 2, none⟩ = some (.int .i64 ((rd_T77 l0 x14_1).f2)) ∧ w'.cell? ⟨gb970, 3, none⟩ = some (.int .i64 ((rd_T77 l0 x14_1).f3))) (ds := []) (bs 17 0) (by kernel_rfl) rfl rfl ⟨ct BK970 0, ct BK970 1, ct BK970 2, ct BK970 3⟩ (fun hHeld => ?_)
             generalize wc.drew = w33 at HO_12 BK970 HB hHeld ⊢; refine zP 1 64 17 2 ?_; refine zP 2 65 17 6 ?_; refine zP 3 66 17 14 ?_; refine zP 4 67 17 30 ?_; refine zP 5 68 17 62 ?_; refine zP 8 71 17 318 ?_; refine zT 0 63 17 319 hHeld ?_; refine zN 6 (some 69) 17 383 (fun K hK => ?_); refine goes_ Try.func68 (by kernel_rfl) rfl #[.int .i64 (wrap64 (ji7 - x13_1)), .int .i64 a1] (by rfl) rfl rfl (by (try simp only [List.map_toArray, List.map_cons, List.map_nil]); first | done | (simp only [hji7]; rfl) | rfl | (simp only [List.length_drop, List.length_take]; rfl)) ?_
             with_reducible refine (dioramaref10_ratio.calls kj10 (wrap64 (ji7 - x13_1)) a1 t972 t973 t976 _ A24.out).mono ?_
             rintro e w34 ⟨v974, v977, rfl, ho0, ho1, hb⟩; refine ⟨_, rfl, ?_⟩; replace HO_12 := Aside0.mk (Kd.R_below (rz HO_12) hb); have HO975 := Aside0.mk (Kd.R_lower ho0 sz); have HO978 := Aside0.mk (Kd.R_lower ho1 sz); replace BK970 := kb BK970 hb; replace HB := bp hb; clear hb ho0 ho1; obtain ⟨Ao35, co35, eo35⟩ := Kd.R_slice HO975.out
             (first | subst eo35 | (injection eo35 with f1_ f2_ f3_; have f4_ := f1_.symm; have f5_ := f3_.symm; clear f1_ f2_ f3_; subst f4_; subst f5_))
             obtain ⟨Ao36, co36, eo36⟩ := Kd.R_slice HO978.out
             (first | subst eo36 | (injection eo36 with f1_ f2_ f3_; have f4_ := f1_.symm; have f5_ := f3_.symm; clear f1_ f2_ f3_; subst f4_; subst f5_))
             refine hK.out _ _ ⟨ct BK970 0, ct BK970 1, ct BK970 2, ct BK970 3⟩ (fun hHeld => ?_); clear hK K; refine zM 69 ?_; refine zN 7 (some 70) 17 511 (fun K hK => ?_); refine goes_ Try.func88 (by kernel_rfl) rfl #[.agg #[.int .i64 (wrap64 ((ji9) - (ji7))), .int .i64 ((rd_T77 l0 x14_1).f1), .int .i64 ((rd_T77 l0 x14_1).f2), .int .i64 ((rd_T77 l0 x14_1).f3)], .int .i64 a2, .agg #[.bool t972, .slice Ao35 t973.length co35, .slice Ao36 t976.length co36]] (by rfl) rfl rfl (by (try simp only [List.map_toArray, List.map_cons, List.map_nil]); first | done | (simp only [hji7, hji9]; rfl) | rfl | (simp only [List.length_drop, List.length_take]; rfl)) ?_
             with_reducible refine (dioramaref10_media.calls kj10 (wrap64 ((ji9) - (ji7))) ((rd_T77 l0 x14_1).f1) ((rd_T77 l0 x14_1).f2) ((rd_T77 l0 x14_1).f3) a2 t972 _ _ t973 _ _ t976 t979 t980 t983 _ ?side1 ?side2 ?side3 ?side4 A25.out).mono ?_
             (case side1 => exact cr HO975)
             (case side2 => exact (Kd.R_reads' HO975.out).2.1)
             (case side3 => exact cr HO978)
             (case side4 => exact (Kd.R_reads' HO978.out).2.1)
             rintro e w37 ⟨v981, v984, rfl, ho0, ho1, hb⟩; refine ⟨_, rfl, ?_⟩; replace HO_12 := Aside0.mk (Kd.R_below (rz HO_12) hb); have HO982 := Aside0.mk (Kd.R_lower (Kd.R_new' (Kd.R_new' ho0 (Kd.R_lt (rz HO975))) (Kd.R_lt (rz HO978))) sz); have HO985 := Aside0.mk (Kd.R_lower (Kd.R_new' (Kd.R_new' ho1 (Kd.R_lt (rz HO975))) (Kd.R_lt (rz HO978))) sz); replace HO975 := Aside0.mk (Kd.R_mono (Kd.R_told (Kd.R_told (Kd.R_old (rz HO975) hb) (Kd.R_base ho0)) (Kd.R_base ho1)) (fun _ h_ => h_.1)); replace HO978 := Aside0.mk (Kd.R_mono (Kd.R_told (Kd.R_told (Kd.R_old (rz HO978) hb) (Kd.R_base ho0)) (Kd.R_base ho1)) (fun _ h_ => h_.1)); replace BK970 := kb BK970 hb; replace HB := bp hb; clear hb ho0 ho1; refine hK.out _ _ ⟨ct BK970 0, ct BK970 1, ct BK970 2, ct BK970 3⟩ (fun hHeld => ?_); clear hK K; refine zM 70 ?_; refine zN 9 (some 72) 17 1023 (fun K hK => ?_); refine zG Try.func68 #[.int .i64 a2, .int .i64 1] ?_
             with_reducible refine (dioramaref10_ratio.calls kj10 a2 1 t986 t987 t990 _ A26.out).mono ?_
             rintro e w38 ⟨v988, v991, rfl, ho0, ho1, hb⟩; refine ⟨_, rfl, ?_⟩; replace HO_12 := Aside0.mk (Kd.R_below (rz HO_12) hb); have HO989 := Aside0.mk (Kd.R_lower (Kd.R_new' (Kd.R_new' (Kd.R_new' (Kd.R_new' ho0 (Kd.R_lt (rz HO975))) (Kd.R_lt (rz HO978))) (Kd.R_lt (rz HO982))) (Kd.R_lt (rz HO985))) sz); have HO992 := Aside0.mk (Kd.R_lower (Kd.R_new' (Kd.R_new' (Kd.R_new' (Kd.R_new' ho1 (Kd.R_lt (rz HO975))) (Kd.R_lt (rz HO978))) (Kd.R_lt (rz HO982))) (Kd.R_lt (rz HO985))) sz); replace HO975 := Aside0.mk (Kd.R_mono (Kd.R_told (Kd.R_told (Kd.R_old (rz HO975) hb) (Kd.R_base ho0)) (Kd.R_base ho1)) (fun _ h_ => h_.1)); replace HO978 := Aside0.mk (Kd.R_mono (Kd.R_told (Kd.R_told (Kd.R_old (rz HO978) hb) (Kd.R_base ho0)) (Kd.R_base ho1)) (fun _ h_ => h_.1)); replace HO982 := Aside0.mk (Kd.R_mono (Kd.R_told (Kd.R_told (Kd.R_old (rz HO982) hb) (Kd.R_base ho0)) (Kd.R_base ho1)) (fun _ h_ => h_.1)); replace HO985 := Aside0.mk (Kd.R_mono (Kd.R_told (Kd.R_told (Kd.R_old (rz HO985) hb) (Kd.R_base ho0)) (Kd.R_base ho1)) (fun _ h_ => h_.1)); replace BK970 := kb BK970 hb; replace HB := bp hb; clear hb ho0 ho1; obtain ⟨Ao39, co39, eo39⟩ := Kd.R_slice HO982.out
             (first | subst eo39 | (injection eo39 with f1_ f2_ f3_; have f4_ := f1_.symm; have f5_ := f3_.symm; clear f1_ f2_ f3_; subst f4_; subst f5_))
             obtain ⟨Ao40, co40, eo40⟩ := Kd.R_slice HO985.out
             (first | subst eo40 | (injection eo40 with f1_ f2_ f3_; have f4_ := f1_.symm; have f5_ := f3_.symm; clear f1_ f2_ f3_; subst f4_; subst f5_))
             obtain ⟨Ao41, co41, eo41⟩ := Kd.R_slice HO989.out
             (first | subst eo41 | (injection eo41 with f1_ f2_ f3_; have f4_ := f1_.symm; have f5_ := f3_.symm; clear f1_ f2_ f3_; subst f4_; subst f5_))
             obtain ⟨Ao42, co42, eo42⟩ := Kd.R_slice HO992.out
             (first | subst eo42 | (injection eo42 with f1_ f2_ f3_; have f4_ := f1_.symm; have f5_ := f3_.symm; clear f1_ f2_ f3_; subst f4_; subst f5_))
             refine hK.out _ _ ⟨ct BK970 0, ct BK970 1, ct BK970 2, ct BK970 3⟩ (fun hHeld => ?_); clear hK K; refine zM 72 ?_; refine zN 10 (some 73) 17 2047 (fun K hK => ?_); refine zG Try.func73 #[.agg #[.bool t979, .slice Ao39 t980.length co39, .slice Ao40 t983.length co40], .agg #[.bool t986, .slice Ao41 t987.length co41, .slice Ao42 t990.length co42]] ?_
             with_reducible refine (dioramaref10_times.calls kj10 t979 _ _ t980 _ _ t983 t986 _ _ t987 _ _ t990 t993 t994 t997 _ ?side1 ?side2 ?side3 ?side4 ?side5 ?side6 ?side7 ?side8 A27.out).mono ?_
             (case side1 => exact cr HO982)
             (case side2 => exact (Kd.R_reads' HO982.out).2.1)
             (case side3 => exact cr HO985)
             (case side4 => exact (Kd.R_reads' HO985.out).2.1)
             (case side5 => exact cr HO989)
             (case side6 => exact (Kd.R_reads' HO989.out).2.1)
             (case side7 => exact cr HO992)
             (case side8 => exact (Kd.R_reads' HO992.out).2.1)
             rintro e w43 ⟨v995, v998, rfl, ho0, ho1, hb⟩; refine ⟨_, rfl, ?_⟩; replace HO_12 := Aside0.mk (Kd.R_below (rz HO_12) hb); have HO996 := Aside0.mk (Kd.R_lower (Kd.R_new' (Kd.R_new' (Kd.R_new' (Kd.R_new' (Kd.R_new' (Kd.R_new' ho0 (Kd.R_lt (rz HO975))) (Kd.R_lt (rz HO978))) (Kd.R_lt (rz HO982))) (Kd.R_lt (rz HO985))) (Kd.R_lt (rz HO989))) (Kd.R_lt (rz HO992))) sz); have HO999 := Aside0.mk (Kd.R_lower (Kd.R_new' (Kd.R_new' (Kd.R_new' (Kd.R_new' (Kd.R_new' (Kd.R_new' ho1 (Kd.R_lt (rz HO975))) (Kd.R_lt (rz HO978))) (Kd.R_lt (rz HO982))) (Kd.R_lt (rz HO985))) (Kd.R_lt (rz HO989))) (Kd.R_lt (rz HO992))) sz); replace HO975 := Aside0.mk (Kd.R_mono (Kd.R_told (Kd.R_told (Kd.R_old (rz HO975) hb) (Kd.R_base ho0)) (Kd.R_base ho1)) (fun _ h_ => h_.1)); replace HO978 := Aside0.mk (Kd.R_mono (Kd.R_told (Kd.R_told (Kd.R_old (rz HO978) hb) (Kd.R_base ho0)) (Kd.R_base ho1)) (fun _ h_ => h_.1)); replace HO982 := Aside0.mk (Kd.R_mono (Kd.R_told (Kd.R_told (Kd.R_old (rz HO982) hb) (Kd.R_base ho0)) (Kd.R_base ho1)) (fun _ h_ => h_.1)); replace HO985 := Aside0.mk (Kd.R_mono (Kd.R_told (Kd.R_told (Kd.R_old (rz HO985) hb) (Kd.R_base ho0)) (Kd.R_base ho1)) (fun _ h_ => h_.1)); replace HO989 := Aside0.mk (Kd.R_mono (Kd.R_told (Kd.R_told (Kd.R_old (rz HO989) hb) (Kd.R_base ho0)) (Kd.R_base ho1)) (fun _ h_ => h_.1)); replace HO992 := Aside0.mk (Kd.R_mono (Kd.R_told (Kd.R_told (Kd.R_old (rz HO992) hb) (Kd.R_base ho0)) (Kd.R_base ho1)) (fun _ h_ => h_.1)); replace BK970 := kb BK970 hb; replace HB := bp hb; clear hb ho0 ho1; obtain ⟨Ao44, co44, eo44⟩ := Kd.R_slice HO996.out
             (first | subst eo44 | (injection eo44 with f1_ f2_ f3_; have f4_ := f1_.symm; have f5_ := f3_.symm; clear f1_ f2_ f3_; subst f4_; subst f5_))
             obtain ⟨Ao45, co45, eo45⟩ := Kd.R_slice HO999.out
             (first | subst eo45 | (injection eo45 with f1_ f2_ f3_; have f4_ := f1_.symm; have f5_ := f3_.symm; clear f1_ f2_ f3_; subst f4_; subst f5_))
             refine hK.out _ _ ⟨ct BK970 0, ct BK970 1, ct BK970 2, ct BK970 3⟩ (fun hHeld => ?_); clear hK K; refine zM 73 ?_; refine zN 11 (some 74) 17 4095 (fun K hK => ?_); refine zG Try.func72 #[.agg #[.bool t993, .slice Ao44 t994.length co44, .slice Ao45 t997.length co45]] ?_
             with_reducible refine (dioramaref10_whole.calls kj10 t993 _ _ t994 _ _ t997 t1000 t1001 _ ?side1 ?side2 ?side3 ?side4 A28.out).mono ?_
             (case side1 => exact cr HO996)
             (case side2 => exact (Kd.R_reads' HO996.out).2.1)
             (case side3 => exact cr HO999)
             (case side4 => exact (Kd.R_reads' HO999.out).2.1)
             rintro e w46 ⟨rfl, hb⟩; refine ⟨_, rfl, ?_⟩; replace HO_12 := Aside0.mk (Kd.R_below (rz HO_12) hb); replace HO975 := Aside0.mk (Kd.R_below (rz HO975) hb); replace HO978 := Aside0.mk (Kd.R_below (rz HO978) hb); replace HO982 := Aside0.mk (Kd.R_below (rz HO982) hb); replace HO985 := Aside0.mk (Kd.R_below (rz HO985) hb); replace HO989 := Aside0.mk (Kd.R_below (rz HO989) hb); replace HO992 := Aside0.mk (Kd.R_below (rz HO992) hb); replace HO996 := Aside0.mk (Kd.R_below (rz HO996) hb); replace HO999 := Aside0.mk (Kd.R_below (rz HO999) hb); replace BK970 := kb BK970 hb; replace HB := bp hb; clear hb; refine hK.out _ _ ⟨ct BK970 0, ct BK970 1, ct BK970 2, ct BK970 3⟩ (fun hHeld => ?_); clear hK K; refine zM 74 ?_; refine zP 12 62 17 8191 ?_; refine zP 13 75 17 16383 ?_; refine zP 14 76 17 32767 ?_; refine zP 15 18 17 65535 ?_; refine zP 16 19 17 131071 ?_; refine done_ (by kernel_rfl) ?_; obtain ⟨hcz47_0, hcz47_1, hcz47_2, hcz47_3, hfz47_0, hfz47_1, hfz47_2, hfz47_3⟩ := xc4 BK970
             try go_wp2_with (first | ((with_reducible refine gate_builtin (b := .append) (xs := #[.tmp 82, .tmp 84]) rfl ?_); at_builtin; refine Kd.R_append k77 (w0 := w) w.heap.size rfl (.tmp 82) (.tmp 84) 22 77 (.agg #[(.int .i64 0), (.int .i64 0), (.int .i64 0), (.int .i64 0)]) 32 rfl Try.underlying22 info77 rfl (by decide) (by omega) u12 x12_1 (⟨(wrap64 ((ji9) - (ji7))), t1000, ((rd_T77 l0 x14_1).f2), ((rd_T77 l0 x14_1).f3)⟩ : S77) [.int .i64 (wrap64 ((ji9) - (ji7))), .int .i64 t1000, .int .i64 ((rd_T77 l0 x14_1).f2), .int .i64 ((rd_T77 l0 x14_1).f3)] (fun k_ => k_ ≠ gb970) (fun _ => False) rfl (by first | (go_simp; done) | (go_simp; rfl)) ?aP (fun _ hk => hk.elim) ?aF ?aO ?aB ?aS ?aL ?_; (case aP => exact k77_mkM _ _ _ (⟨(wrap64 ((ji9) - (ji7))), t1000, ((rd_T77 l0 x14_1).f2), ((rd_T77 l0 x14_1).f3)⟩ : S77)); (case aB => exact bz); (case aF => exact (fun k_ hk => Kd.freshB (g := gb970) (o := .cells #[.int .i64 (wrap64 ((ji9) - (ji7))), .int .i64 t1000, .int .i64 ((rd_T77 l0 x14_1).f2), .int .i64 ((rd_T77 l0 x14_1).f3)] 77 (0, 0)) (by (with_reducible repeat (first | refine blk_drewN ?_ _ | refine blk_drew ?_ | refine blk_alloc ?_ _)); refine blk_put (cs := #[.int .i64 (wrap64 ((ji9) - (ji7))), .int .i64 ((rd_T77 l0 x14_1).f1), .int .i64 ((rd_T77 l0 x14_1).f2), .int .i64 ((rd_T77 l0 x14_1).f3)]) ?_ 1 _ rfl; (with_reducible repeat (first | refine blk_drewN ?_ _ | refine blk_drew ?_ | refine blk_alloc ?_ _)); exact BK970.out) k_ hk)); (case aO => exact (by (with_reducible repeat (first | apply Kd.R_alloc | apply Kd.R_drewN | apply Kd.R_drew)); exact Kd.R_mono (Kd.R_far (p := ⟨gb970, 1, none⟩) (Kd.R_mono HO_12.out (fun k_ hk => (⟨hk, hk⟩ : _ ∧ k_ ≠ gb970))) (fun _ hk => hk.2) (.int .i64 t1000)) (fun _ hk => hk.1))); (case aS => exact sz); (case aL => have := LMc30.out; omega); intro v1003 w48 ho hb hg hat; rw [← Ny1002.out] at ho; replace HO975 := Aside0.mk (Kd.R_over' (by (with_reducible repeat (first | apply Kd.R_alloc | apply Kd.R_drewN | apply Kd.R_drew)); exact (Kd.R_mono (Kd.R_far (p := ⟨gb970, 1, none⟩) (Kd.R_types HO975.out BK970.out (by decide)) (fun _ hk => hk.2) (.int .i64 t1000)) (fun _ h_ => h_.1))) (Kd.R_typed (by (with_reducible repeat (first | apply Kd.R_alloc | apply Kd.R_drewN | apply Kd.R_drew)); exact (Kd.R_mono (Kd.R_far (p := ⟨gb970, 1, none⟩) (Kd.R_mono HO_12.out (fun k_ hk => (⟨hk, hk⟩ : _ ∧ k_ ≠ gb970))) (fun _ hk => hk.2) (.int .i64 t1000)) (fun _ h_ => h_.1)))) (by decide) hg); replace HO978 := Aside0.mk (Kd.R_over' (by (with_reducible repeat (first | apply Kd.R_alloc | apply Kd.R_drewN | apply Kd.R_drew)); exact (Kd.R_mono (Kd.R_far (p := ⟨gb970, 1, none⟩) (Kd.R_types HO978.out BK970.out (by decide)) (fun _ hk => hk.2) (.int .i64 t1000)) (fun _ h_ => h_.1))) (Kd.R_typed (by (with_reducible repeat (first | apply Kd.R_alloc | apply Kd.R_drewN | apply Kd.R_drew)); exact (Kd.R_mono (Kd.R_far (p := ⟨gb970, 1, none⟩) (Kd.R_mono HO_12.out (fun k_ hk => (⟨hk, hk⟩ : _ ∧ k_ ≠ gb970))) (fun _ hk => hk.2) (.int .i64 t1000)) (fun _ h_ => h_.1)))) (by decide) hg); replace HO982 := Aside0.mk (Kd.R_over' (by (with_reducible repeat (first | apply Kd.R_alloc | apply Kd.R_drewN | apply Kd.R_drew)); exact (Kd.R_mono (Kd.R_far (p := ⟨gb970, 1, none⟩) (Kd.R_types HO982.out BK970.out (by decide)) (fun _ hk => hk.2) (.int .i64 t1000)) (fun _ h_ => h_.1))) (Kd.R_typed (by (with_reducible repeat (first | apply Kd.R_alloc | apply Kd.R_drewN | apply Kd.R_drew)); exact (Kd.R_mono (Kd.R_far (p := ⟨gb970, 1, none⟩) (Kd.R_mono HO_12.out (fun k_ hk => (⟨hk, hk⟩ : _ ∧ k_ ≠ gb970))) (fun _ hk => hk.2) (.int .i64 t1000)) (fun _ h_ => h_.1)))) (by decide) hg); replace HO985 := Aside0.mk (Kd.R_over' (by (with_reducible repeat (first | apply Kd.R_alloc | apply Kd.R_drewN | apply Kd.R_drew)); exact (Kd.R_mono (Kd.R_far (p := ⟨gb970, 1, none⟩) (Kd.R_types HO985.out BK970.out (by decide)) (fun _ hk => hk.2) (.int .i64 t1000)) (fun _ h_ => h_.1))) (Kd.R_typed (by (with_reducible repeat (first | apply Kd.R_alloc | apply Kd.R_drewN | apply Kd.R_drew)); exact (Kd.R_mono (Kd.R_far (p := ⟨gb970, 1, none⟩) (Kd.R_mono HO_12.out (fun k_ hk => (⟨hk, hk⟩ : _ ∧ k_ ≠ gb970))) (fun _ hk => hk.2) (.int .i64 t1000)) (fun _ h_ => h_.1)))) (by decide) hg); replace HO989 := Aside0.mk (Kd.R_over' (by (with_reducible repeat (first | apply Kd.R_alloc | apply Kd.R_drewN | apply Kd.R_drew)); exact (Kd.R_mono (Kd.R_far (p := ⟨gb970, 1, none⟩) (Kd.R_types HO989.out BK970.out (by decide)) (fun _ hk => hk.2) (.int .i64 t1000)) (fun _ h_ => h_.1))) (Kd.R_typed (by (with_reducible repeat (first | apply Kd.R_alloc | apply Kd.R_drewN | apply Kd.R_drew)); exact (Kd.R_mono (Kd.R_far (p := ⟨gb970, 1, none⟩) (Kd.R_mono HO_12.out (fun k_ hk => (⟨hk, hk⟩ : _ ∧ k_ ≠ gb970))) (fun _ hk => hk.2) (.int .i64 t1000)) (fun _ h_ => h_.1)))) (by decide) hg); replace HO992 := Aside0.mk (Kd.R_over' (by (with_reducible repeat (first | apply Kd.R_alloc | apply Kd.R_drewN | apply Kd.R_drew)); exact (Kd.R_mono (Kd.R_far (p := ⟨gb970, 1, none⟩) (Kd.R_types HO992.out BK970.out (by decide)) (fun _ hk => hk.2) (.int .i64 t1000)) (fun _ h_ => h_.1))) (Kd.R_typed (by (with_reducible repeat (first | apply Kd.R_alloc | apply Kd.R_drewN | apply Kd.R_drew)); exact (Kd.R_mono (Kd.R_far (p := ⟨gb970, 1, none⟩) (Kd.R_mono HO_12.out (fun k_ hk => (⟨hk, hk⟩ : _ ∧ k_ ≠ gb970))) (fun _ hk => hk.2) (.int .i64 t1000)) (fun _ h_ => h_.1)))) (by decide) hg); replace HO996 := Aside0.mk (Kd.R_over' (by (with_reducible repeat (first | apply Kd.R_alloc | apply Kd.R_drewN | apply Kd.R_drew)); exact (Kd.R_mono (Kd.R_far (p := ⟨gb970, 1, none⟩) (Kd.R_types HO996.out BK970.out (by decide)) (fun _ hk => hk.2) (.int .i64 t1000)) (fun _ h_ => h_.1))) (Kd.R_typed (by (with_reducible repeat (first | apply Kd.R_alloc | apply Kd.R_drewN | apply Kd.R_drew)); exact (Kd.R_mono (Kd.R_far (p := ⟨gb970, 1, none⟩) (Kd.R_mono HO_12.out (fun k_ hk => (⟨hk, hk⟩ : _ ∧ k_ ≠ gb970))) (fun _ hk => hk.2) (.int .i64 t1000)) (fun _ h_ => h_.1)))) (by decide) hg); replace HO999 := Aside0.mk (Kd.R_over' (by (with_reducible repeat (first | apply Kd.R_alloc | apply Kd.R_drewN | apply Kd.R_drew)); exact (Kd.R_mono (Kd.R_far (p := ⟨gb970, 1, none⟩) (Kd.R_types HO999.out BK970.out (by decide)) (fun _ hk => hk.2) (.int .i64 t1000)) (fun _ h_ => h_.1))) (Kd.R_typed (by (with_reducible repeat (first | apply Kd.R_alloc | apply Kd.R_drewN | apply Kd.R_drew)); exact (Kd.R_mono (Kd.R_far (p := ⟨gb970, 1, none⟩) (Kd.R_mono HO_12.out (fun k_ hk => (⟨hk, hk⟩ : _ ∧ k_ ≠ gb970))) (fun _ hk => hk.2) (.int .i64 t1000)) (fun _ h_ => h_.1)))) (by decide) hg); replace BK970 := Aside0.mk (blk_grown (g := gb970) (o := .cells #[.int .i64 (wrap64 ((ji9) - (ji7))), .int .i64 t1000, .int .i64 ((rd_T77 l0 x14_1).f2), .int .i64 ((rd_T77 l0 x14_1).f3)] 77 (0, 0)) (by (with_reducible repeat (first | refine blk_drewN ?_ _ | refine blk_drew ?_ | refine blk_alloc ?_ _)); refine blk_put (cs := #[.int .i64 (wrap64 ((ji9) - (ji7))), .int .i64 ((rd_T77 l0 x14_1).f1), .int .i64 ((rd_T77 l0 x14_1).f2), .int .i64 ((rd_T77 l0 x14_1).f3)]) ?_ 1 _ rfl; (with_reducible repeat (first | refine blk_drewN ?_ _ | refine blk_drew ?_ | refine blk_alloc ?_ _)); exact BK970.out) hg (Kd.R_away HO_12.out (fun _ hk => hk))); replace HB := Aside0.mk (hb); have HO1004 := Aside0.mk (ho); clear HO_12; clear ho hb hg hat; have p1005 : 0 ≤ (x14_1 : Int) := od; have q1005 : x14_1 < (l0.length : Int) := od; obtain ⟨ad1005, e1005, hx1005_0, hx1005_1, hx1005_2, hx1005_3⟩ := at_T77 HR0.out x14_1 p1005 q1005; obtain rfl : ad968 = ad1005 := (by injection e1005); replace hx1005_0 := cl HB hx1005_0; replace hx1005_1 := cl HB hx1005_1; replace hx1005_2 := cl HB hx1005_2; replace hx1005_3 := cl HB hx1005_3; replace p1005 := eq_true p1005; replace q1005 := eq_true q1005))
             go_roundg kj10
             case measure => have := HK1.out; have := HJ10.out; omega
             case rel => exact ⟨(y1002), (wrap64 (x13_1 + ((rd_T77 l0 x14_1).f0))), (wrap64 (x14_1 + 1)), jz, jz, H', ⟨by have := HK1.out; have := HJ10.out; omega⟩, ⟨by (with_reducible repeat (first | apply Kd.R_alloc | apply Kd.R_drewN | apply Kd.R_drew)); exact Kd.R_mono HO1004.out (fun _ hk => trivial)⟩, ⟨bz⟩⟩
            ·rw [if_neg c32] at H
             exact absurd H (by simp)
           ·rw [if_neg c31] at H
            exact absurd H (by simp)
          ·rw [if_neg c30] at H
           exact absurd H (by simp)
         ·rw [if_neg c29] at H; have c29b0 : (t1001 == 0) = false := beq_eq_false_iff_ne.mpr c29; have c29b1 : (t1001 != 0) = true := bne_iff_ne.mpr c29; simp only [Option.some.injEq, Prod.mk.injEq] at H; obtain ⟨rfl, rfl⟩ := H
          try go_wp2
          replace HO_12 := Aside0.mk (Kd.R_drew HO_12.out); replace BK970 := Aside0.mk (blk_drew BK970.out); replace HB := Aside0.mk (below_drew1 HB.out); refine start_ (n := 17) (S := fun w' => w'.cell? ⟨gb970, 0, none⟩ = some (.int .i64 (wrap64 ((ji9) - (ji7)))) ∧ w'.cell? ⟨gb970, 1, none⟩ = some (.int .i64 ((rd_T77 l0 x14_1).f1)) ∧ w'.cell? ⟨gb970, 2, none⟩ = some (.int .i64 ((rd_T77 l0 x14_1).f2)) ∧ w'.cell? ⟨gb970, 3, none⟩ = some (.int .i64 ((rd_T77 l0 x14_1).f3))) (ds := []) (bs 17 0) (by kernel_rfl) rfl rfl ⟨ct BK970 0, ct BK970 1, ct BK970 2, ct BK970 3⟩ (fun hHeld => ?_)
          generalize wc.drew = w49 at HO_12 BK970 HB hHeld ⊢; refine zP 1 64 17 2 ?_; refine zP 2 65 17 6 ?_; refine zP 3 66 17 14 ?_; refine zP 4 67 17 30 ?_; refine zP 5 68 17 62 ?_; refine zP 8 71 17 318 ?_; refine zT 0 63 17 319 hHeld ?_; refine zN 6 (some 69) 17 383 (fun K hK => ?_); refine goes_ Try.func68 (by kernel_rfl) rfl #[.int .i64 (wrap64 (ji7 - x13_1)), .int .i64 a1] (by rfl) rfl rfl (by (try simp only [List.map_toArray, List.map_cons, List.map_nil]); first | done | (simp only [hji7]; rfl) | rfl | (simp only [List.length_drop, List.length_take]; rfl)) ?_
          with_reducible refine (dioramaref10_ratio.calls kj10 (wrap64 (ji7 - x13_1)) a1 t972 t973 t976 _ A24.out).mono ?_
          rintro e w50 ⟨v974, v977, rfl, ho0, ho1, hb⟩; refine ⟨_, rfl, ?_⟩; replace HO_12 := Aside0.mk (Kd.R_below (rz HO_12) hb); have HO975 := Aside0.mk (Kd.R_lower ho0 sz); have HO978 := Aside0.mk (Kd.R_lower ho1 sz); replace BK970 := kb BK970 hb; replace HB := bp hb; clear hb ho0 ho1; obtain ⟨Ao51, co51, eo51⟩ := Kd.R_slice HO975.out
          (first | subst eo51 | (injection eo51 with f1_ f2_ f3_; have f4_ := f1_.symm; have f5_ := f3_.symm; clear f1_ f2_ f3_; subst f4_; subst f5_))
          obtain ⟨Ao52, co52, eo52⟩ := Kd.R_slice HO978.out
          (first | subst eo52 | (injection eo52 with f1_ f2_ f3_; have f4_ := f1_.symm; have f5_ := f3_.symm; clear f1_ f2_ f3_; subst f4_; subst f5_))
          refine hK.out _ _ ⟨ct BK970 0, ct BK970 1, ct BK970 2, ct BK970 3⟩ (fun hHeld => ?_); clear hK K; refine zM 69 ?_; refine zN 7 (some 70) 17 511 (fun K hK => ?_); refine goes_ Try.func88 (by kernel_rfl) rfl #[.agg #[.int .i64 (wrap64 ((ji9) - (ji7))), .int .i64 ((rd_T77 l0 x14_1).f1), .int .i64 ((rd_T77 l0 x14_1).f2), .int .i64 ((rd_T77 l0 x14_1).f3)], .int .i64 a2, .agg #[.bool t972, .slice Ao51 t973.length co51, .slice Ao52 t976.length co52]] (by rfl) rfl rfl (by (try simp only [List.map_toArray, List.map_cons, List.map_nil]); first | done | (simp only [hji7, hji9]; rfl) | rfl | (simp only [List.length_drop, List.length_take]; rfl)) ?_
          with_reducible refine (dioramaref10_media.calls kj10 (wrap64 ((ji9) - (ji7))) ((rd_T77 l0 x14_1).f1) ((rd_T77 l0 x14_1).f2) ((rd_T77 l0 x14_1).f3) a2 t972 _ _ t973 _ _ t976 t979 t980 t983 _ ?side1 ?side2 ?side3 ?side4 A25.out).mono ?_
          (case side1 => exact cr HO975)
          (case side2 => exact (Kd.R_reads' HO975.out).2.1)
          (case side3 => exact cr HO978)
          (case side4 => exact (Kd.R_reads' HO978.out).2.1)
          rintro e w53 ⟨v981, v984, rfl, ho0, ho1, hb⟩; refine ⟨_, rfl, ?_⟩; replace HO_12 := Aside0.mk (Kd.R_below (rz HO_12) hb); have HO982 := Aside0.mk (Kd.R_lower (Kd.R_new' (Kd.R_new' ho0 (Kd.R_lt (rz HO975))) (Kd.R_lt (rz HO978))) sz); have HO985 := Aside0.mk (Kd.R_lower (Kd.R_new' (Kd.R_new' ho1 (Kd.R_lt (rz HO975))) (Kd.R_lt (rz HO978))) sz); replace HO975 := Aside0.mk (Kd.R_mono (Kd.R_told (Kd.R_told (Kd.R_old (rz HO975) hb) (Kd.R_base ho0)) (Kd.R_base ho1)) (fun _ h_ => h_.1)); replace HO978 := Aside0.mk (Kd.R_mono (Kd.R_told (Kd.R_told (Kd.R_old (rz HO978) hb) (Kd.R_base ho0)) (Kd.R_base ho1)) (fun _ h_ => h_.1)); replace BK970 := kb BK970 hb; replace HB := bp hb; clear hb ho0 ho1; refine hK.out _ _ ⟨ct BK970 0, ct BK970 1, ct BK970 2, ct BK970 3⟩ (fun hHeld => ?_); clear hK K; refine zM 70 ?_; refine zN 9 (some 72) 17 1023 (fun K hK => ?_); refine zG Try.func68 #[.int .i64 a2, .int .i64 1] ?_
          with_reducible refine (dioramaref10_ratio.calls kj10 a2 1 t986 t987 t990 _ A26.out).mono ?_
          rintro e w54 ⟨v988, v991, rfl, ho0, ho1, hb⟩; refine ⟨_, rfl, ?_⟩; replace HO_12 := Aside0.mk (Kd.R_below (rz HO_12) hb); have HO989 := Aside0.mk (Kd.R_lower (Kd.R_new' (Kd.R_new' (Kd.R_new' (Kd.R_new' ho0 (Kd.R_lt (rz HO975))) (Kd.R_lt (rz HO978))) (Kd.R_lt (rz HO982))) (Kd.R_lt (rz HO985))) sz); have HO992 := Aside0.mk (Kd.R_lower (Kd.R_new' (Kd.R_new' (Kd.R_new' (Kd.R_new' ho1 (Kd.R_lt (rz HO975))) (Kd.R_lt (rz HO978))) (Kd.R_lt (rz HO982))) (Kd.R_lt (rz HO985))) sz); replace HO975 := Aside0.mk (Kd.R_mono (Kd.R_told (Kd.R_told (Kd.R_old (rz HO975) hb) (Kd.R_base ho0)) (Kd.R_base ho1)) (fun _ h_ => h_.1)); replace HO978 := Aside0.mk (Kd.R_mono (Kd.R_told (Kd.R_told (Kd.R_old (rz HO978) hb) (Kd.R_base ho0)) (Kd.R_base ho1)) (fun _ h_ => h_.1)); replace HO982 := Aside0.mk (Kd.R_mono (Kd.R_told (Kd.R_told (Kd.R_old (rz HO982) hb) (Kd.R_base ho0)) (Kd.R_base ho1)) (fun _ h_ => h_.1)); replace HO985 := Aside0.mk (Kd.R_mono (Kd.R_told (Kd.R_told (Kd.R_old (rz HO985) hb) (Kd.R_base ho0)) (Kd.R_base ho1)) (fun _ h_ => h_.1)); replace BK970 := kb BK970 hb; replace HB := bp hb; clear hb ho0 ho1; obtain ⟨Ao55, co55, eo55⟩ := Kd.R_slice HO982.out
          (first | subst eo55 | (injection eo55 with f1_ f2_ f3_; have f4_ := f1_.symm; have f5_ := f3_.symm; clear f1_ f2_ f3_; subst f4_; subst f5_))
          obtain ⟨Ao56, co56, eo56⟩ := Kd.R_slice HO985.out
          (first | subst eo56 | (injection eo56 with f1_ f2_ f3_; have f4_ := f1_.symm; have f5_ := f3_.symm; clear f1_ f2_ f3_; subst f4_; subst f5_))
          obtain ⟨Ao57, co57, eo57⟩ := Kd.R_slice HO989.out
          (first | subst eo57 | (injection eo57 with f1_ f2_ f3_; have f4_ := f1_.symm; have f5_ := f3_.symm; clear f1_ f2_ f3_; subst f4_; subst f5_))
          obtain ⟨Ao58, co58, eo58⟩ := Kd.R_slice HO992.out
          (first | subst eo58 | (injection eo58 with f1_ f2_ f3_; have f4_ := f1_.symm; have f5_ := f3_.symm; clear f1_ f2_ f3_; subst f4_; subst f5_))
          refine hK.out _ _ ⟨ct BK970 0, ct BK970 1, ct BK970 2, ct BK970 3⟩ (fun hHeld => ?_); clear hK K; refine zM 72 ?_; refine zN 10 (some 73) 17 2047 (fun K hK => ?_); refine zG Try.func73 #[.agg #[.bool t979, .slice Ao55 t980.length co55, .slice Ao56 t983.length co56], .agg #[.bool t986, .slice Ao57 t987.length co57, .slice Ao58 t990.length co58]] ?_
          with_reducible refine (dioramaref10_times.calls kj10 t979 _ _ t980 _ _ t983 t986 _ _ t987 _ _ t990 t993 t994 t997 _ ?side1 ?side2 ?side3 ?side4 ?side5 ?side6 ?side7 ?side8 A27.out).mono ?_
          (case side1 => exact cr HO982)
          (case side2 => exact (Kd.R_reads' HO982.out).2.1)
          (case side3 => exact cr HO985)
          (case side4 => exact (Kd.R_reads' HO985.out).2.1)
          (case side5 => exact cr HO989)
          (case side6 => exact (Kd.R_reads' HO989.out).2.1)
          (case side7 => exact cr HO992)
          (case side8 => exact (Kd.R_reads' HO992.out).2.1)
          rintro e w59 ⟨v995, v998, rfl, ho0, ho1, hb⟩; refine ⟨_, rfl, ?_⟩; replace HO_12 := Aside0.mk (Kd.R_below (rz HO_12) hb); have HO996 := Aside0.mk (Kd.R_lower (Kd.R_new' (Kd.R_new' (Kd.R_new' (Kd.R_new' (Kd.R_new' (Kd.R_new' ho0 (Kd.R_lt (rz HO975))) (Kd.R_lt (rz HO978))) (Kd.R_lt (rz HO982))) (Kd.R_lt (rz HO985))) (Kd.R_lt (rz HO989))) (Kd.R_lt (rz HO992))) sz); have HO999 := Aside0.mk (Kd.R_lower (Kd.R_new' (Kd.R_new' (Kd.R_new' (Kd.R_new' (Kd.R_new' (Kd.R_new' ho1 (Kd.R_lt (rz HO975))) (Kd.R_lt (rz HO978))) (Kd.R_lt (rz HO982))) (Kd.R_lt (rz HO985))) (Kd.R_lt (rz HO989))) (Kd.R_lt (rz HO992))) sz); replace HO975 := Aside0.mk (Kd.R_mono (Kd.R_told (Kd.R_told (Kd.R_old (rz HO975) hb) (Kd.R_base ho0)) (Kd.R_base ho1)) (fun _ h_ => h_.1)); replace HO978 := Aside0.mk (Kd.R_mono (Kd.R_told (Kd.R_told (Kd.R_old (rz HO978) hb) (Kd.R_base ho0)) (Kd.R_base ho1)) (fun _ h_ => h_.1)); replace HO982 := Aside0.mk (Kd.R_mono (Kd.R_told (Kd.R_told (Kd.R_old (rz HO982) hb) (Kd.R_base ho0)) (Kd.R_base ho1)) (fun _ h_ => h_.1)); replace HO985 := Aside0.mk (Kd.R_mono (Kd.R_told (Kd.R_told (Kd.R_old (rz HO985) hb) (Kd.R_base ho0)) (Kd.R_base ho1)) (fun _ h_ => h_.1)); replace HO989 := Aside0.mk (Kd.R_mono (Kd.R_told (Kd.R_told (Kd.R_old (rz HO989) hb) (Kd.R_base ho0)) (Kd.R_base ho1)) (fun _ h_ => h_.1)); replace HO992 := Aside0.mk (Kd.R_mono (Kd.R_told (Kd.R_told (Kd.R_old (rz HO992) hb) (Kd.R_base ho0)) (Kd.R_base ho1)) (fun _ h_ => h_.1)); replace BK970 := kb BK970 hb; replace HB := bp hb; clear hb ho0 ho1; obtain ⟨Ao60, co60, eo60⟩ := Kd.R_slice HO996.out
          (first | subst eo60 | (injection eo60 with f1_ f2_ f3_; have f4_ := f1_.symm; have f5_ := f3_.symm; clear f1_ f2_ f3_; subst f4_; subst f5_))
          obtain ⟨Ao61, co61, eo61⟩ := Kd.R_slice HO999.out
          (first | subst eo61 | (injection eo61 with f1_ f2_ f3_; have f4_ := f1_.symm; have f5_ := f3_.symm; clear f1_ f2_ f3_; subst f4_; subst f5_))
          refine hK.out _ _ ⟨ct BK970 0, ct BK970 1, ct BK970 2, ct BK970 3⟩ (fun hHeld => ?_); clear hK K; refine zM 73 ?_; refine zN 11 (some 74) 17 4095 (fun K hK => ?_); refine zG Try.func72 #[.agg #[.bool t993, .slice Ao60 t994.length co60, .slice Ao61 t997.length co61]] ?_
          with_reducible refine (dioramaref10_whole.calls kj10 t993 _ _ t994 _ _ t997 t1000 t1001 _ ?side1 ?side2 ?side3 ?side4 A28.out).mono ?_
          (case side1 => exact cr HO996)
          (case side2 => exact (Kd.R_reads' HO996.out).2.1)
          (case side3 => exact cr HO999)
          (case side4 => exact (Kd.R_reads' HO999.out).2.1)
          rintro e w62 ⟨rfl, hb⟩; refine ⟨_, rfl, ?_⟩; replace HO_12 := Aside0.mk (Kd.R_below (rz HO_12) hb); replace HO975 := Aside0.mk (Kd.R_below (rz HO975) hb); replace HO978 := Aside0.mk (Kd.R_below (rz HO978) hb); replace HO982 := Aside0.mk (Kd.R_below (rz HO982) hb); replace HO985 := Aside0.mk (Kd.R_below (rz HO985) hb); replace HO989 := Aside0.mk (Kd.R_below (rz HO989) hb); replace HO992 := Aside0.mk (Kd.R_below (rz HO992) hb); replace HO996 := Aside0.mk (Kd.R_below (rz HO996) hb); replace HO999 := Aside0.mk (Kd.R_below (rz HO999) hb); replace BK970 := kb BK970 hb; replace HB := bp hb; clear hb; refine hK.out _ _ ⟨ct BK970 0, ct BK970 1, ct BK970 2, ct BK970 3⟩ (fun hHeld => ?_); clear hK K; refine zM 74 ?_; refine zP 12 62 17 8191 ?_; refine zP 13 75 17 16383 ?_; refine zP 14 76 17 32767 ?_; refine zP 15 18 17 65535 ?_; refine zP 16 19 17 131071 ?_; refine done_ (by kernel_rfl) ?_
          try go_wp2
          go_ret2
          exact ⟨_, by first | rfl | (simp [errW_none, errW_some] <;> rfl) | (simp only [← hji7, ← hji9]; first | rfl | (simp [errW_none, errW_some] <;> rfl)) | (simp [*, errW_none, errW_some] <;> rfl), by first | exact Kd.R_nil _ _ _ _ _ | exact Kd.N_nil _ _ _ _ _ | exact Kd.V_nil _ _ _ _ _ | exact Kd.Q_nil _ _ _ _ _ | exact Kd.S_nil _ _ _ _ _, bz⟩
        ·obtain rfl := bf c23; rw [if_neg (show ¬ (false = true) by decide)] at H
         by_cases c63 : x12_1.length < 4398046511104
         ·rw [if_pos c63] at H; have LMc63 := Aside0.mk c63; clear c63; obtain ⟨y1006, hy1006⟩ : ∃ y_ : List (S77), y_ = (x12_1 ++ [(⟨(wrap64 ((ji9) - (ji7))), ((rd_T77 l0 x14_1).f1), ((rd_T77 l0 x14_1).f2), ((rd_T77 l0 x14_1).f3)⟩ : S77)]) := ⟨_, rfl⟩; replace H : (if 0 ≤ x14_1 then (if x14_1 < (l0.length : Int) then (dioramaref10_cut.l0 kj10 l0 a1 a2 a3 a4 y1006 (wrap64 (x13_1 + ((rd_T77 l0 x14_1).f0))) (wrap64 (x14_1 + 1))) else (none)) else (none)) = some (r1, r2) := by first | (rw [hy1006]; with_reducible exact H) | (have H2_ := (Option.bind_some _ _).symm.trans H; rw [hy1006]; with_reducible exact H2_) | (have H2_ := (Option.bind_some _ _).symm.trans H; with_reducible exact H2_) | with_reducible exact H | (rw [hy1006]; exact H) | exact H
          have Ny1006 := Aside0.mk hy1006; clear hy1006
          by_cases c64 : 0 ≤ x14_1
          ·rw [if_pos c64] at H; have c64b0 : decide (0 ≤ x14_1) = true := decide_eq_true c64; clear c64
           by_cases c65 : x14_1 < (l0.length : Int)
           ·rw [if_pos c65] at H; have c65b0 : decide (x14_1 < (l0.length : Int)) = true := decide_eq_true c65; clear c65; have H' := Aside0.mk H; clear H; obtain ⟨hcz66_0, hcz66_1, hcz66_2, hcz66_3, hfz66_0, hfz66_1, hfz66_2, hfz66_3⟩ := xc4 BK970
            go_wp2_with (first | ((with_reducible refine gate_builtin (b := .append) (xs := #[.tmp 82, .tmp 84]) rfl ?_); at_builtin; refine Kd.R_append k77 (w0 := w) w.heap.size rfl (.tmp 82) (.tmp 84) 22 77 (.agg #[(.int .i64 0), (.int .i64 0), (.int .i64 0), (.int .i64 0)]) 32 rfl Try.underlying22 info77 rfl (by decide) (by omega) u12 x12_1 (⟨(wrap64 ((ji9) - (ji7))), ((rd_T77 l0 x14_1).f1), ((rd_T77 l0 x14_1).f2), ((rd_T77 l0 x14_1).f3)⟩ : S77) [.int .i64 (wrap64 ((ji9) - (ji7))), .int .i64 ((rd_T77 l0 x14_1).f1), .int .i64 ((rd_T77 l0 x14_1).f2), .int .i64 ((rd_T77 l0 x14_1).f3)] (fun k_ => k_ ≠ gb970) (fun _ => False) rfl rfl ?aP (fun _ hk => hk.elim) ?aF ?aO ?aB ?aS ?aL ?_; (case aP => exact k77_mkM _ _ _ (⟨(wrap64 ((ji9) - (ji7))), ((rd_T77 l0 x14_1).f1), ((rd_T77 l0 x14_1).f2), ((rd_T77 l0 x14_1).f3)⟩ : S77)); (case aB => exact bz); (case aF => exact (fun k_ hk => Kd.freshB (g := gb970) (o := .cells #[.int .i64 (wrap64 ((ji9) - (ji7))), .int .i64 ((rd_T77 l0 x14_1).f1), .int .i64 ((rd_T77 l0 x14_1).f2), .int .i64 ((rd_T77 l0 x14_1).f3)] 77 (0, 0)) kz k_ hk)); (case aO => exact (rz HO_12)); (case aS => exact sz); (case aL => have := LMc63.out; omega); intro v1007 w67 ho hb hg hat; rw [← Ny1006.out] at ho; replace BK970 := Aside0.mk (blk_grown (g := gb970) (o := .cells #[.int .i64 (wrap64 ((ji9) - (ji7))), .int .i64 ((rd_T77 l0 x14_1).f1), .int .i64 ((rd_T77 l0 x14_1).f2), .int .i64 ((rd_T77 l0 x14_1).f3)] 77 (0, 0)) kz hg (Kd.R_away HO_12.out (fun _ hk => hk))); replace HB := Aside0.mk (hb); have HO1008 := Aside0.mk (ho); clear HO_12; clear ho hb hg hat; have p1009 : 0 ≤ (x14_1 : Int) := od; have q1009 : x14_1 < (l0.length : Int) := od; obtain ⟨ad1009, e1009, hx1009_0, hx1009_1, hx1009_2, hx1009_3⟩ := at_T77 HR0.out x14_1 p1009 q1009; obtain rfl : ad968 = ad1009 := (by injection e1009); replace hx1009_0 := cl HB hx1009_0; replace hx1009_1 := cl HB hx1009_1; replace hx1009_2 := cl HB hx1009_2; replace hx1009_3 := cl HB hx1009_3; replace p1009 := eq_true p1009; replace q1009 := eq_true q1009))
            go_roundg kj10
            case measure => have := HK1.out; have := HJ10.out; omega
            case rel => exact ⟨(y1006), (wrap64 (x13_1 + ((rd_T77 l0 x14_1).f0))), (wrap64 (x14_1 + 1)), jz, jz, H', ⟨by have := HK1.out; have := HJ10.out; omega⟩, ⟨by (with_reducible repeat (first | apply Kd.R_alloc | apply Kd.R_drewN | apply Kd.R_drew)); exact Kd.R_mono HO1008.out (fun _ hk => trivial)⟩, ⟨bz⟩⟩
           ·rw [if_neg c65] at H
            exact absurd H (by simp)
          ·rw [if_neg c64] at H
           exact absurd H (by simp)
         ·rw [if_neg c63] at H
          exact absurd H (by simp)
     ·rw [if_neg c10] at H; have c10b0 : decide ((ji7) < (ji9)) = false := decide_eq_false c10; clear c10; have H' := Aside0.mk H; clear H
      try go_wp2
      replace HO_12 := Aside0.mk (Kd.R_drew HO_12.out); replace HB := Aside0.mk (below_drew1 HB.out); have p968 : 0 ≤ (x14_1 : Int) := od; have q968 : x14_1 < (l0.length : Int) := od; obtain ⟨ad968, e968, hx968_0, hx968_1, hx968_2, hx968_3⟩ := at_T77 HR0.out x14_1 p968 q968; have hw968_3 := hx968_3; have hw968_2 := hx968_2; have hw968_1 := hx968_1; have hw968_0 := hx968_0
      cases e968
      replace hx968_0 := cl HB hx968_0; replace hx968_1 := cl HB hx968_1; replace hx968_2 := cl HB hx968_2; replace hx968_3 := cl HB hx968_3; replace p968 := eq_true p968; replace q968 := eq_true q968; refine start_ (n := 14) (S := fun w' => w'.cell? (ad968.add ((x14_1).toNat * 4)) = some (.int .i64 ((rd_T77 l0 x14_1).f0)) ∧ w'.cell? ⟨(ad968.add ((x14_1).toNat * 4)).block, (ad968.add ((x14_1).toNat * 4)).off + 1, none⟩ = some (.int .i64 ((rd_T77 l0 x14_1).f1)) ∧ w'.cell? ⟨(ad968.add ((x14_1).toNat * 4)).block, (ad968.add ((x14_1).toNat * 4)).off + 2, none⟩ = some (.int .i64 ((rd_T77 l0 x14_1).f2)) ∧ w'.cell? ⟨(ad968.add ((x14_1).toNat * 4)).block, (ad968.add ((x14_1).toNat * 4)).off + 3, none⟩ = some (.int .i64 ((rd_T77 l0 x14_1).f3))) (ds := []) (bs 14 0) (by kernel_rfl) rfl rfl ⟨(cl HB hw968_0), (cl HB hw968_1), (cl HB hw968_2), (cl HB hw968_3)⟩ (fun hHeld => ?_)
      generalize wr.drew = w68 at HO_12 HB hx968_0 hx968_1 hx968_2 hx968_3 hHeld ⊢; refine zP 0 26 14 1 ?_; refine zP 1 27 14 3 ?_; refine zP 2 28 14 7 ?_; refine zP 3 29 14 15 ?_; refine zP 4 30 14 31 ?_; refine zP 5 31 14 63 ?_; refine zP 6 32 14 127 ?_; refine zP 7 33 14 255 ?_; refine zP 10 36 14 1279 ?_; refine zP 12 15 14 5375 ?_; refine zT 8 34 14 5631 hHeld ?_; refine zP 9 35 14 6143 ?_; refine zP 11 37 14 8191 ?_; refine zP 13 16 14 16383 ?_; refine done_ (by kernel_rfl) ?_; have p969 : 0 ≤ (x14_1 : Int) := od; have q969 : x14_1 < (l0.length : Int) := od; obtain ⟨ad969, e969, hx969_0, hx969_1, hx969_2, hx969_3⟩ := at_T77 HR0.out x14_1 p969 q969; obtain rfl : ad968 = ad969 := (by injection e969); replace hx969_0 := cl HB hx969_0; replace hx969_1 := cl HB hx969_1; replace hx969_2 := cl HB hx969_2; replace hx969_3 := cl HB hx969_3; replace p969 := eq_true p969; replace q969 := eq_true q969
      try go_wp2_with (first | ((with_reducible refine gate_dst (N := 17) rfl ?_); refine zB 17 77 #[.int .i64 0, .int .i64 0, .int .i64 0, .int .i64 0] ?_; intro gb970 hg w69 hbox hb; replace HO_12 := Aside0.mk (Kd.R_below (Kd.R_elderB (rz HO_12) gb970 (Nat.le_of_eq hg.symm)) hb); have BK970 := Aside0.mk hbox; have GW970 := gz hg; have GE970 := gz hg; replace HB := bp hb; clear hb hbox hg; obtain ⟨hcz70_0, hcz70_1, hcz70_2, hcz70_3, hfz70_0, hfz70_1, hfz70_2, hfz70_3⟩ := xc4 BK970; have p1010 : 0 ≤ (x14_1 : Int) := od; have q1010 : x14_1 < (l0.length : Int) := od; obtain ⟨ad1010, e1010, hx1010_0, hx1010_1, hx1010_2, hx1010_3⟩ := at_T77 HR0.out x14_1 p1010 q1010; obtain rfl : ad968 = ad1010 := (by injection e1010); have hn1010_0 : ad968.block ≠ gb970 := Nat.ne_of_lt (Nat.lt_of_lt_of_le (by have := World.block_lt_of_cell? _ _ hx1010_0; first | rwa [add_block] at this | exact this) GW970.out); have hn1010_1 : ad968.block ≠ gb970 := Nat.ne_of_lt (Nat.lt_of_lt_of_le (by have := World.block_lt_of_cell? _ _ hx1010_0; first | rwa [add_block] at this | exact this) GW970.out); have hn1010_2 : ad968.block ≠ gb970 := Nat.ne_of_lt (Nat.lt_of_lt_of_le (by have := World.block_lt_of_cell? _ _ hx1010_0; first | rwa [add_block] at this | exact this) GW970.out); have hn1010_3 : ad968.block ≠ gb970 := Nat.ne_of_lt (Nat.lt_of_lt_of_le (by have := World.block_lt_of_cell? _ _ hx1010_0; first | rwa [add_block] at this | exact this) GW970.out); have hn1010_4 : ad968.block ≠ gb970 := Nat.ne_of_lt (Nat.lt_of_lt_of_le (by have := World.block_lt_of_cell? _ _ hx1010_0; first | rwa [add_block] at this | exact this) GW970.out); replace hx1010_0 := cl HB hx1010_0; replace hx1010_1 := cl HB hx1010_1; replace hx1010_2 := cl HB hx1010_2; replace hx1010_3 := cl HB hx1010_3; replace hx1010_0 := (cell_far (p := ⟨gb970, 0, none⟩) (by first | (rw [add_block]; exact hn1010_0) | (show (Addr.add _ _).block ≠ _; rw [add_block]; exact hn1010_0) | exact hn1010_0) (.int .i64 ((rd_T77 l0 x14_1).f0))).trans hx1010_0; replace hx1010_1 := (cell_far (p := ⟨gb970, 0, none⟩) (by first | (rw [add_block]; exact hn1010_0) | (show (Addr.add _ _).block ≠ _; rw [add_block]; exact hn1010_0) | exact hn1010_0) (.int .i64 ((rd_T77 l0 x14_1).f0))).trans hx1010_1; replace hx1010_2 := (cell_far (p := ⟨gb970, 0, none⟩) (by first | (rw [add_block]; exact hn1010_0) | (show (Addr.add _ _).block ≠ _; rw [add_block]; exact hn1010_0) | exact hn1010_0) (.int .i64 ((rd_T77 l0 x14_1).f0))).trans hx1010_2; replace hx1010_3 := (cell_far (p := ⟨gb970, 0, none⟩) (by first | (rw [add_block]; exact hn1010_0) | (show (Addr.add _ _).block ≠ _; rw [add_block]; exact hn1010_0) | exact hn1010_0) (.int .i64 ((rd_T77 l0 x14_1).f0))).trans hx1010_3; replace hx1010_0 := (cell_far (p := ⟨gb970, 1, none⟩) (by first | (rw [add_block]; exact hn1010_1) | (show (Addr.add _ _).block ≠ _; rw [add_block]; exact hn1010_1) | exact hn1010_1) (.int .i64 ((rd_T77 l0 x14_1).f1))).trans hx1010_0; replace hx1010_1 := (cell_far (p := ⟨gb970, 1, none⟩) (by first | (rw [add_block]; exact hn1010_1) | (show (Addr.add _ _).block ≠ _; rw [add_block]; exact hn1010_1) | exact hn1010_1) (.int .i64 ((rd_T77 l0 x14_1).f1))).trans hx1010_1; replace hx1010_2 := (cell_far (p := ⟨gb970, 1, none⟩) (by first | (rw [add_block]; exact hn1010_1) | (show (Addr.add _ _).block ≠ _; rw [add_block]; exact hn1010_1) | exact hn1010_1) (.int .i64 ((rd_T77 l0 x14_1).f1))).trans hx1010_2; replace hx1010_3 := (cell_far (p := ⟨gb970, 1, none⟩) (by first | (rw [add_block]; exact hn1010_1) | (show (Addr.add _ _).block ≠ _; rw [add_block]; exact hn1010_1) | exact hn1010_1) (.int .i64 ((rd_T77 l0 x14_1).f1))).trans hx1010_3; replace hx1010_0 := (cell_far (p := ⟨gb970, 2, none⟩) (by first | (rw [add_block]; exact hn1010_2) | (show (Addr.add _ _).block ≠ _; rw [add_block]; exact hn1010_2) | exact hn1010_2) (.int .i64 ((rd_T77 l0 x14_1).f2))).trans hx1010_0; replace hx1010_1 := (cell_far (p := ⟨gb970, 2, none⟩) (by first | (rw [add_block]; exact hn1010_2) | (show (Addr.add _ _).block ≠ _; rw [add_block]; exact hn1010_2) | exact hn1010_2) (.int .i64 ((rd_T77 l0 x14_1).f2))).trans hx1010_1; replace hx1010_2 := (cell_far (p := ⟨gb970, 2, none⟩) (by first | (rw [add_block]; exact hn1010_2) | (show (Addr.add _ _).block ≠ _; rw [add_block]; exact hn1010_2) | exact hn1010_2) (.int .i64 ((rd_T77 l0 x14_1).f2))).trans hx1010_2; replace hx1010_3 := (cell_far (p := ⟨gb970, 2, none⟩) (by first | (rw [add_block]; exact hn1010_2) | (show (Addr.add _ _).block ≠ _; rw [add_block]; exact hn1010_2) | exact hn1010_2) (.int .i64 ((rd_T77 l0 x14_1).f2))).trans hx1010_3; replace hx1010_0 := (cell_far (p := ⟨gb970, 3, none⟩) (by first | (rw [add_block]; exact hn1010_3) | (show (Addr.add _ _).block ≠ _; rw [add_block]; exact hn1010_3) | exact hn1010_3) (.int .i64 ((rd_T77 l0 x14_1).f3))).trans hx1010_0; replace hx1010_1 := (cell_far (p := ⟨gb970, 3, none⟩) (by first | (rw [add_block]; exact hn1010_3) | (show (Addr.add _ _).block ≠ _; rw [add_block]; exact hn1010_3) | exact hn1010_3) (.int .i64 ((rd_T77 l0 x14_1).f3))).trans hx1010_1; replace hx1010_2 := (cell_far (p := ⟨gb970, 3, none⟩) (by first | (rw [add_block]; exact hn1010_3) | (show (Addr.add _ _).block ≠ _; rw [add_block]; exact hn1010_3) | exact hn1010_3) (.int .i64 ((rd_T77 l0 x14_1).f3))).trans hx1010_2; replace hx1010_3 := (cell_far (p := ⟨gb970, 3, none⟩) (by first | (rw [add_block]; exact hn1010_3) | (show (Addr.add _ _).block ≠ _; rw [add_block]; exact hn1010_3) | exact hn1010_3) (.int .i64 ((rd_T77 l0 x14_1).f3))).trans hx1010_3; replace hx1010_0 := (cell_far (p := ⟨gb970, 0, none⟩) (by first | (rw [add_block]; exact hn1010_4) | (show (Addr.add _ _).block ≠ _; rw [add_block]; exact hn1010_4) | exact hn1010_4) (.int .i64 (wrap64 ((ji9) - (ji7))))).trans hx1010_0; replace hx1010_1 := (cell_far (p := ⟨gb970, 0, none⟩) (by first | (rw [add_block]; exact hn1010_4) | (show (Addr.add _ _).block ≠ _; rw [add_block]; exact hn1010_4) | exact hn1010_4) (.int .i64 (wrap64 ((ji9) - (ji7))))).trans hx1010_1; replace hx1010_2 := (cell_far (p := ⟨gb970, 0, none⟩) (by first | (rw [add_block]; exact hn1010_4) | (show (Addr.add _ _).block ≠ _; rw [add_block]; exact hn1010_4) | exact hn1010_4) (.int .i64 (wrap64 ((ji9) - (ji7))))).trans hx1010_2; replace hx1010_3 := (cell_far (p := ⟨gb970, 0, none⟩) (by first | (rw [add_block]; exact hn1010_4) | (show (Addr.add _ _).block ≠ _; rw [add_block]; exact hn1010_4) | exact hn1010_4) (.int .i64 (wrap64 ((ji9) - (ji7))))).trans hx1010_3; clear hn1010_0; clear hn1010_1; clear hn1010_2; clear hn1010_3; clear hn1010_4; replace p1010 := eq_true p1010; replace q1010 := eq_true q1010))
      go_roundg k1
      case measure => have := HK1.out; omega
      case rel => exact ⟨(x12_1), (wrap64 (x13_1 + ((rd_T77 l0 x14_1).f0))), (wrap64 (x14_1 + 1)), jz, jz, H', ⟨by have := HK1.out; omega⟩, ⟨by (with_reducible repeat (first | apply Kd.R_alloc | apply Kd.R_drewN | apply Kd.R_drew)); exact Kd.R_mono (Kd.R_far (p := ⟨gb970, 0, none⟩) (Kd.R_far (p := ⟨gb970, 3, none⟩) (Kd.R_far (p := ⟨gb970, 2, none⟩) (Kd.R_far (p := ⟨gb970, 1, none⟩) (Kd.R_far (p := ⟨gb970, 0, none⟩) (Kd.R_mono HO_12.out (fun k_ hk => (⟨hk, hk.2⟩ : _ ∧ k_ ≠ gb970))) (fun _ hk => hk.2) (.int .i64 ((rd_T77 l0 x14_1).f0))) (fun _ hk => hk.2) (.int .i64 ((rd_T77 l0 x14_1).f1))) (fun _ hk => hk.2) (.int .i64 ((rd_T77 l0 x14_1).f2))) (fun _ hk => hk.2) (.int .i64 ((rd_T77 l0 x14_1).f3))) (fun _ hk => hk.2) (.int .i64 (wrap64 ((ji9) - (ji7))))) (fun _ hk => trivial)⟩, ⟨bz⟩⟩
    ·rw [if_neg c8] at H
     exact absurd H (by simp)
   ·rw [if_neg c6] at H; have c6b0 : decide (x14_1 < (l0.length : Int)) = false := decide_eq_false c6; clear c6; obtain ⟨⟨t964, t965⟩, A71, H⟩ := ob H
    (try dsimp only at H)
    simp only [Option.some.injEq, Prod.mk.injEq] at H; obtain ⟨rfl, rfl⟩ := H; obtain ⟨Ao72, co72, eo72⟩ := Kd.R_slice HO_12.out; subst eo72
    go_wp2_with (first | ((with_reducible refine gate_callee (f := 58) rfl ?_); refine zC 96 Try.func58 #[.slice Ao72 x12_1.length co72, .int .i64 a1, .int .i64 a2] ?_; (with_reducible refine (dioramaref10_told.calls k1 _ _ x12_1 a1 a2 t964 t965 _ ?side1 ?side2 A71.out).mono ?_); (case side1 => exact cr HO_12); (case side2 => exact (Kd.R_reads' HO_12.out).2.1); rintro e w73 ⟨v966, rfl, ho0, hb⟩; refine ⟨_, rfl, ?_⟩; have HO967 := Aside0.mk (Kd.R_lower (Kd.R_new' ho0 (Kd.R_lt (rz HO_12))) sz); replace HO_12 := Aside0.mk (Kd.R_elder' (rz HO_12) (Kd.R_base ho0) hb); replace HB := bp hb; clear hb ho0))
    go_ret2
    exact ⟨_, ez, by (with_reducible repeat (first | apply Kd.R_alloc | apply Kd.R_drewN | apply Kd.R_drew)); exact Kd.R_mono HO967.out (fun _ hk => trivial), bz⟩
def dioramaref10_Cut.f (k : Nat) (l0 : List (S77)) (a1 : Int) (a2 : Int) (a3 : Int) (a4 : Int) : Option ((List (S77)) × Int) := (dioramaref10_Check.f k l0 a1 a2).bind fun t1011 => (if t1011 = 0 then (if a3 < 0 then (some (([] : List (S77)), 1)) else (if a3 > 1099511627776 then (some (([] : List (S77)), 1)) else (if a4 < 0 then (some (([] : List (S77)), 1)) else (if a4 > 1099511627776 then (some (([] : List (S77)), 1)) else (if a4 < a3 then (some (([] : List (S77)), 1)) else ((dioramaref10_cut.f k l0 a1 a2 a3 a4).bind fun bt1012 => (some (bt1012.1, bt1012.2)))))))) else (some (([] : List (S77)), t1011)))
set_option maxHeartbeats 8000000 in
set_option maxRecDepth 100000 in
theorem dioramaref10_Cut.calls (k : Nat) (A0 : Option Addr) (c0 : Nat) (l0 : List (S77)) (a1 : Int) (a2 : Int) (a3 : Int) (a4 : Int) (r1 : List (S77)) (r2 : Int) (w : World) (hr0 : Kd.C k77 w A0 l0.length l0) (hc0 : l0.length ≤ c0) (h : dioramaref10_Cut.f k l0 a1 a2 a3 a4 = some (r1, r2)) :
  Calls Try.prog 39 #[.slice A0 l0.length c0, .int .i64 a1, .int .i64 a2, .int .i64 a3, .int .i64 a4] w fun e w' => ∃ v0_ : Value, e = .returned (.tuple #[v0_, .int .i64 r2]) ∧ Kd.R k77 77 w' w.heap.size (fun _ => True) v0_ r1 ∧ Below w.heap.size w w' := by
 have HR0 := Aside0.mk hr0; have HC0 := Aside0.mk hc0; clear hr0 hc0; have HB := Aside0.mk (Below.refl w.heap.size w); have H : ((dioramaref10_Check.f k l0 a1 a2).bind fun t1011 => (if t1011 = 0 then (if a3 < 0 then (some (([] : List (S77)), 1)) else (if a3 > 1099511627776 then (some (([] : List (S77)), 1)) else (if a4 < 0 then (some (([] : List (S77)), 1)) else (if a4 > 1099511627776 then (some (([] : List (S77)), 1)) else (if a4 < a3 then (some (([] : List (S77)), 1)) else ((dioramaref10_cut.f k l0 a1 a2 a3 a4).bind fun bt1012 => (some (bt1012.1, bt1012.2)))))))) else (some (([] : List (S77)), t1011)))) = some (r1, r2) := h
 clear h; obtain ⟨t1011, A6, H⟩ := ob H
 by_cases c7 : t1011 = 0
 ·rw [if_pos c7] at H; have c7b0 : (t1011 == 0) = true := beq_iff_eq.mpr c7; have c7b1 : (t1011 != 0) = false := bne_eq_false_iff_eq.mpr c7; clear c7
  by_cases c8 : a3 < 0
  ·rw [if_pos c8] at H; have c8b0 : decide (a3 < 0) = true := decide_eq_true c8; clear c8; simp only [Option.some.injEq, Prod.mk.injEq] at H; obtain ⟨rfl, rfl⟩ := H
   go_enter Try.func39, Try.ntmps39
   go_wp2_with (first | ((with_reducible refine gate_callee (f := 25) rfl ?_); refine zC 16 Try.func25 #[.slice A0 l0.length c0, .int .i64 a1, .int .i64 a2] ?_; (with_reducible refine (dioramaref10_Check.calls k _ _ l0 a1 a2 t1011 _ ?side1 ?side2 A6.out).mono ?_); (case side1 => repeat (first | exact HR0.out | (with_reducible refine Kd.C_alloc ?_ _) | (with_reducible refine Kd.C_drewN ?_ _) | (with_reducible refine Kd.C_drew ?_))); (case side2 => exact HC0.out); rintro e w9 ⟨rfl, hb⟩; refine ⟨_, rfl, ?_⟩; replace HB := bp hb; clear hb))
   go_ret2
   exact ⟨_, ez, by first | exact Kd.R_nil _ _ _ _ _ | exact Kd.N_nil _ _ _ _ _ | exact Kd.V_nil _ _ _ _ _ | exact Kd.Q_nil _ _ _ _ _ | exact Kd.S_nil _ _ _ _ _, bz⟩
  ·rw [if_neg c8] at H; have c8b0 : decide (a3 < 0) = false := decide_eq_false c8; clear c8
   by_cases c10 : a3 > 1099511627776
   ·rw [if_pos c10] at H; have c10b0 : decide (1099511627776 < a3) = true := decide_eq_true c10; clear c10; simp only [Option.some.injEq, Prod.mk.injEq] at H; obtain ⟨rfl, rfl⟩ := H
    go_enter Try.func39, Try.ntmps39
    go_wp2_with (first | ((with_reducible refine gate_callee (f := 25) rfl ?_); refine zC 16 Try.func25 #[.slice A0 l0.length c0, .int .i64 a1, .int .i64 a2] ?_; (with_reducible refine (dioramaref10_Check.calls k _ _ l0 a1 a2 t1011 _ ?side1 ?side2 A6.out).mono ?_); (case side1 => repeat (first | exact HR0.out | (with_reducible refine Kd.C_alloc ?_ _) | (with_reducible refine Kd.C_drewN ?_ _) | (with_reducible refine Kd.C_drew ?_))); (case side2 => exact HC0.out); rintro e w11 ⟨rfl, hb⟩; refine ⟨_, rfl, ?_⟩; replace HB := bp hb; clear hb))
    go_ret2
    exact ⟨_, ez, by first | exact Kd.R_nil _ _ _ _ _ | exact Kd.N_nil _ _ _ _ _ | exact Kd.V_nil _ _ _ _ _ | exact Kd.Q_nil _ _ _ _ _ | exact Kd.S_nil _ _ _ _ _, bz⟩
   ·rw [if_neg c10] at H; have c10b0 : decide (1099511627776 < a3) = false := decide_eq_false c10; clear c10
    by_cases c12 : a4 < 0
    ·rw [if_pos c12] at H; have c12b0 : decide (a4 < 0) = true := decide_eq_true c12; clear c12; simp only [Option.some.injEq, Prod.mk.injEq] at H; obtain ⟨rfl, rfl⟩ := H
     go_enter Try.func39, Try.ntmps39
     go_wp2_with (first | ((with_reducible refine gate_callee (f := 25) rfl ?_); refine zC 16 Try.func25 #[.slice A0 l0.length c0, .int .i64 a1, .int .i64 a2] ?_; (with_reducible refine (dioramaref10_Check.calls k _ _ l0 a1 a2 t1011 _ ?side1 ?side2 A6.out).mono ?_); (case side1 => repeat (first | exact HR0.out | (with_reducible refine Kd.C_alloc ?_ _) | (with_reducible refine Kd.C_drewN ?_ _) | (with_reducible refine Kd.C_drew ?_))); (case side2 => exact HC0.out); rintro e w13 ⟨rfl, hb⟩; refine ⟨_, rfl, ?_⟩; replace HB := bp hb; clear hb))
     go_ret2
     exact ⟨_, ez, by first | exact Kd.R_nil _ _ _ _ _ | exact Kd.N_nil _ _ _ _ _ | exact Kd.V_nil _ _ _ _ _ | exact Kd.Q_nil _ _ _ _ _ | exact Kd.S_nil _ _ _ _ _, bz⟩
    ·rw [if_neg c12] at H; have c12b0 : decide (a4 < 0) = false := decide_eq_false c12; clear c12
     by_cases c14 : a4 > 1099511627776
     ·rw [if_pos c14] at H; have c14b0 : decide (1099511627776 < a4) = true := decide_eq_true c14; clear c14; simp only [Option.some.injEq, Prod.mk.injEq] at H; obtain ⟨rfl, rfl⟩ := H
      go_enter Try.func39, Try.ntmps39
      go_wp2_with (first | ((with_reducible refine gate_callee (f := 25) rfl ?_); refine zC 16 Try.func25 #[.slice A0 l0.length c0, .int .i64 a1, .int .i64 a2] ?_; (with_reducible refine (dioramaref10_Check.calls k _ _ l0 a1 a2 t1011 _ ?side1 ?side2 A6.out).mono ?_); (case side1 => repeat (first | exact HR0.out | (with_reducible refine Kd.C_alloc ?_ _) | (with_reducible refine Kd.C_drewN ?_ _) | (with_reducible refine Kd.C_drew ?_))); (case side2 => exact HC0.out); rintro e w15 ⟨rfl, hb⟩; refine ⟨_, rfl, ?_⟩; replace HB := bp hb; clear hb))
      go_ret2
      exact ⟨_, ez, by first | exact Kd.R_nil _ _ _ _ _ | exact Kd.N_nil _ _ _ _ _ | exact Kd.V_nil _ _ _ _ _ | exact Kd.Q_nil _ _ _ _ _ | exact Kd.S_nil _ _ _ _ _, bz⟩
     ·rw [if_neg c14] at H; have c14b0 : decide (1099511627776 < a4) = false := decide_eq_false c14; clear c14
      by_cases c16 : a4 < a3
      ·rw [if_pos c16] at H; have c16b0 : decide (a4 < a3) = true := decide_eq_true c16; clear c16; simp only [Option.some.injEq, Prod.mk.injEq] at H; obtain ⟨rfl, rfl⟩ := H
       go_enter Try.func39, Try.ntmps39
       go_wp2_with (first | ((with_reducible refine gate_callee (f := 25) rfl ?_); refine zC 16 Try.func25 #[.slice A0 l0.length c0, .int .i64 a1, .int .i64 a2] ?_; (with_reducible refine (dioramaref10_Check.calls k _ _ l0 a1 a2 t1011 _ ?side1 ?side2 A6.out).mono ?_); (case side1 => repeat (first | exact HR0.out | (with_reducible refine Kd.C_alloc ?_ _) | (with_reducible refine Kd.C_drewN ?_ _) | (with_reducible refine Kd.C_drew ?_))); (case side2 => exact HC0.out); rintro e w17 ⟨rfl, hb⟩; refine ⟨_, rfl, ?_⟩; replace HB := bp hb; clear hb))
       go_ret2
       exact ⟨_, ez, by first | exact Kd.R_nil _ _ _ _ _ | exact Kd.N_nil _ _ _ _ _ | exact Kd.V_nil _ _ _ _ _ | exact Kd.Q_nil _ _ _ _ _ | exact Kd.S_nil _ _ _ _ _, bz⟩
      ·rw [if_neg c16] at H; have c16b0 : decide (a4 < a3) = false := decide_eq_false c16; clear c16; obtain ⟨⟨t1012, t1013⟩, A18, H⟩ := ob H
       (try dsimp only at H)
       simp only [Option.some.injEq, Prod.mk.injEq] at H; obtain ⟨rfl, rfl⟩ := H
       go_enter Try.func39, Try.ntmps39
       go_wp2_with (first | ((with_reducible refine gate_callee (f := 25) rfl ?_); refine zC 16 Try.func25 #[.slice A0 l0.length c0, .int .i64 a1, .int .i64 a2] ?_; (with_reducible refine (dioramaref10_Check.calls k _ _ l0 a1 a2 t1011 _ ?side1 ?side2 A6.out).mono ?_); (case side1 => repeat (first | exact HR0.out | (with_reducible refine Kd.C_alloc ?_ _) | (with_reducible refine Kd.C_drewN ?_ _) | (with_reducible refine Kd.C_drew ?_))); (case side2 => exact HC0.out); rintro e w19 ⟨rfl, hb⟩; refine ⟨_, rfl, ?_⟩; replace HB := bp hb; clear hb) | ((with_reducible refine gate_callee (f := 94) rfl ?_); refine zC 44 Try.func94 #[.slice A0 l0.length c0, .int .i64 a1, .int .i64 a2, .int .i64 a3, .int .i64 a4] ?_; (with_reducible refine (dioramaref10_cut.calls k _ _ l0 a1 a2 a3 a4 t1012 t1013 _ ?side1 ?side2 A18.out).mono ?_); (case side1 => exact cz HR0); (case side2 => exact HC0.out); rintro e w20 ⟨v1014, rfl, ho0, hb⟩; refine ⟨_, rfl, ?_⟩; have HO1015 := Aside0.mk (Kd.R_lower ho0 sz); replace HB := bp hb; clear hb ho0))
       go_ret2
       exact ⟨_, ez, by (with_reducible repeat (first | apply Kd.R_alloc | apply Kd.R_drewN | apply Kd.R_drew)); exact HO1015.out, bz⟩
 ·rw [if_neg c7] at H; have c7b0 : (t1011 == 0) = false := beq_eq_false_iff_ne.mpr c7; have c7b1 : (t1011 != 0) = true := bne_iff_ne.mpr c7; simp only [Option.some.injEq, Prod.mk.injEq] at H; obtain ⟨rfl, rfl⟩ := H
  go_enter Try.func39, Try.ntmps39
  go_wp2_with (first | ((with_reducible refine gate_callee (f := 25) rfl ?_); refine zC 16 Try.func25 #[.slice A0 l0.length c0, .int .i64 a1, .int .i64 a2] ?_; (with_reducible refine (dioramaref10_Check.calls k _ _ l0 a1 a2 t1011 _ ?side1 ?side2 A6.out).mono ?_); (case side1 => repeat (first | exact HR0.out | (with_reducible refine Kd.C_alloc ?_ _) | (with_reducible refine Kd.C_drewN ?_ _) | (with_reducible refine Kd.C_drew ?_))); (case side2 => exact HC0.out); rintro e w21 ⟨rfl, hb⟩; refine ⟨_, rfl, ?_⟩; replace HB := bp hb; clear hb))
  go_ret2
  exact ⟨_, ez, by first | exact Kd.R_nil _ _ _ _ _ | exact Kd.N_nil _ _ _ _ _ | exact Kd.V_nil _ _ _ _ _ | exact Kd.Q_nil _ _ _ _ _ | exact Kd.S_nil _ _ _ _ _, bz⟩
end Go.Proofs.Ytpbhepdgamoiaaa.E
namespace Go.Proofs.Ytpbhepdgamoiaaa.E
open Go.Proofs.Ytpbhepdgamoiaaa.Z Go.RowKit Go.Proofs.YtpbhepdgamoiaaaW.PrintWords Go.Proofs.YtpbhepdgamoiaaaW.PrintLast Go.Proofs.YtpbhepdgamoiaaaW.PrintMore
attribute [local go_sem] max2_int min2_int max_two min_two max_three min_three max_four min_four
set_option linter.unusedVariables false
set_option linter.unusedSimpArgs false
attribute [local go_sem high] eqA77
end Go.Proofs.Ytpbhepdgamoiaaa.E
namespace Go.Proofs.Ytpbhepdgamoiaaa.E
open Go.Proofs.Ytpbhepdgamoiaaa.Z Go.RowKit Go.Proofs.YtpbhepdgamoiaaaW.PrintWords Go.Proofs.YtpbhepdgamoiaaaW.PrintLast Go.Proofs.YtpbhepdgamoiaaaW.PrintMore
attribute [local go_sem] max2_int min2_int max_two min_two max_three min_three max_four min_four
set_option linter.unusedVariables false
set_option linter.unusedSimpArgs false
end Go.Proofs.Ytpbhepdgamoiaaa.E
namespace Go.Proofs.Ytpbhepdgamoiaaa.Pf
open Go.RowKit Go Go.Proofs.YtpbhepdgamoiaaaW.PrintWords Go.Proofs.YtpbhepdgamoiaaaW.PrintLast Go.Proofs.YtpbhepdgamoiaaaW.PrintMore Go.Proofs.Ytpbhepdgamoiaaa.Mn Go.Proofs.Ytpbhepdgamoiaaa.Rf Go.Proofs.Ytpbhepdgamoiaaa.Er Go.Proofs.Ytpbhepdgamoiaaa.Ek Go.Proofs.Ytpbhepdgamoiaaa.E Go.Proofs.Ytpbhepdgamoiaaa.Pe
set_option linter.unusedVariables false
set_option linter.unusedSimpArgs false
def lowV (x : Ed) : Ed := ⟨x.f0, x.f1, (qq x.f2 x.f3).num, ((qq x.f2 x.f3).den : Int)⟩
def ovV (ms ts : Int) (a b : Ed) : Bool := overB ms ts a.f0 a.f1 a.f2 a.f3 b.f1 b.f2 b.f3
def push (ms ts : Int) : List Ed → Ed → List Ed
 | [], e => [e]
 | a :: t, e => if ovV ms ts a e = true then ⟨a.f0 + e.f0, a.f1, a.f2, a.f3⟩ :: t else e :: a :: t
def nrmR (ms ts : Int) (out l : List Ed) : List Ed := (l.map lowV).foldl (push ms ts) out
def nrm (ms ts : Int) (l : List Ed) : List Ed := (nrmR ms ts [] l).reverse
def fin (out : List Ed) : List Ed × Int := if 20 < out.length then ([], 2) else (out.reverse, 0)
def nrmV (ms ts : Int) (l : List Ed) : List Ed × Int := if 1099511627776 < sumD l then ([], 2) else fin (nrmR ms ts [] l)
structure Wd (x : Ed) : Prop where
 d0 : 1 ≤ x.f0
 m0 : -1 ≤ x.f1
 m1 : x.f1 ≤ 1099511627776
 n0 : 0 ≤ x.f2
 n1 : x.f2 ≤ 1000
 e0 : 1 ≤ x.f3
 e1 : x.f3 ≤ 1000
theorem wd_low {x : Ed} (h : Vd x) : Wd (lowV x) := by
 have hq := qq_low h.n0 h.e0
 have h1 := h.n1
 have h2 := h.e1
 exact ⟨h.d0, h.m0, h.m1, hq.1, by unfold lowV; simp only; omega, hq.2.2.1, by unfold lowV; simp only; omega⟩
theorem low_f {x : Ed} (h : Vd x) : edit_lowest.f x.f0 x.f1 x.f2 x.f3 = some ((lowV x).f0, (lowV x).f1, (lowV x).f2, (lowV x).f3) := by
 unfold edit_lowest.f rateOk
 have h0 := h.n0
 have h1 := h.n1
 have h2 := h.e0
 have h3 := h.e1
 rw [decide_eq_true h0, decide_eq_true (show x.f2 ≤ 1000000 by omega), decide_eq_true h2, decide_eq_true (show x.f3 ≤ 1000000 by omega)]
 rfl
theorem over_f {ms ts : Int} {a b : Ed} (hc : Ck ms ts) (ha : Wd a) (hd : a.f0 ≤ 1099511627776) (hb : Wd b) : edit_clocks_over.f ms ts a.f0 a.f1 a.f2 a.f3 b.f0 b.f1 b.f2 b.f3 = some (ovV ms ts a b) := by
 unfold edit_clocks_over.f overOk in64
 have c0 := hc.m0
 have c1 := hc.m1
 have c2 := hc.t0
 have c3 := hc.t1
 have a0 := ha.d0
 have a1 := ha.m0
 have a2 := ha.m1
 have a3 := ha.n0
 have a4 := ha.n1
 have a5 := ha.e0
 have a6 := ha.e1
 have b1 := hb.m0
 have b2 := hb.m1
 rw [if_pos (by simp only [Bool.and_eq_true, decide_eq_true_eq]; omega)]
 rfl
theorem push_sum (ms ts : Int) (out : List Ed) (e : Ed) : sumD (push ms ts out e) = sumD out + e.f0 := by
 cases out with
 | nil => simp [push, sumD]
 | cons a t =>
  simp only [push]
  split
  ·simp only [sumD]; omega
  ·simp only [sumD]; omega
theorem push_wd {ms ts : Int} {out : List Ed} {e : Ed} (h : ∀ x ∈ out, Wd x) (he : Wd e) : ∀ x ∈ push ms ts out e, Wd x := by
 cases out with
 | nil => simpa [push] using he
 | cons a t =>
  have ha := h a (by simp)
  simp only [push]
  split
  ·intro x hx
   simp only [List.mem_cons] at hx
   rcases hx with rfl | hx
   ·have a0 := ha.d0
    have e0 := he.d0
    exact ⟨by simp only; omega, ha.m0, ha.m1, ha.n0, ha.n1, ha.e0, ha.e1⟩
   ·exact h x (by simp [hx])
  ·intro x hx
   simp only [List.mem_cons] at hx
   rcases hx with rfl | hx
   ·exact he
   ·exact h x (by simpa using hx)
theorem push_len (ms ts : Int) (out : List Ed) (e : Ed) : (push ms ts out e).length ≤ out.length + 1 := by
 cases out with
 | nil => simp [push]
 | cons a t =>
  simp only [push]
  split <;> simp
theorem wd_sum {l : List Ed} (h : ∀ x ∈ l, Wd x) : 0 ≤ sumD l := by
 induction l with
 | nil => simp [sumD]
 | cons x t ih =>
  have h1 := (h x (by simp)).d0
  have h2 := ih (fun y hy => h y (by simp [hy]))
  simp only [sumD]
  omega
theorem normal_l {ms ts : Int} (hc : Ck ms ts) (l : List Ed) (hV : ∀ x ∈ l, Vd x) (hl : l.length ≤ 1000000000) (rest : List Ed) :
  ∀ pre out, l = pre ++ rest → sumD out = sumD pre → sumD pre ≤ 1099511627776 → (∀ x ∈ out, Wd x) → out.length ≤ pre.length →
   Ev (fun k => edit_clocks_normal.l0 k out.reverse (sumD pre) l (l.length : Int) (pre.length : Int) ms ts) (if 1099511627776 < sumD l then ([], 2) else fin (nrmR ms ts out rest)) := by
 induction rest with
 | nil =>
  intro pre out he hs hp hw ho
  subst he
  rw [if_neg (by simp only [List.append_nil]; omega)]
  refine Ev.step (f := fun _ => some (fin (nrmR ms ts out []))) (fun k => ?_) (Ev.now _)
  simp only [edit_clocks_normal.l0, List.append_nil]
  rw [if_neg (by omega)]
  unfold fin nrmR
  simp only [List.map_nil, List.foldl_nil, List.length_reverse]
  by_cases h : 20 < out.length
  ·rw [if_pos h, if_pos (by omega)]
  ·rw [if_neg h, if_neg (by omega)]
 | cons x t ih =>
  intro pre out he hs hp hw ho
  have hlen : l.length = pre.length + (t.length + 1) := by rw [he]; simp
  have hx : rd_T77 l (pre.length : Int) = x := by rw [he]; exact rd_at pre x t
  have hvx : Vd x := hV x (by rw [he]; simp)
  have hst : 0 ≤ sumD t := sumD_nonneg (fun y hy => hV y (by rw [he]; simp [hy]))
  have hsl : sumD l = sumD pre + x.f0 + sumD t := by rw [he, sumD_app]; simp only [sumD]; omega
  have hs0 : 0 ≤ sumD pre := by rw [← hs]; exact wd_sum hw
  have hd0 := hvx.d0
  have hd1 := hvx.d1
  have hsp : sumD (pre ++ [x]) = sumD pre + x.f0 := by rw [sumD_app]; simp [sumD]
  by_cases hbig : sumD pre + x.f0 > 1099511627776
  ·rw [if_pos (by omega)]
   refine Ev.step (f := fun _ => some ([], 2)) (fun k => ?_) (Ev.now _)
   simp only [edit_clocks_normal.l0]
   rw [if_pos (by omega), if_pos (by omega), if_pos (by omega), hx, low_f hvx]
   simp only [Option.bind_some]
   rw [show (lowV x).f0 = x.f0 from rfl, w64 (by omega) (by omega), if_pos hbig]
  ·have hwl := wd_low hvx
   have hr := ih (pre ++ [x]) (push ms ts out (lowV x)) (by rw [he]; simp) (by rw [push_sum, hs, hsp]; rfl) (by omega) (push_wd hw hwl) (by have := push_len ms ts out (lowV x); simp only [List.length_append, List.length_cons, List.length_nil]; omega)
   have hn : nrmR ms ts out (x :: t) = nrmR ms ts (push ms ts out (lowV x)) t := rfl
   rw [hn]
   refine Ev.step (f := fun k => edit_clocks_normal.l1 k out.reverse (sumD (pre ++ [x])) (out.reverse.length : Int) l (l.length : Int) (pre.length : Int) ms ts (lowV x).f0 (lowV x).f1 (lowV x).f2 (lowV x).f3) (fun k => ?_) ?_
   ·simp only [edit_clocks_normal.l0]
    rw [if_pos (by omega), if_pos (by omega), if_pos (by omega), hx, low_f hvx]
    simp only [Option.bind_some]
    rw [show (lowV x).f0 = x.f0 from rfl, w64 (by omega) (by omega), if_neg hbig, hsp]
   ·refine Ev.step (f := fun k => edit_clocks_normal.l0 k (push ms ts out (lowV x)).reverse (sumD (pre ++ [x])) l (l.length : Int) ((pre ++ [x]).length : Int) ms ts) (fun k => ?_) hr
    simp only [edit_clocks_normal.l1]
    have hpl : wrap64 ((pre.length : Int) + 1) = ((pre ++ [x]).length : Int) := by rw [w64 (by omega) (by omega)]; simp
    rw [hpl]
    cases out with
    | nil =>
     rw [if_neg (show ¬ (([] : List Ed).reverse.length : Int) > 0 by simp), if_pos (show ([] : List Ed).reverse.length < 4398046511104 by simp)]
     rfl
    | cons a o =>
     have hla : (a :: o).reverse.length = o.length + 1 := by simp
     have hra : rd_T77 (a :: o).reverse (o.length : Int) = a := by
      rw [List.reverse_cons]
      have := rd_at o.reverse a []
      rw [List.length_reverse] at this
      exact this
     have hol : o.length + 1 ≤ pre.length := ho
     have hsa := wd_sum (l := o) (fun y hy => hw y (by simp [hy]))
     have hda : a.f0 ≤ 1099511627776 := by simp only [sumD] at hs; omega
     rw [hla, if_pos (by omega), w64 (by omega) (by omega), show ((o.length + 1 : Nat) : Int) - 1 = (o.length : Int) by omega, if_pos (by omega), if_pos (by omega), hra]
     have ha0 := (hw a (by simp)).d0
     have hov : edit_clocks_over.f ms ts a.f0 a.f1 a.f2 a.f3 (lowV x).f0 (lowV x).f1 (lowV x).f2 (lowV x).f3 = some (ovV ms ts a (lowV x)) := over_f hc (hw a (by simp)) hda hwl
     rw [hov]
     simp only [Option.bind_some, push]
     by_cases hb : ovV ms ts a (lowV x) = true
     ·rw [if_pos hb, if_pos hb]
      have hf : (lowV x).f0 = x.f0 := rfl
      simp only [sumD] at hs
      rw [w64 (by rw [hf]; omega) (by rw [hf]; omega)]
      congr 1
      rw [List.reverse_cons, List.reverse_cons, Int.toNat_natCast]
      have : o.length = o.reverse.length := by simp
      rw [this, List.set_append_right _ _ (Nat.le_refl _)]
      simp
     ·rw [if_neg hb, if_neg hb, if_pos (by omega)]
      congr 1
      simp
theorem normal_f {ms ts : Int} (hc : Ck ms ts) (l : List Ed) (hV : ∀ x ∈ l, Vd x) (hl : l.length ≤ 1000000000) : Ev (fun k => edit_clocks_normal.f k ms ts l) (nrmV ms ts l) :=
 normal_l hc l hV hl l [] [] rfl rfl (by simp [sumD]) (by simp) (by simp)
theorem nrmR_len (ms ts : Int) (l : List Ed) : ∀ out, (nrmR ms ts out l).length ≤ out.length + l.length := by
 induction l with
 | nil => intro out; simp [nrmR]
 | cons x t ih =>
  intro out
  have h := ih (push ms ts out (lowV x))
  have hn : nrmR ms ts out (x :: t) = nrmR ms ts (push ms ts out (lowV x)) t := rfl
  have h2 := push_len ms ts out (lowV x)
  rw [hn]
  simp only [List.length_cons]
  omega
def norV (ms ts : Int) (l : List Ed) : List Ed × Int := if chk l ms ts = 0 then (nrm ms ts l, 0) else ([], chk l ms ts)
theorem Normal_f (l : List Ed) (ms ts : Int) : Ev (fun k => edit_Normal.f k l ms ts) (norV ms ts l) := by
 unfold norV
 by_cases h0 : chk l ms ts = 0
 ·obtain ⟨hc, hl, hV, hs⟩ := chk_ok.1 h0
  rw [if_pos h0]
  have hr : nrmV ms ts l = (nrm ms ts l, 0) := by
   have := nrmR_len ms ts l []
   simp only [List.length_nil] at this
   unfold nrmV fin nrm
   rw [if_neg (by omega), if_neg (by omega)]
  have h1 := check_f l ms ts
  rw [h0] at h1
  refine Ev.congr (fun k => rfl) (Ev.bind h1 ?_)
  refine Ev.congr (fun k => if_pos rfl) (Ev.bind (normal_f hc l hV (by omega)) ?_)
  rw [hr]
  exact Ev.now _
 ·rw [if_neg h0]
  refine Ev.congr (fun k => rfl) (Ev.bind (check_f l ms ts) ?_)
  refine Ev.congr (fun k => if_neg h0) (Ev.now _)
end Go.Proofs.Ytpbhepdgamoiaaa.Pf
namespace Go.Proofs.Ytpbhepdgamoiaaa.Pg
open Go.RowKit Go Go.Proofs.YtpbhepdgamoiaaaW.PrintWords Go.Proofs.YtpbhepdgamoiaaaW.PrintLast Go.Proofs.YtpbhepdgamoiaaaW.PrintMore Go.Proofs.Ytpbhepdgamoiaaa.Mn Go.Proofs.Ytpbhepdgamoiaaa.Rf Go.Proofs.Ytpbhepdgamoiaaa.Er Go.Proofs.Ytpbhepdgamoiaaa.Ek Go.Proofs.Ytpbhepdgamoiaaa.E Go.Proofs.Ytpbhepdgamoiaaa.Pe Go.Proofs.Ytpbhepdgamoiaaa.Pf
set_option linter.unusedVariables false
set_option linter.unusedSimpArgs false
instance : DecidableEq Ed := fun x y =>
 decidable_of_iff (x.f0 = y.f0 ∧ x.f1 = y.f1 ∧ x.f2 = y.f2 ∧ x.f3 = y.f3) ⟨fun h => by cases x; cases y; simp_all, fun h => by subst h; simp⟩
theorem ed_ne (x y : Ed) : (!x.f0 == y.f0 || (!x.f1 == y.f1 || (!x.f2 == y.f2 || !x.f3 == y.f3))) = !decide (x = y) := by
 cases x; cases y
 rw [Bool.eq_iff_iff]
 simp
def exL : List Ed := [⟨10, 0, 1, 1⟩, ⟨5, 10, 1, 1⟩]
theorem nrm_ex : nrm 10 10 exL = [⟨15, 0, 1, 1⟩] := by decide +kernel
theorem chk_ex : chk exL 10 10 = 0 := by decide +kernel
theorem awake_f : Ev (fun k => dioramalaw10_awake.f k) true := by
 have h := Normal_f exL 10 10
 unfold norV at h
 rw [if_pos chk_ex, nrm_ex] at h
 refine Ev.congr (fun k => rfl) (Ev.bind h ?_)
 refine Ev.congr (f := fun _ => some true) (fun k => ?_) (Ev.now _)
 rfl
theorem many_f (l : List Ed) : dioramalaw10_many.f l = some (decide (60 < l.length)) := by
 unfold dioramalaw10_many.f
 congr 1
 by_cases h : 60 < l.length
 ·rw [decide_eq_true h, decide_eq_true (by omega)]
 ·rw [decide_eq_false h, decide_eq_false (by omega)]
end Go.Proofs.Ytpbhepdgamoiaaa.Pg
namespace Go.Proofs.Ytpbhepdgamoiaaa.Ph
open Go.RowKit Go Go.Proofs.YtpbhepdgamoiaaaW.PrintWords Go.Proofs.YtpbhepdgamoiaaaW.PrintLast Go.Proofs.YtpbhepdgamoiaaaW.PrintMore Go.Proofs.Ytpbhepdgamoiaaa.Mn Go.Proofs.Ytpbhepdgamoiaaa.Rf Go.Proofs.Ytpbhepdgamoiaaa.Er Go.Proofs.Ytpbhepdgamoiaaa.Ek Go.Proofs.Ytpbhepdgamoiaaa.E Go.Proofs.Ytpbhepdgamoiaaa.Pe Go.Proofs.Ytpbhepdgamoiaaa.Pf Go.Proofs.Ytpbhepdgamoiaaa.Pg
set_option linter.unusedVariables false
set_option linter.unusedSimpArgs false
end Go.Proofs.Ytpbhepdgamoiaaa.Ph
namespace Go.Proofs.Ytpbhepdgamoiaaa.Pa
open Go.RowKit Go.Proofs.Ytpbhepdgamoiaaa.P Go.Proofs.Ytpbhepdgamoiaaa.E Go.Proofs.YtpbhepdgamoiaaaW.PrintWords Go.Proofs.YtpbhepdgamoiaaaW.PrintLast Go.Proofs.Ytpbhepdgamoiaaa.Ml Go.Proofs.Ytpbhepdgamoiaaa.Mn
set_option linter.unusedVariables false
set_option linter.unusedSimpArgs false
abbrev Bd : Int := 1000000000
abbrev Nn (l : List Int) : Prop := Cn 1000000000 l
theorem top_cons {x : Int} {l : List Int} (h : Top l) (hx : l = [] → x ≠ 0) : Top (x :: l) := by
 intro hne
 cases l with
 | nil => simpa using hx rfl
 | cons y t =>
  rw [List.getLast_cons (by simp)]
  exact h (by simp)
theorem digit_f (l : List Int) (i : Nat) : dioramaref02_digit.f l (i : Int) = some (l.getD i 0) := by
 unfold dioramaref02_digit.f
 by_cases h : i < l.length
 ·rw [if_pos (by omega), if_pos (by omega), rd_nat]
 ·rw [if_neg (by omega), getD_ge (by omega)]
theorem tmodB {x : Int} (h : 0 ≤ x) : Int.tmod x 1000000000 = x % 1000000000 := Int.tmod_eq_emod_of_nonneg h
theorem tdivB {x : Int} (h : 0 ≤ x) : Int.tdiv x 1000000000 = x / 1000000000 := Int.tdiv_eq_ediv_of_nonneg h
theorem of_l (m : Nat) : ∀ (x : Int) (acc : List Int), 0 ≤ x → x < pw 1000000000 m → x ≤ 9223372036854775807 → acc.length + m ≤ 1000 → ∃ r, Ev (fun k => dioramaref02_Of.l0 k x acc) (acc ++ r) ∧ Nn r ∧ dv 1000000000 r = x ∧ r.length ≤ m := by
 induction m with
 | zero =>
  intro x acc h0 h1 _ _
  have hx : x = 0 := by simp [pw] at h1; omega
  subst hx
  exact ⟨[], Ev.step (f := fun _ => some (acc ++ [])) (fun k => by simp [dioramaref02_Of.l0]) (Ev.now _), Cn.nil _, rfl, Nat.le_refl _⟩
 | succ m ih =>
  intro x acc h0 h1 h2 hl
  by_cases hx : x = 0
  ·subst hx
   exact ⟨[], Ev.step (f := fun _ => some (acc ++ [])) (fun k => by simp [dioramaref02_Of.l0]) (Ev.now _), Cn.nil _, rfl, Nat.zero_le _⟩
  ·have hd : x / 1000000000 < pw 1000000000 m := by
    rw [pw_succ] at h1
    omega
   obtain ⟨r, he, hc, hv, hr⟩ := ih (x / 1000000000) (acc ++ [x % 1000000000]) (by omega) hd (by omega) (by simp; omega)
   refine ⟨x % 1000000000 :: r, ?_, ⟨Dg.cons (by omega) (by omega) hc.dg, top_cons hc.top (fun h => ?_)⟩, ?_, by simp; omega⟩
   ·rw [List.append_assoc, List.singleton_append] at he
    refine Ev.step (fun k => ?_) he
    simp only [dioramaref02_Of.l0]
    rw [if_pos (by omega), if_pos (by omega), tdivB h0, tmodB h0, w64 (by omega) (by omega)]
   ·subst h
    simp only [dv] at hv
    omega
   ·simp only [dv] at hv ⊢
    rw [hv]
    omega
theorem of_f (x : Int) (h0 : 0 ≤ x) (h1 : x ≤ 9223372036854775807) : ∃ r, Ev (fun k => dioramaref02_Of.f k x) r ∧ Nn r ∧ dv 1000000000 r = x ∧ r.length ≤ 3 := by
 obtain ⟨r, he, h⟩ := of_l 3 x [] h0 (by simp [pw]; omega) h1 (by simp)
 exact ⟨r, he, h⟩
theorem trimmed_l (l : List Int) (hd : Dg 1000000000 l) (hl : l.length ≤ 1000000) : ∀ n : Nat, n ≤ l.length → dv 1000000000 (l.take n) = dv 1000000000 l → ∃ r, Ev (fun k => dioramaref02_trimmed.l0 k l (n : Int)) r ∧ Nn r ∧ dv 1000000000 r = dv 1000000000 l ∧ r.length ≤ n := by
 intro n
 induction n with
 | zero =>
  intro _ hv
  refine ⟨[], Ev.step (f := fun _ => some []) (fun k => ?_) (Ev.now _), Cn.nil _, by rw [← hv]; rfl, Nat.le_refl _⟩
  simp [dioramaref02_trimmed.l0]
 | succ n ih =>
  intro hn hv
  have hw : wrap64 (((n + 1 : Nat) : Int) - 1) = (n : Int) := by rw [w64 (by omega) (by omega)]; omega
  by_cases hz : l.getD n 0 = 0
  ·obtain ⟨r, he, hc, hr, hlr⟩ := ih (by omega) (by rw [← hv] ; rw [dv_take_succ', hz]; omega)
   refine ⟨r, Ev.step (fun k => ?_) he, hc, hr, by omega⟩
   simp only [dioramaref02_trimmed.l0, hw, rd_nat]
   rw [if_pos (by omega), if_pos (by omega), if_pos (by omega), if_pos hz]
  ·refine ⟨l.take (n + 1), Ev.step (f := fun _ => some (l.take (n + 1))) (fun k => ?_) (Ev.now _), ⟨hd.take _, top_of_getD ?_⟩, hv, by simp; omega⟩
   ·simp only [dioramaref02_trimmed.l0, hw, rd_nat]
    rw [if_pos (by omega), if_pos (by omega), if_pos (by omega), if_neg hz, if_pos (by omega), if_pos (by omega), Int.toNat_natCast]
   ·rw [List.length_take, Nat.min_eq_left (by omega)]
    simp only [Nat.add_sub_cancel]
    rw [List.getD_eq_getElem?_getD, List.getElem?_take_of_lt (by omega), ← List.getD_eq_getElem?_getD]
    exact hz
theorem trimmed_f (l : List Int) (hd : Dg 1000000000 l) (hl : l.length ≤ 1000000) : ∃ r, Ev (fun k => dioramaref02_trimmed.f k l) r ∧ Nn r ∧ dv 1000000000 r = dv 1000000000 l ∧ r.length ≤ l.length :=
 trimmed_l l hd hl l.length (Nat.le_refl _) (by rw [List.take_length])
theorem cmp1 {x y : Int} (h : x < y) : Nd.cmpI x y = -1 := by unfold Nd.cmpI; rw [if_pos h]
theorem cmp2 {x y : Int} (h : y < x) : Nd.cmpI x y = 1 := by unfold Nd.cmpI; rw [if_neg (by omega), if_pos h]
theorem cmp0 {x y : Int} (h : x = y) : Nd.cmpI x y = 0 := by unfold Nd.cmpI; rw [if_neg (by omega), if_neg (by omega)]
theorem compare_l (a b : List Int) (ha : Dg 1000000000 a) (hb : Dg 1000000000 b) (hl : a.length = b.length) (hn : a.length ≤ 1000000) : ∀ i : Nat, i ≤ a.length → dv 1000000000 (a.drop i) = dv 1000000000 (b.drop i) →
  Ev (fun k => dioramaref02_Compare.l0 k a b ((i : Int) - 1)) (Nd.cmpI (dv 1000000000 a) (dv 1000000000 b)) := by
 intro i
 induction i with
 | zero =>
  intro _ h
  refine Ev.step (f := fun _ => some 0) (fun k => ?_) (by rw [cmp0 (by simpa using h)]; exact Ev.now _)
  simp [dioramaref02_Compare.l0]
 | succ i ih =>
  intro hi h
  have e : (((i + 1 : Nat) : Int) - 1) = (i : Int) := by omega
  have hw : wrap64 ((i : Int) - 1) = (i : Int) - 1 := w64 (by omega) (by omega)
  rw [e]
  rcases Int.lt_trichotomy (a.getD i 0) (b.getD i 0) with h1 | h1 | h1
  ·rw [cmp1 (dv_less (by decide) ha hb hl i (by omega) h h1)]
   refine Ev.step (f := fun _ => some (-1)) (fun k => ?_) (Ev.now _)
   simp only [dioramaref02_Compare.l0, rd_nat]
   rw [if_pos (by omega), if_pos (by omega), if_pos (by omega), if_pos (by omega), if_pos h1]
  ·refine Ev.step (fun k => ?_) (ih (by omega) (by rw [dv_drop _ a i (by omega), dv_drop _ b i (by omega), h1, h]))
   simp only [dioramaref02_Compare.l0, rd_nat, hw]
   rw [if_pos (by omega), if_pos (by omega), if_pos (by omega), if_pos (by omega), if_neg (by omega), if_neg (by omega)]
  ·rw [cmp2 (dv_less (by decide) hb ha hl.symm i (by omega) h.symm h1)]
   refine Ev.step (f := fun _ => some 1) (fun k => ?_) (Ev.now _)
   simp only [dioramaref02_Compare.l0, rd_nat]
   rw [if_pos (by omega), if_pos (by omega), if_pos (by omega), if_pos (by omega), if_neg (by omega), if_pos h1]
theorem compare_f (a b : List Int) (ha : Nn a) (hb : Nn b) (hn : a.length ≤ 1000000) (hm : b.length ≤ 1000000) : Ev (fun k => dioramaref02_Compare.f k a b) (Nd.cmpI (dv 1000000000 a) (dv 1000000000 b)) := by
 by_cases hl : a.length = b.length
 ·have h := compare_l a b ha.dg hb.dg hl hn a.length (Nat.le_refl _) (by rw [List.drop_of_length_le (Nat.le_refl _), List.drop_of_length_le (by omega)])
  refine Ev.congr (fun k => ?_) h
  simp only [dioramaref02_Compare.f]
  rw [if_pos (by omega), w64 (by omega) (by omega)]
 ·by_cases h1 : a.length < b.length
  ·rw [cmp1 (dv_len (by decide) ha.dg hb h1)]
   refine Ev.congr (f := fun _ => some (-1)) (fun k => ?_) (Ev.now _)
   simp only [dioramaref02_Compare.f]
   rw [if_neg (by omega), if_pos (by omega)]
  ·rw [cmp2 (dv_len (by decide) hb.dg ha (by omega))]
   refine Ev.congr (f := fun _ => some 1) (fun k => ?_) (Ev.now _)
   simp only [dioramaref02_Compare.f]
   rw [if_neg (by omega), if_neg (by omega)]
end Go.Proofs.Ytpbhepdgamoiaaa.Pa
namespace Go.Proofs.Ytpbhepdgamoiaaa.Pb
open Go.RowKit Go.Proofs.Ytpbhepdgamoiaaa.P Go.Proofs.Ytpbhepdgamoiaaa.E Go.Proofs.YtpbhepdgamoiaaaW.PrintWords Go.Proofs.YtpbhepdgamoiaaaW.PrintLast Go.Proofs.Ytpbhepdgamoiaaa.Ml Go.Proofs.Ytpbhepdgamoiaaa.Mn Go.Proofs.Ytpbhepdgamoiaaa.Pa
set_option linter.unusedVariables false
set_option linter.unusedSimpArgs false
theorem nv_take_all {l : List Int} {n : Nat} (h : l.length ≤ n) : dv 1000000000 (l.take n) = dv 1000000000 l := by rw [List.take_of_length_le h]
theorem dg_snoc {l : List Int} {x : Int} (h : Dg 1000000000 l) (h0 : 0 ≤ x) (h1 : x < 1000000000) : Dg 1000000000 (l ++ [x]) := h.append (Dg.cons h0 h1 (Dg.nil _))
theorem w1 {i : Nat} (h : i ≤ 10000000) : wrap64 ((i : Int) + 1) = ((i + 1 : Nat) : Int) := by rw [w64 (by omega) (by omega)]; omega
theorem minus_l (a b : List Int) (ha : Dg 1000000000 a) (hb : Dg 1000000000 b) (hn : a.length ≤ 1000000) (hlb : b.length ≤ a.length) (hle : dv 1000000000 b ≤ dv 1000000000 a) :
  ∀ (d i : Nat) (out : List Int) (c : Int), i + d = a.length → out.length = i → Dg 1000000000 out → 0 ≤ c → c ≤ 1 → dv 1000000000 out = dv 1000000000 (a.take i) - dv 1000000000 (b.take i) + c * pw 1000000000 i →
  ∃ r, Ev (fun k => dioramaref02_Minus.l0 k a b out c (i : Int)) r ∧ Nn r ∧ dv 1000000000 r = dv 1000000000 a - dv 1000000000 b ∧ r.length ≤ a.length := by
 intro d
 induction d with
 | zero =>
  intro i out c hi hl hd h0 h1 hv
  obtain ⟨r, he, hc, hr, hlr⟩ := trimmed_f out hd (by omega)
  have hlt := dv_lt (by decide) hd
  rw [hl] at hlt
  rw [nv_take_all (by omega), nv_take_all (by omega)] at hv
  have c0 : c = 0 := by
   rcases (show c = 0 ∨ c = 1 by omega) with h | h
   ·exact h
   ·rw [h] at hv
    omega
  refine ⟨r, Ev.step (f := fun k => (dioramaref02_trimmed.f k out).bind fun t => some t) (fun k => ?_) (Ev.bind he (Ev.now _)), hc, by rw [hr, hv, c0]; omega, by omega⟩
  simp only [dioramaref02_Minus.l0]
  rw [if_neg (by omega)]
 | succ d ih =>
  intro i out c hi hl hd h0 h1 hv
  have hx := ha.getD (by decide) i
  have hy := hb.getD (by decide) i
  have e1 := dv_take_succ' 1000000000 a i
  have e2 := dv_take_succ' 1000000000 b i
  have e3 := pw_succ 1000000000 i
  generalize hxv : a.getD i 0 = x at *
  generalize hyv : b.getD i 0 = y at *
  have hw : wrap64 (wrap64 (x - y) - c) = x - y - c := by rw [w64 (x := x - y) (by omega) (by omega), w64 (by omega) (by omega)]
  have hw2 : wrap64 (x - y - c + 1000000000) = x - y - c + 1000000000 := w64 (by omega) (by omega)
  by_cases hneg : x - y - c < 0
  ·obtain ⟨r, he, h⟩ := ih (i + 1) (out ++ [x - y - c + 1000000000]) 1 (by omega) (by simp [hl]) (dg_snoc hd (by omega) (by omega)) (by decide) (by decide) (by
    rw [dv_snoc, hl, hv, e1, e2, e3]
    grind)
   refine ⟨r, Ev.step (fun k => ?_) he, h⟩
   simp only [dioramaref02_Minus.l0]
   rw [if_pos (by omega), digit_f, digit_f, hxv, hyv]
   simp only [Option.bind_some, hw, hw2]
   rw [if_pos hneg, if_pos (by omega), w1 (by omega)]
  ·obtain ⟨r, he, h⟩ := ih (i + 1) (out ++ [x - y - c]) 0 (by omega) (by simp [hl]) (dg_snoc hd (by omega) (by omega)) (by decide) (by decide) (by
    rw [dv_snoc, hl, hv, e1, e2]
    grind)
   refine ⟨r, Ev.step (fun k => ?_) he, h⟩
   simp only [dioramaref02_Minus.l0]
   rw [if_pos (by omega), digit_f, digit_f, hxv, hyv]
   simp only [Option.bind_some, hw, hw2]
   rw [if_neg hneg, if_pos (by omega), w1 (by omega)]
theorem len_le {a b : List Int} (ha : Nn a) (hb : Nn b) (h : dv 1000000000 b ≤ dv 1000000000 a) : b.length ≤ a.length := by
 refine Nat.le_of_not_lt fun hl => ?_
 have := dv_len (by decide) ha.dg hb hl
 omega
theorem minus_f (a b : List Int) (ha : Nn a) (hb : Nn b) (hn : a.length ≤ 1000000) (hle : dv 1000000000 b ≤ dv 1000000000 a) : ∃ r, Ev (fun k => dioramaref02_Minus.f k a b) r ∧ Nn r ∧ dv 1000000000 r = dv 1000000000 a - dv 1000000000 b ∧ r.length ≤ a.length :=
 minus_l a b ha.dg hb.dg hn (len_le ha hb hle) hle a.length 0 [] 0 (by omega) rfl (Dg.nil _) (by decide) (by decide) (by simp [dv])
theorem plus_l (a b : List Int) (ha : Nn a) (hb : Nn b) (hn : a.length ≤ 1000000) (hm : b.length ≤ 1000000) :
  ∀ (d i : Nat) (out : List Int) (c : Int), i + d = max a.length b.length + 1 → out.length = i → Dg 1000000000 out → 0 ≤ c → c ≤ 1 → (i ≤ max a.length b.length ∨ c = 0) → (i < a.length ∨ i < b.length ∨ 0 < c ∨ Top out) → dv 1000000000 out = dv 1000000000 (a.take i) + dv 1000000000 (b.take i) - c * pw 1000000000 i →
  ∃ r, Ev (fun k => dioramaref02_Plus.l0 k a b out c (i : Int)) r ∧ Nn r ∧ dv 1000000000 r = dv 1000000000 a + dv 1000000000 b ∧ r.length ≤ max a.length b.length + 1 := by
 intro d
 induction d with
 | zero =>
  intro i out c hi hl hd h0 h1 hic ht hv
  have c0 : c = 0 := by omega
  subst c0
  rw [nv_take_all (by omega), nv_take_all (by omega)] at hv
  refine ⟨out, Ev.step (f := fun k => dioramaref02_Plus.j1 k a b out 0 (i : Int) (decide ((0 : Int) > 0))) (fun k => ?_) (Ev.step (f := fun _ => some out) (fun k => ?_) (Ev.now _)), ⟨hd, ?_⟩, by rw [hv]; omega, by omega⟩
  ·simp only [dioramaref02_Plus.l0]
   rw [if_neg (by omega), if_neg (by omega)]
  ·simp [dioramaref02_Plus.j1]
  ·rcases ht with h | h | h | h
   ·omega
   ·omega
   ·omega
   ·exact h
 | succ d ih =>
  intro i out c hi hl hd h0 h1 hic ht hv
  by_cases hgo : i < a.length ∨ i < b.length ∨ 0 < c
  ·have hx := ha.dg.getD (by decide) i
   have hy := hb.dg.getD (by decide) i
   have e1 := dv_take_succ' 1000000000 a i
   have e2 := dv_take_succ' 1000000000 b i
   have e3 := pw_succ 1000000000 i
   have zx : a.length ≤ i → a.getD i 0 = 0 := fun h => getD_ge h
   have zy : b.length ≤ i → b.getD i 0 = 0 := fun h => getD_ge h
   have tx : i + 1 = a.length → a.getD i 0 ≠ 0 := fun h => by have := top_getD ha.top (by omega); rwa [← h, Nat.add_sub_cancel] at this
   have ty : i + 1 = b.length → b.getD i 0 ≠ 0 := fun h => by have := top_getD hb.top (by omega); rwa [← h, Nat.add_sub_cancel] at this
   generalize hxv : a.getD i 0 = x at *
   generalize hyv : b.getD i 0 = y at *
   have hw : wrap64 (wrap64 (x + y) + c) = x + y + c := by rw [w64 (x := x + y) (by omega) (by omega), w64 (by omega) (by omega)]
   have hw2 : wrap64 ((x + y + c) / 1000000000) = (x + y + c) / 1000000000 := w64 (by omega) (by omega)
   obtain ⟨r, he, h⟩ := ih (i + 1) (out ++ [(x + y + c) % 1000000000]) ((x + y + c) / 1000000000) (by omega) (by simp [hl]) (dg_snoc hd (by omega) (by omega)) (by omega) (by omega)
    (by
     by_cases hmx : i < max a.length b.length
     ·left; omega
     ·right
      rw [zx (by omega), zy (by omega)]
      omega)
    (by
     by_cases g1 : i + 1 < a.length
     ·exact .inl g1
     ·by_cases g2 : i + 1 < b.length
      ·exact .inr (.inl g2)
      ·by_cases g3 : 0 < (x + y + c) / 1000000000
       ·exact .inr (.inr (.inl g3))
       ·refine .inr (.inr (.inr (top_of_getD ?_)))
        have hne : (x + y + c) % 1000000000 ≠ 0 := by
         rcases hgo with g | g | g
         ·have := tx (by omega); omega
         ·have := ty (by omega); omega
         ·omega
        simp only [List.length_append, List.length_singleton, Nat.add_sub_cancel]
        rw [List.getD_eq_getElem?_getD, List.getElem?_append_right (Nat.le_refl _)]
        simpa using hne)
    (by
     rw [dv_snoc, hl, hv, e1, e2, e3]
     have hdm := Int.mul_ediv_add_emod (x + y + c) 1000000000
     generalize (x + y + c) / 1000000000 = Q at *
     generalize (x + y + c) % 1000000000 = R at *
     have : R = x + y + c - 1000000000 * Q := by omega
     subst this
     grind)
   refine ⟨r, ?_, h⟩
   have hj : Ev (fun k => dioramaref02_Plus.j1 k a b out c (i : Int) true) r := by
    refine Ev.step (fun k => ?_) he
    simp only [dioramaref02_Plus.j1, if_true]
    rw [digit_f, digit_f, hxv, hyv]
    simp only [Option.bind_some, hw]
    rw [if_pos (by omega), tmodB (by omega), tdivB (by omega), hw2, w1 (by omega)]
   refine Ev.step (fun k => ?_) hj
   simp only [dioramaref02_Plus.l0]
   by_cases g1 : i < a.length
   ·rw [if_pos (by omega)]
   ·rw [if_neg (by omega)]
    by_cases g2 : i < b.length
    ·rw [if_pos (by omega)]
    ·rw [if_neg (by omega), decide_eq_true (show c > 0 by omega)]
  ·have c0 : c = 0 := by omega
   subst c0
   rw [nv_take_all (by omega), nv_take_all (by omega)] at hv
   refine ⟨out, Ev.step (f := fun k => dioramaref02_Plus.j1 k a b out 0 (i : Int) (decide ((0 : Int) > 0))) (fun k => ?_) (Ev.step (f := fun _ => some out) (fun k => ?_) (Ev.now _)), ⟨hd, ?_⟩, by rw [hv]; omega, by omega⟩
   ·simp only [dioramaref02_Plus.l0]
    rw [if_neg (by omega), if_neg (by omega)]
   ·simp [dioramaref02_Plus.j1]
   ·rcases ht with h | h | h | h
    ·omega
    ·omega
    ·omega
    ·exact h
theorem plus_f (a b : List Int) (ha : Nn a) (hb : Nn b) (hn : a.length ≤ 1000000) (hm : b.length ≤ 1000000) : ∃ r, Ev (fun k => dioramaref02_Plus.f k a b) r ∧ Nn r ∧ dv 1000000000 r = dv 1000000000 a + dv 1000000000 b ∧ r.length ≤ max a.length b.length + 1 :=
 plus_l a b ha hb hn hm (max a.length b.length + 1) 0 [] 0 (by omega) rfl (Dg.nil _) (by decide) (by decide) (.inr rfl) (.inr (.inr (.inr (fun h => absurd rfl h)))) (by simp [dv])
theorem mulB {c x y o : Int} (hc0 : 0 ≤ c) (hc1 : c < 1000000000) (hx0 : 0 ≤ x) (hx1 : x < 1000000000) (hy0 : 0 ≤ y) (hy1 : y < 1000000000) (ho0 : 0 ≤ o) (ho1 : o < 1000000000) :
  wrap64 (wrap64 (o + wrap64 (x * y)) + c) = o + x * y + c ∧ 0 ≤ o + x * y + c ∧ wrap64 (Int.tdiv (o + x * y + c) 1000000000) = (o + x * y + c) / 1000000000 ∧ (o + x * y + c) / 1000000000 < 1000000000 := by
 obtain ⟨h1, h2⟩ := mul_lt_sq hx0 hx1 hy0 hy1
 have h2' : x * y ≤ 999999998000000001 := h2
 rw [w64 (x := x * y) (by omega) (by omega), w64 (x := o + x * y) (by omega) (by omega), w64 (x := o + x * y + c) (by omega) (by omega), tdivB (by omega), w64 (by omega) (by omega)]
 refine ⟨rfl, by omega, rfl, by omega⟩
set_option maxHeartbeats 1000000 in
theorem times_l1 (a b : List Int) (i : Nat) (x : Int) (hx : a.getD i 0 = x) (hi : i < a.length) (hb : Dg 1000000000 b) (hx0 : 0 ≤ x) (hx1 : x < 1000000000) (hn : a.length + b.length ≤ 1000000) :
  ∀ (d j : Nat) (out : List Int) (c : Int), j + d = b.length → Dg 1000000000 out → out.length = a.length + b.length → 0 ≤ c → c < 1000000000 → (∀ m, i + b.length ≤ m → out.getD m 0 = 0) →
  ∃ out', (∀ r, Ev (fun k => dioramaref02_Times.l0 k a b out' ((i + 1 : Nat) : Int)) r → Ev (fun k => dioramaref02_Times.l1 k a b out (i : Int) c (j : Int)) r) ∧ out'.length = a.length + b.length ∧ Dg 1000000000 out' ∧
   dv 1000000000 out' = dv 1000000000 out + c * pw 1000000000 (i + j) + x * dv 1000000000 (b.drop j) * pw 1000000000 (i + j) ∧ ∀ m, i + 1 + b.length ≤ m → out'.getD m 0 = 0 := by
 intro d
 induction d with
 | zero =>
  intro j out c hj hd hl h0 h1 hz
  obtain rfl : j = b.length := by omega
  have hend : ∀ (out : List Int) (j : Nat) r, b.length ≤ j → Ev (fun k => dioramaref02_Times.l0 k a b out ((i + 1 : Nat) : Int)) r → Ev (fun k => dioramaref02_Times.l1 k a b out (i : Int) 0 (j : Int)) r := by
   intro out j r hj he
   refine Ev.step (fun k => ?_) he
   simp only [dioramaref02_Times.l1]
   rw [if_neg (by omega), if_neg (by omega), w1 (by omega)]
  rw [List.drop_of_length_le (Nat.le_refl _)]
  by_cases hc : c = 0
  ·subst hc
   exact ⟨out, fun r he => hend out _ r (Nat.le_refl _) he, hl, hd, by simp [dv], fun m hm => hz m (by omega)⟩
  ·refine ⟨out.set (i + b.length) c, fun r he => ?_, by simp [hl], hd.set _ h0 h1, ?_, fun m hm => by rw [getD_set (by omega)]; exact hz m (by omega)⟩
   ·have h2 := hend (out.set (i + b.length) c) (b.length + 1) r (by omega) he
    refine Ev.step (fun k => ?_) h2
    have hw : wrap64 ((i : Int) + (b.length : Int)) = ((i + b.length : Nat) : Int) := by rw [w64 (by omega) (by omega)]; omega
    obtain ⟨g1, g2, g3, g4⟩ := mulB (o := 0) (y := 0) h0 h1 hx0 hx1 (by decide) (by decide) (by decide) (by decide)
    have e0 : (0 : Int) + x * 0 + c = c := by omega
    rw [e0] at g1 g3
    simp only [dioramaref02_Times.l1, hw, rd_nat, hx, Int.toNat_natCast]
    rw [if_neg (by omega), if_pos (by omega), if_pos (by omega), if_pos (by omega), if_pos (by omega), if_pos (by omega), digit_f, getD_ge (Nat.le_refl _), hz _ (Nat.le_refl _)]
    simp only [Option.bind_some, g1, g3]
    rw [tmodB h0, Int.emod_eq_of_lt h0 h1, Int.ediv_eq_zero_of_lt h0 h1, w1 (by omega)]
   ·rw [dv_set _ _ _ _ (by omega), hz _ (Nat.le_refl _)]
    simp [dv]
 | succ d ih =>
  intro j out c hj hd hl h0 h1 hz
  have hy := hb.getD (by decide) j
  have ho := hd.getD (by decide) (i + j)
  have c1 : (j : Int) < (b.length : Int) := by omega
  have c2 : 0 ≤ ((i + j : Nat) : Int) := by omega
  have c3 : ((i + j : Nat) : Int) < (out.length : Int) := by omega
  have c4 : 0 ≤ (i : Int) := by omega
  have c5 : (i : Int) < (a.length : Int) := by omega
  have c6 : i + j < out.length := by omega
  have c7 : j < b.length := by omega
  have hw : wrap64 ((i : Int) + (j : Int)) = ((i + j : Nat) : Int) := by rw [w64 (by omega) (by omega)]; omega
  have hw1 := w1 (i := j) (by omega)
  have HW := Aside0.mk (And.intro hw hw1)
  clear hw hw1
  generalize hyv : b.getD j 0 = y at *
  generalize hov : out.getD (i + j) 0 = o at *
  obtain ⟨g1, g2, g3, g4⟩ := mulB h0 h1 hx0 hx1 hy.1 hy.2 ho.1 ho.2
  have gm := Int.mul_ediv_add_emod (o + x * y + c) 1000000000
  have gr0 := Int.emod_nonneg (o + x * y + c) (show (1000000000 : Int) ≠ 0 by decide)
  have gr1 := Int.emod_lt_of_pos (o + x * y + c) (show (0 : Int) < 1000000000 by decide)
  have gq0 : 0 ≤ (o + x * y + c) / 1000000000 := Int.ediv_nonneg g2 (by decide)
  have gt := tmodB g2
  generalize (o + x * y + c) / 1000000000 = q at *
  generalize (o + x * y + c) % 1000000000 = r' at *
  have hs : r' + 1000000000 * q = c + (x * y + o) := by clear g1 g3 gt; omega
  have HG := Aside0.mk (And.intro g1 (And.intro g3 gt))
  clear g1 g3 gt gm
  obtain ⟨out', k1, k2, k3, k4, k5⟩ := ih (j + 1) (out.set (i + j) r') q (by omega) (hd.set _ gr0 gr1) (by simp [hl]) gq0 g4 (fun m hm => by rw [getD_set (by omega)]; exact hz m hm)
  refine ⟨out', fun r he => ?_, k2, k3, ?_, k5⟩
  ·refine Ev.step (fun k => ?_) (k1 r he)
   simp only [dioramaref02_Times.l1, HW.out.1, rd_nat, hx, Int.toNat_natCast]
   rw [if_pos c1, if_pos c2, if_pos c3, if_pos c4, if_pos c5, digit_f, hyv, hov]
   simp only [Option.bind_some, HG.out.1, HG.out.2.1, HG.out.2.2, HW.out.2]
  ·rw [k4, dv_set _ _ _ _ c6, hov, dv_drop 1000000000 b j c7, hyv, ← Nat.add_assoc, pw_succ]
   exact (mul_step hs).symm
theorem times_l0 (a b : List Int) (ha : Dg 1000000000 a) (hb : Dg 1000000000 b) (hn : a.length + b.length ≤ 1000000) :
  ∀ (d i : Nat) (out : List Int), i + d = a.length → Dg 1000000000 out → out.length = a.length + b.length → dv 1000000000 out = dv 1000000000 (a.take i) * dv 1000000000 b → (∀ m, i + b.length ≤ m → out.getD m 0 = 0) →
  ∃ r, Ev (fun k => dioramaref02_Times.l0 k a b out (i : Int)) r ∧ Nn r ∧ dv 1000000000 r = dv 1000000000 a * dv 1000000000 b ∧ r.length ≤ a.length + b.length := by
 intro d
 induction d with
 | zero =>
  intro i out hi hd hl hv hz
  obtain ⟨r, he, hc, hr, hlr⟩ := trimmed_f out hd (by omega)
  refine ⟨r, Ev.step (f := fun k => (dioramaref02_trimmed.f k out).bind fun t => some t) (fun k => ?_) (Ev.bind he (Ev.now _)), hc, by rw [hr, hv, nv_take_all (by omega)], by omega⟩
  simp only [dioramaref02_Times.l0]
  rw [if_neg (by omega)]
 | succ d ih =>
  intro i out hi hd hl hv hz
  have hx := ha.getD (by decide) i
  obtain ⟨out', k1, k2, k3, k4, k5⟩ := times_l1 a b i (a.getD i 0) rfl (by omega) hb hx.1 hx.2 hn b.length 0 out 0 (by omega) hd hl (by decide) (by decide) hz
  obtain ⟨r, he, h⟩ := ih (i + 1) out' (by omega) k3 k2 (by
   rw [k4, hv, dv_take_succ' _ a i]
   simp only [List.drop_zero, Nat.add_zero]
   grind) (fun m hm => k5 m (by omega))
  refine ⟨r, Ev.step (fun k => ?_) (k1 r he), h⟩
  simp only [dioramaref02_Times.l0]
  rw [if_pos (by omega)]
  rfl
theorem times_f (a b : List Int) (ha : Nn a) (hb : Nn b) (hn : a.length + b.length ≤ 1000000) : ∃ r, Ev (fun k => dioramaref02_Times.f k a b) r ∧ Nn r ∧ dv 1000000000 r = dv 1000000000 a * dv 1000000000 b ∧ r.length ≤ a.length + b.length := by
 have e1 : wrap64 ((a.length : Int) + (b.length : Int)) = ((a.length + b.length : Nat) : Int) := by rw [w64 (by omega) (by omega)]; omega
 obtain ⟨r, he, h⟩ := times_l0 a b ha.dg hb.dg hn a.length 0 (List.replicate (a.length + b.length) 0) (by omega) (Dg.replicate (by decide) _) (by simp) (by rw [dv_replicate]; simp [dv]) (fun m _ => by
  rw [List.getD_eq_getElem?_getD, List.getElem?_replicate]
  split <;> rfl)
 refine ⟨r, Ev.congr (fun k => ?_) he, h⟩
 simp only [dioramaref02_Times.f, e1, Int.toNat_natCast]
 rw [if_pos (by omega), if_pos (by omega)]
 rfl
theorem drop_le (l : List Int) (hd : Dg 1000000000 l) (i : Nat) : dv 1000000000 (l.drop i) ≤ dv 1000000000 l ∧ 0 ≤ dv 1000000000 (l.drop i) := by
 have h0 := dv_nonneg (by decide) (hd.drop i)
 refine ⟨?_, h0⟩
 by_cases hi : i ≤ l.length
 ·have h1 := dv_split 1000000000 l i hi
  have h2 := dv_nonneg (by decide) (hd.take i)
  have h3 : 0 < pw 1000000000 i := pow_pos (by decide) i
  have h4 : 1 * dv 1000000000 (l.drop i) ≤ pw 1000000000 i * dv 1000000000 (l.drop i) := Int.mul_le_mul_of_nonneg_right (by omega) h0
  omega
 ·rw [List.drop_of_length_le (by omega)]
  exact dv_nonneg (by decide) hd
theorem small_l (l : List Int) (hd : Dg 1000000000 l) (hn : l.length ≤ 1000000) (hs : dv 1000000000 l ≤ 9223372036854775807) : ∀ i : Nat, i ≤ l.length → Ev (fun k => dioramaref02_Small.l0 k l (dv 1000000000 (l.drop i)) ((i : Int) - 1)) (dv 1000000000 l, true) := by
 intro i
 induction i with
 | zero =>
  intro _
  refine Ev.step (f := fun _ => some (dv 1000000000 l, true)) (fun k => ?_) (Ev.now _)
  simp [dioramaref02_Small.l0]
 | succ i ih =>
  intro hi
  have e : (((i + 1 : Nat) : Int) - 1) = (i : Int) := by omega
  have h1 := dv_drop 1000000000 l i (by omega)
  have h2 := drop_le l hd i
  have h3 := drop_le l hd (i + 1)
  have hx := hd.getD (by decide) i
  rw [e]
  refine Ev.step (fun k => ?_) (ih (by omega))
  simp only [dioramaref02_Small.l0, rd_nat]
  rw [if_pos (by omega), if_pos (by omega), if_pos (by omega), w64 (x := _ * 1000000000) (by omega) (by omega), w64 (x := _ + _) (by omega) (by omega), w64 (x := (i : Int) - 1) (by omega) (by omega), h1]
  congr 1
  omega
theorem small_f (l : List Int) (most : Int) (hl : Nn l) (hn : l.length ≤ 1000000) (h0 : 0 ≤ most) (h1 : most ≤ 9223372036854775807) : Ev (fun k => dioramaref02_Small.f k l most) (if most < dv 1000000000 l then (0, false) else (dv 1000000000 l, true)) := by
 obtain ⟨r, he, hr, hv, hlr⟩ := of_f most h0 h1
 have hc := compare_f l r hl hr hn (by omega)
 rw [hv] at hc
 by_cases hb : most < dv 1000000000 l
 ·rw [if_pos hb]
  rw [cmp2 hb] at hc
  exact Ev.bind he (Ev.bind hc (Ev.congr (f := fun _ => some (0, false)) (fun k => by simp) (Ev.now _)))
 ·rw [if_neg hb]
  have hle : ¬ (Nd.cmpI (dv 1000000000 l) most > 0) := by
   unfold Nd.cmpI
   by_cases h2 : dv 1000000000 l < most
   ·rw [if_pos h2]; decide
   ·rw [if_neg h2, if_neg hb]; decide
  have h2 := small_l l hl.dg hn (by omega) l.length (Nat.le_refl _)
  rw [List.drop_of_length_le (Nat.le_refl _)] at h2
  refine Ev.bind he (Ev.bind hc (Ev.congr (fun k => ?_) h2))
  rw [if_neg hle, w64 (by omega) (by omega)]
  rfl
end Go.Proofs.Ytpbhepdgamoiaaa.Pb
namespace Go.Proofs.Ytpbhepdgamoiaaa.Pc
open Go.RowKit Go.Proofs.Ytpbhepdgamoiaaa.P Go.Proofs.Ytpbhepdgamoiaaa.E Go.Proofs.YtpbhepdgamoiaaaW.PrintWords Go.Proofs.YtpbhepdgamoiaaaW.PrintLast Go.Proofs.Ytpbhepdgamoiaaa.Ml Go.Proofs.Ytpbhepdgamoiaaa.Mn Go.Proofs.Ytpbhepdgamoiaaa.Pa Go.Proofs.Ytpbhepdgamoiaaa.Pb
set_option linter.unusedVariables false
set_option linter.unusedSimpArgs false
theorem drop_set' {l : List Int} {i : Nat} {v : Int} : (l.set i v).drop (i + 1) = l.drop (i + 1) := by
 rw [List.drop_set]
 simp
theorem over_l1 (a b q rest : List Int) (i : Nat) (hb : Nn b) (hr : Nn rest) (hi : i < q.length) (hq : q.length ≤ 1000000) (hlb : b.length ≤ 100000) (hlr : rest.length ≤ 200000) (hbp : 0 < dv 1000000000 b) :
  ∀ (m : Nat) (low high : Int), high - low ≤ m → 0 ≤ low → low ≤ high → high ≤ 999999999 → low * dv 1000000000 b ≤ dv 1000000000 rest → dv 1000000000 rest < (high + 1) * dv 1000000000 b →
  ∃ t rest', 0 ≤ t ∧ t < 1000000000 ∧ Nn rest' ∧ dv 1000000000 rest = t * dv 1000000000 b + dv 1000000000 rest' ∧ dv 1000000000 rest' < dv 1000000000 b ∧ (∀ r, Ev (fun k => dioramaref02_Over.l0 k a b (q.set i t) rest' ((i : Int) - 1)) r → Ev (fun k => dioramaref02_Over.l1 k a b q rest (i : Int) low high) r) := by
 intro m
 induction m with
 | zero =>
  intro low high hm h0 h1 h2 hlo hhi
  obtain rfl : low = high := by omega
  obtain ⟨o, eo, ho, vo, lo⟩ := of_f low h0 (by omega)
  obtain ⟨p, ep, hp, vp, lp⟩ := times_f b o hb ho (by omega)
  have e1 : dv 1000000000 p = low * dv 1000000000 b := by rw [vp, vo, Int.mul_comm]
  obtain ⟨s, es, hs, vs, ls⟩ := minus_f rest p hr hp (by omega) (by omega)
  have e2 : (low + 1) * dv 1000000000 b = low * dv 1000000000 b + dv 1000000000 b := by rw [Int.add_mul]; omega
  refine ⟨low, s, h0, by omega, hs, by omega, by omega, fun r he => ?_⟩
  refine Ev.step (f := fun k => (dioramaref02_Of.f k low).bind fun t197 => ((dioramaref02_Times.f k b t197).bind fun t200 => ((dioramaref02_Minus.f k rest t200).bind fun t203 => (dioramaref02_Over.l0 k a b (q.set i low) t203 ((i : Int) - 1))))) (fun k => ?_) (Ev.bind eo (Ev.bind ep (Ev.bind es he)))
  simp only [dioramaref02_Over.l1, Int.toNat_natCast]
  rw [if_neg (by omega), if_pos (by omega), if_pos (by omega), w64 (by omega) (by omega)]
 | succ m ih =>
  intro low high hm h0 h1 h2 hlo hhi
  by_cases hlt : low < high
  ·have hmid : wrap64 (Int.tdiv (wrap64 (wrap64 (low + high) + 1)) 2) = (low + high + 1) / 2 := by
    rw [w64 (x := low + high) (by omega) (by omega), w64 (x := low + high + 1) (by omega) (by omega), Int.tdiv_eq_ediv_of_nonneg (by omega), w64 (by omega) (by omega)]
   have hm1 : low < (low + high + 1) / 2 := by omega
   have hm2 : (low + high + 1) / 2 ≤ high := by omega
   generalize (low + high + 1) / 2 = mid at *
   obtain ⟨o, eo, ho, vo, lo⟩ := of_f mid (by omega) (by omega)
   obtain ⟨p, ep, hp, vp, lp⟩ := times_f b o hb ho (by omega)
   have e1 : dv 1000000000 p = mid * dv 1000000000 b := by rw [vp, vo, Int.mul_comm]
   have ec := compare_f p rest hp hr (by omega) (by omega)
   rw [e1] at ec
   by_cases hc : mid * dv 1000000000 b ≤ dv 1000000000 rest
   ·obtain ⟨t, rest', g1, g2, g3, g4, g5, g6⟩ := ih mid high (by omega) (by omega) hm2 h2 hc hhi
    have hle : Nd.cmpI (mid * dv 1000000000 b) (dv 1000000000 rest) ≤ 0 := by
     unfold Nd.cmpI
     by_cases h2 : mid * dv 1000000000 b < dv 1000000000 rest
     ·rw [if_pos h2]; decide
     ·rw [if_neg h2, if_neg (by omega)]; decide
    refine ⟨t, rest', g1, g2, g3, g4, g5, fun r he => ?_⟩
    refine Ev.step (f := fun k => (dioramaref02_Of.f k mid).bind fun t206 => ((dioramaref02_Times.f k b t206).bind fun t209 => ((dioramaref02_Compare.f k t209 rest).bind fun t212 => (if t212 ≤ 0 then (dioramaref02_Over.l1 k a b q rest (i : Int) mid high) else (dioramaref02_Over.l1 k a b q rest (i : Int) low (wrap64 (mid - 1))))))) (fun k => ?_) (Ev.bind eo (Ev.bind ep (Ev.bind ec (Ev.congr (fun k => ?_) (g6 r he)))))
    ·simp only [dioramaref02_Over.l1, hmid]
     rw [if_pos hlt]
    ·rw [if_pos hle]
   ·have hw : wrap64 (mid - 1) = mid - 1 := w64 (by omega) (by omega)
    obtain ⟨t, rest', g1, g2, g3, g4, g5, g6⟩ := ih low (mid - 1) (by omega) h0 (by omega) (by omega) hlo (by rw [Int.sub_add_cancel]; omega)
    have hle : ¬ Nd.cmpI (mid * dv 1000000000 b) (dv 1000000000 rest) ≤ 0 := by
     rw [cmp2 (by omega)]; decide
    refine ⟨t, rest', g1, g2, g3, g4, g5, fun r he => ?_⟩
    refine Ev.step (f := fun k => (dioramaref02_Of.f k mid).bind fun t206 => ((dioramaref02_Times.f k b t206).bind fun t209 => ((dioramaref02_Compare.f k t209 rest).bind fun t212 => (if t212 ≤ 0 then (dioramaref02_Over.l1 k a b q rest (i : Int) mid high) else (dioramaref02_Over.l1 k a b q rest (i : Int) low (wrap64 (mid - 1))))))) (fun k => ?_) (Ev.bind eo (Ev.bind ep (Ev.bind ec (Ev.congr (fun k => ?_) (g6 r he)))))
    ·simp only [dioramaref02_Over.l1, hmid]
     rw [if_pos hlt]
    ·rw [if_neg hle, hw]
  ·exact ih low high (by omega) h0 h1 h2 hlo hhi
theorem over_l0 (a b : List Int) (ha : Dg 1000000000 a) (hb : Nn b) (hla : a.length ≤ 100000) (hlb : b.length ≤ 100000) (hbp : 0 < dv 1000000000 b) :
  ∀ (i : Nat) (q rest : List Int), i ≤ a.length → q.length = a.length → Dg 1000000000 q → Nn rest → dv 1000000000 rest < dv 1000000000 b → dv 1000000000 (a.drop i) = dv 1000000000 (q.drop i) * dv 1000000000 b + dv 1000000000 rest →
  ∃ r1 r2, Ev (fun k => dioramaref02_Over.l0 k a b q rest ((i : Int) - 1)) (r1, r2) ∧ Nn r1 ∧ Nn r2 ∧ dv 1000000000 a = dv 1000000000 r1 * dv 1000000000 b + dv 1000000000 r2 ∧ dv 1000000000 r2 < dv 1000000000 b ∧ r1.length ≤ a.length ∧ r2.length ≤ b.length := by
 have hlen : ∀ {l : List Int}, Nn l → dv 1000000000 l < dv 1000000000 b → l.length ≤ b.length := by
  intro l hl h
  refine Nat.le_of_not_lt fun h2 => ?_
  have := dv_len (by decide) hb.dg hl h2
  omega
 intro i
 induction i with
 | zero =>
  intro q rest _ hq dq hr hlt hv
  obtain ⟨r, he, hc, hvr, hlr⟩ := trimmed_f q dq (by omega)
  rw [List.drop_zero, List.drop_zero] at hv
  refine ⟨r, rest, Ev.step (f := fun k => (dioramaref02_trimmed.f k q).bind fun t => some (t, rest)) (fun k => ?_) (Ev.bind he (Ev.now _)), hc, hr, by rw [hvr]; exact hv, hlt, by omega, hlen hr hlt⟩
  simp [dioramaref02_Over.l0]
 | succ i ih =>
  intro q rest hi hq dq hr hlt hv
  have e : (((i + 1 : Nat) : Int) - 1) = (i : Int) := by omega
  have hx := ha.getD (by decide) i
  have hlr := hlen hr hlt
  obtain ⟨u, eu, hu, vu, lu⟩ := trimmed_f (a.getD i 0 :: rest) (Dg.cons hx.1 hx.2 hr.dg) (by simp; omega)
  have vu2 : dv 1000000000 u = a.getD i 0 + 1000000000 * dv 1000000000 rest := vu
  have r0 := dv_nonneg (by decide) hr.dg
  simp only [List.length_cons] at lu
  obtain ⟨t, rest', g1, g2, g3, g4, g5, g6⟩ := over_l1 a b q u i hb hu (by omega) (by omega) hlb (by omega) hbp 999999999 0 999999999 (by decide) (by decide) (by decide) (by decide) (by have := dv_nonneg (by decide) hu.dg ; omega) (by
   have : (1000000000 : Int) * (dv 1000000000 rest + 1) ≤ 1000000000 * dv 1000000000 b := Int.mul_le_mul_of_nonneg_left (by omega) (by decide)
   rw [vu2]
   omega)
  obtain ⟨r1, r2, he, h⟩ := ih (q.set i t) rest' (by omega) (by simpa using hq) (dq.set _ g1 g2) g3 g5 (by
   rw [dv_drop _ a i (by omega), dv_drop _ (q.set i t) i (by simp; omega), drop_set', getD_set_self (by omega), hv]
   have := vu2
   rw [g4] at this
   grind)
  refine ⟨r1, r2, ?_, h⟩
  rw [e]
  refine Ev.step (f := fun k => (dioramaref02_trimmed.f k (a.getD i 0 :: rest)).bind fun t193 => (dioramaref02_Over.l1 k a b q t193 (i : Int) 0 999999999)) (fun k => ?_) (Ev.bind eu (g6 _ he))
  simp only [dioramaref02_Over.l0, rd_nat, Option.bind_some, List.singleton_append, List.length_singleton]
  rw [if_pos (by omega), if_pos (by omega), if_pos (by omega), if_pos (by omega)]
theorem over_f (a b : List Int) (ha : Nn a) (hb : Nn b) (hla : a.length ≤ 100000) (hlb : b.length ≤ 100000) (hbp : 0 < dv 1000000000 b) :
  ∃ r1 r2, Ev (fun k => dioramaref02_Over.f k a b) (r1, r2) ∧ Nn r1 ∧ Nn r2 ∧ dv 1000000000 a = dv 1000000000 r1 * dv 1000000000 b + dv 1000000000 r2 ∧ dv 1000000000 r2 < dv 1000000000 b ∧ r1.length ≤ a.length ∧ r2.length ≤ b.length := by
 obtain ⟨r1, r2, he, h⟩ := over_l0 a b ha.dg hb hla hlb hbp a.length (List.replicate a.length 0) [] (Nat.le_refl _) (by simp) (Dg.replicate (by decide) _) (Cn.nil _) hbp (by rw [List.drop_of_length_le (Nat.le_refl _), List.drop_of_length_le (by simp)]; simp [dv])
 refine ⟨r1, r2, Ev.congr (fun k => ?_) he, h⟩
 simp only [dioramaref02_Over.f, Int.toNat_natCast]
 rw [if_pos (by omega), if_pos (by omega), w64 (by omega) (by omega)]
end Go.Proofs.Ytpbhepdgamoiaaa.Pc
namespace Go.Proofs.Ytpbhepdgamoiaaa.Qr
open Go.RowKit Go Go.Proofs.YtpbhepdgamoiaaaW.PrintWords Go.Proofs.YtpbhepdgamoiaaaW.PrintLast Go.Proofs.YtpbhepdgamoiaaaW.PrintMore Go.Proofs.Ytpbhepdgamoiaaa.Ml Go.Proofs.Ytpbhepdgamoiaaa.Mn Go.Proofs.Ytpbhepdgamoiaaa.Nd Go.Proofs.Ytpbhepdgamoiaaa.Pa Go.Proofs.Ytpbhepdgamoiaaa.Pb Go.Proofs.Ytpbhepdgamoiaaa.Rf Go.Proofs.Ytpbhepdgamoiaaa.Er Go.Proofs.Ytpbhepdgamoiaaa.Ek Go.Proofs.Ytpbhepdgamoiaaa.E Go.Proofs.Ytpbhepdgamoiaaa.Pe Go.Proofs.Ytpbhepdgamoiaaa.Pf
set_option linter.unusedVariables false
set_option linter.unusedSimpArgs false
structure RV (b : Bool) (x y : List Int) (q : Rat) (n : Nat) : Prop where
 nx : Nn x
 ny : Nn y
 pos : 0 < dv 1000000000 y
 eq : q = qq (sg b (dv 1000000000 x)) (dv 1000000000 y)
 lx : x.length ≤ n
 ly : y.length ≤ n
theorem RV.mono {b : Bool} {x y : List Int} {q : Rat} {n m : Nat} (h : RV b x y q n) (hm : n ≤ m) : RV b x y q m := ⟨h.nx, h.ny, h.pos, h.eq, Nat.le_trans h.lx hm, Nat.le_trans h.ly hm⟩
theorem RV.x0 {b : Bool} {x y : List Int} {q : Rat} {n : Nat} (h : RV b x y q n) : 0 ≤ dv 1000000000 x := dv_nonneg (by decide) h.nx.dg
def RE (f : Nat → Option (Bool × List Int × List Int)) (q : Rat) (n : Nat) : Prop := ∃ b x y, Ev f (b, x, y) ∧ RV b x y q n
theorem qq_parts {a b : Int} (hb : 0 < b) : ∃ g : Int, 0 < g ∧ a = (qq a b).num * g ∧ b = ((qq a b).den : Int) * g := by
 obtain ⟨h1, h2⟩ := rat_low (a := a) (b := b) (by omega)
 refine ⟨(Int.gcd a b : Nat), ?_, ?_, ?_⟩
 ·have := Int.gcd_pos_of_ne_zero_right a (show b ≠ 0 by omega)
  omega
 ·rw [← h1]
  unfold Ra.ratN Ea.lowN
  rw [if_neg (by omega)]
  exact (Int.ediv_mul_cancel (Int.gcd_dvd_left a b)).symm
 ·rw [← h2]
  unfold Ra.ratD Ea.lowD
  rw [if_neg (by omega)]
  exact (Int.ediv_mul_cancel (Int.gcd_dvd_right a b)).symm
theorem qq_lt {a b c d : Int} (hb : 0 < b) (hd : 0 < d) : qq a b < qq c d ↔ a * d < c * b := by
 obtain ⟨g, hg, e1, e2⟩ := qq_parts (a := a) hb
 obtain ⟨h, hh, e3, e4⟩ := qq_parts (a := c) hd
 rw [Rat.lt_iff]
 generalize (qq a b).num = N1 at *
 generalize ((qq a b).den : Int) = D1 at *
 generalize (qq c d).num = N2 at *
 generalize ((qq c d).den : Int) = D2 at *
 subst e1 e2 e3 e4
 have k1 : N1 * g * (D2 * h) = N1 * D2 * (g * h) := by grind
 have k2 : N2 * h * (D1 * g) = N2 * D1 * (g * h) := by grind
 rw [k1, k2]
 exact (Int.mul_lt_mul_right (Int.mul_pos hg hh)).symm
theorem ratio_f (n d : Int) (hn : -9223372036854775807 ≤ n) (hn1 : n ≤ 9223372036854775807) (hd : 0 < d) (hd1 : d ≤ 9223372036854775807) : RE (fun k => dioramaref10_ratio.f k n d) (qq n d) 3 := by
 obtain ⟨y, ey, ny, vy, ly⟩ := of_f d (by omega) hd1
 by_cases h : n < 0
 ·obtain ⟨x, ex, nx, vx, lx⟩ := of_f (-n) (by omega) (by omega)
  refine ⟨true, x, y, ?_, ⟨nx, ny, by rw [vy]; exact hd, by rw [vx, vy]; simp [sg], lx, ly⟩⟩
  refine Ev.congr (fun k => if_pos h) ?_
  rw [w64 (by omega) (by omega)]
  exact Ev.bind ex (Ev.bind ey (Ev.now _))
 ·obtain ⟨x, ex, nx, vx, lx⟩ := of_f n (by omega) hn1
  refine ⟨false, x, y, ?_, ⟨nx, ny, by rw [vy]; exact hd, by rw [vx, vy]; simp [sg], lx, ly⟩⟩
  refine Ev.congr (fun k => if_neg h) ?_
  exact Ev.bind ex (Ev.bind ey (Ev.now _))
theorem sg_ne (a b : Bool) (x y : Int) : sg (a != b) (x * y) = sg a x * sg b y := by cases a <;> cases b <;> simp [sg, Int.neg_mul, Int.mul_neg]
theorem timesR_f {b1 b2 : Bool} {x1 y1 x2 y2 : List Int} {p q : Rat} {n m : Nat} (h1 : RV b1 x1 y1 p n) (h2 : RV b2 x2 y2 q m) (hl : n + m ≤ 1000000) : RE (fun k => dioramaref10_times.f k b1 x1 y1 b2 x2 y2) (p * q) (n + m) := by
 have l1 := h1.lx
 have l2 := h1.ly
 have l3 := h2.lx
 have l4 := h2.ly
 obtain ⟨x, ex, nx, vx, lx⟩ := times_f x1 x2 h1.nx h2.nx (by omega)
 obtain ⟨y, ey, ny, vy, ly⟩ := times_f y1 y2 h1.ny h2.ny (by omega)
 refine ⟨b1 != b2, x, y, Ev.congr (fun k => rfl) (Ev.bind ex (Ev.bind ey (Ev.now _))), ⟨nx, ny, by rw [vy]; exact Int.mul_pos h1.pos h2.pos, ?_, by omega, by omega⟩⟩
 rw [h1.eq, h2.eq, vx, vy, sg_ne]
 unfold qq
 rw [Rat.divInt_mul_divInt]
theorem sumR_f {b1 b2 : Bool} {x1 y1 x2 y2 : List Int} {p q : Rat} {n m : Nat} (h1 : RV b1 x1 y1 p n) (h2 : RV b2 x2 y2 q m) (hl : n + m + 2 ≤ 1000000) : RE (fun k => dioramaref02_Sum.f k b1 x1 y1 b2 x2 y2) (p + q) (n + m + 1) := by
 have l1 := h1.lx
 have l2 := h1.ly
 have l3 := h2.lx
 have l4 := h2.ly
 obtain ⟨u, eu, nu, vu, lu⟩ := times_f x1 y2 h1.nx h2.ny (by omega)
 obtain ⟨v, ev, nv, vv, lv⟩ := times_f x2 y1 h2.nx h1.ny (by omega)
 obtain ⟨y, ey, ny, vy, ly⟩ := times_f y1 y2 h1.ny h2.ny (by omega)
 have hpos : 0 < dv 1000000000 y := by rw [vy]; exact Int.mul_pos h1.pos h2.pos
 have heq : p + q = qq (sg b1 (dv 1000000000 u) + sg b2 (dv 1000000000 v)) (dv 1000000000 y) := by
  have e1 : sg b1 (dv 1000000000 u) = sg b1 (dv 1000000000 x1) * dv 1000000000 y2 := by rw [vu]; cases b1 <;> simp [sg, Int.neg_mul]
  have e2 : sg b2 (dv 1000000000 v) = sg b2 (dv 1000000000 x2) * dv 1000000000 y1 := by rw [vv]; cases b2 <;> simp [sg, Int.neg_mul]
  rw [h1.eq, h2.eq, vy, e1, e2]
  unfold qq
  rw [Rat.divInt_add_divInt _ _ (by have := h1.pos; omega) (by have := h2.pos; omega)]
 by_cases hb : b1 = b2
 ·subst hb
  obtain ⟨s, es, ns, vs, ls⟩ := plus_f u v nu nv (by omega) (by omega)
  refine ⟨b1, s, y, ?_, ⟨ns, ny, hpos, ?_, by omega, by omega⟩⟩
  ·refine Ev.congr (fun k => rfl) (Ev.bind eu (Ev.bind ev (Ev.bind ey ?_)))
   exact Ev.congr (fun k => if_pos (by simp)) (Ev.bind es (Ev.now _))
  ·rw [heq, vs]
   cases b1
   ·simp [sg]
   ·simp [sg, Int.neg_add]
 ·have hc := compare_f u v nu nv (by omega) (by omega)
  have hne : ¬ (b1 == b2) = true := by simpa using hb
  by_cases hle : dv 1000000000 v ≤ dv 1000000000 u
  ·obtain ⟨s, es, ns, vs, ls⟩ := minus_f u v nu nv (by omega) hle
   refine ⟨b1, s, y, ?_, ⟨ns, ny, hpos, ?_, by omega, by omega⟩⟩
   ·refine Ev.congr (fun k => rfl) (Ev.bind eu (Ev.bind ev (Ev.bind ey ?_)))
    refine Ev.congr (fun k => if_neg hne) (Ev.bind hc ?_)
    refine Ev.congr (fun k => if_pos ?_) (Ev.bind es (Ev.now _))
    unfold cmpI
    rw [if_neg (by omega)]
    split <;> decide
   ·rw [heq, vs]
    cases b1 <;> cases b2 <;> simp [sg] at hb ⊢ <;> congr 1 <;> omega
  ·obtain ⟨s, es, ns, vs, ls⟩ := minus_f v u nv nu (by omega) (by omega)
   refine ⟨b2, s, y, ?_, ⟨ns, ny, hpos, ?_, by omega, by omega⟩⟩
   ·refine Ev.congr (fun k => rfl) (Ev.bind eu (Ev.bind ev (Ev.bind ey ?_)))
    refine Ev.congr (fun k => if_neg hne) (Ev.bind hc ?_)
    refine Ev.congr (fun k => if_neg ?_) (Ev.bind es (Ev.now _))
    unfold cmpI
    rw [if_pos (by omega)]
    decide
   ·rw [heq, vs]
    cases b1 <;> cases b2 <;> simp [sg] at hb ⊢ <;> congr 1 <;> omega
theorem plusR_f {b1 b2 : Bool} {x1 y1 x2 y2 : List Int} {p q : Rat} {n m : Nat} (h1 : RV b1 x1 y1 p n) (h2 : RV b2 x2 y2 q m) (hl : n + m + 2 ≤ 1000000) : RE (fun k => dioramaref10_plus.f k b1 x1 y1 b2 x2 y2) (p + q) (n + m + 1) := by
 obtain ⟨b, x, y, he, hv⟩ := sumR_f h1 h2 hl
 exact ⟨b, x, y, Ev.congr (fun k => rfl) (Ev.bind he (Ev.now _)), hv⟩
theorem RV.neg {b : Bool} {x y : List Int} {q : Rat} {n : Nat} (h : RV b x y q n) : RV (!b) x y (-q) n := by
 refine ⟨h.nx, h.ny, h.pos, ?_, h.lx, h.ly⟩
 rw [h.eq]
 unfold qq
 rw [Rat.neg_divInt]
 congr 1
 cases b <;> simp [sg]
theorem RV.sign {b : Bool} {x y : List Int} {q : Rat} {n : Nat} (h : RV b x y q n) : (b && decide ((x.length : Int) > 0)) = decide (q < 0) := by
 have h0 := h.x0
 have hz := dv_eq_zero (by decide) h.nx
 have hq : q < 0 ↔ sg b (dv 1000000000 x) < 0 := by
  have e : (0 : Rat) = qq 0 1 := by unfold qq; simp
  rw [h.eq, e, qq_lt h.pos (by decide)]
  simp
 rw [Bool.eq_iff_iff]
 simp only [Bool.and_eq_true, decide_eq_true_eq, hq]
 have hl : (x.length : Int) > 0 ↔ dv 1000000000 x ≠ 0 := by
  rw [ne_eq, hz]
  cases x <;> simp
 rw [hl]
 cases b
 ·simp [sg]; omega
 ·simp [sg]; omega
theorem lessR_f {b1 b2 : Bool} {x1 y1 x2 y2 : List Int} {p q : Rat} {n m : Nat} (h1 : RV b1 x1 y1 p n) (h2 : RV b2 x2 y2 q m) (hl : n + m + 2 ≤ 1000000) : Ev (fun k => dioramaref02_Less.f k b1 x1 y1 b2 x2 y2) (decide (p < q)) := by
 obtain ⟨b, x, y, he, hv⟩ := sumR_f h1 h2.neg hl
 have hs := hv.sign
 have e : decide (p + -q < 0) = decide (p < q) := by
  congr 1
  apply propext
  constructor <;> intro h <;> grind
 rw [e] at hs
 refine Ev.congr (fun k => rfl) (Ev.bind he ?_)
 cases b with
 | true =>
  refine Ev.congr (fun k => if_pos rfl) ?_
  rw [← hs]
  exact Ev.now _
 | false =>
  refine Ev.congr (f := fun _ => some false) (fun k => if_neg (by simp)) ?_
  rw [← hs]
  exact Ev.now _
theorem equalR_f {b1 b2 : Bool} {x1 y1 x2 y2 : List Int} {p q : Rat} {n m : Nat} (h1 : RV b1 x1 y1 p n) (h2 : RV b2 x2 y2 q m) (hl : n + m + 2 ≤ 1000000) : Ev (fun k => dioramaref10_equal.f k b1 x1 y1 b2 x2 y2) (decide (p = q)) := by
 refine Ev.congr (fun k => rfl) (Ev.bind (lessR_f h1 h2 hl) ?_)
 by_cases h : p < q
 ·rw [decide_eq_true h, decide_eq_false (by intro e; subst e; exact Rat.lt_irrefl h)]
  exact Ev.congr (fun k => if_pos rfl) (Ev.now _)
 ·rw [decide_eq_false h]
  refine Ev.congr (fun k => if_neg (by decide)) (Ev.bind (lessR_f h2 h1 (by omega)) ?_)
  have e : (!decide (q < p)) = decide (p = q) := by
   rw [Bool.eq_iff_iff]
   simp only [Bool.not_eq_true', decide_eq_false_iff_not, decide_eq_true_eq]
   constructor
   ·intro h2; grind
   ·intro e; subst e; exact h
  rw [e]
  exact Ev.now _
theorem rate_f (d m n e : Int) (hn : 0 ≤ n) (hn1 : n ≤ 1000000) (he : 1 ≤ e) (he1 : e ≤ 1000000) : RE (fun k => dioramaref10_rate.f k d m n e) (qq n e) 3 := by
 obtain ⟨b, x, y, he, hv⟩ := ratio_f n e (by omega) (by omega) (by omega) (by omega)
 exact ⟨b, x, y, Ev.congr (fun k => rfl) (Ev.bind he (Ev.now _)), hv⟩
theorem media_f {b : Bool} {x y : List Int} {p : Rat} {N : Nat} (d m n e ts : Int) (hn : 0 ≤ n) (hn1 : n ≤ 1000000) (he : 1 ≤ e) (he1 : e ≤ 1000000) (hm : -9223372036854775807 ≤ m) (hm1 : m ≤ 9223372036854775807) (ht : 1 ≤ ts) (ht1 : ts ≤ 1000000) (h : RV b x y p N) (hl : N ≤ 1000) :
  RE (fun k => dioramaref10_media.f k d m n e ts b x y) (qq m ts + p * qq n e) (N + 7) := by
 obtain ⟨b1, x1, y1, e1, v1⟩ := ratio_f m ts hm hm1 (by omega) (by omega)
 obtain ⟨b2, x2, y2, e2, v2⟩ := rate_f d m n e hn hn1 he he1
 obtain ⟨b3, x3, y3, e3, v3⟩ := timesR_f h v2 (by omega)
 obtain ⟨b4, x4, y4, e4, v4⟩ := plusR_f v1 v3 (by omega)
 exact ⟨b4, x4, y4, Ev.congr (fun k => rfl) (Ev.bind e1 (Ev.bind e2 (Ev.bind e3 (Ev.bind e4 (Ev.now _))))), v4.mono (by omega)⟩
end Go.Proofs.Ytpbhepdgamoiaaa.Qr

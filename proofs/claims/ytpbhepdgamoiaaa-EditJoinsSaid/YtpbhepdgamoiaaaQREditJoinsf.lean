/-
  The normal list of a list of edits as a plain value, and that the code tells it. Whether lists are equal, alike; the first example of the chapter. Whether two lists show the same.
-/
import Derived.Test.YtpbhepdgamoiaaaQREditJoinsa
import Derived.Test.YtpbhepdgamoiaaaQREditJoinsd
import Derived.Test.YtpbhepdgamoiaaaQREditJoinse
import Derived.Test.YtpbhepdgamoiaaaQREditJoinsc
namespace Go.Proofs.Ytpbhepdgamoiaaa.E
open Go.Proofs.Ytpbhepdgamoiaaa.Z Go.RowKit Go.Proofs.YtpbhepdgamoiaaaW.PrintWords Go.Proofs.YtpbhepdgamoiaaaW.PrintLast Go.Proofs.YtpbhepdgamoiaaaW.PrintMore
attribute [local go_sem] max2_int min2_int max_two min_two max_three min_three max_four min_four
set_option linter.unusedVariables false
set_option linter.unusedSimpArgs false
def dioramaref10_normal.l0 : Nat → List (S77) → Int → Int → List (S77) → Int → Option ((List (S77)))
  | 0, _, _, _, _, _ => none
  | k + 1, x0, x1, x2, x7, x8 => if x8 < (x0.length : Int) then (if (x7.length : Int) > 0 then (if 0 ≤ (wrap64 ((x7.length : Int) - 1)) then (if (wrap64 ((x7.length : Int) - 1)) < (x7.length : Int) then (if 0 ≤ x8 then ((dioramaref10_over.f k ((rd_T77 x7 (wrap64 ((x7.length : Int) - 1))).f0) ((rd_T77 x7 (wrap64 ((x7.length : Int) - 1))).f1) ((rd_T77 x7 (wrap64 ((x7.length : Int) - 1))).f2) ((rd_T77 x7 (wrap64 ((x7.length : Int) - 1))).f3) ((rd_T77 x0 x8).f0) ((rd_T77 x0 x8).f1) ((rd_T77 x0 x8).f2) ((rd_T77 x0 x8).f3) x1 x2).bind fun t360 => (if t360 = true then (dioramaref10_normal.l0 k x0 x1 x2 (x7.set ((wrap64 ((x7.length : Int) - 1)) : Int).toNat (⟨wrap64 (((rd_T77 x7 (wrap64 ((x7.length : Int) - 1))).f0) + ((rd_T77 x0 x8).f0)), (rd_T77 x7 (wrap64 ((x7.length : Int) - 1))).f1, (rd_T77 x7 (wrap64 ((x7.length : Int) - 1))).f2, (rd_T77 x7 (wrap64 ((x7.length : Int) - 1))).f3⟩ : S77)) (wrap64 (x8 + 1))) else ((dioramaref10_lowest.f ((rd_T77 x0 x8).f0) ((rd_T77 x0 x8).f1) ((rd_T77 x0 x8).f2) ((rd_T77 x0 x8).f3)).bind fun bt365 => (if x7.length < 4398046511104 then (dioramaref10_normal.l0 k x0 x1 x2 (x7 ++ [(⟨bt365.1, bt365.2.1, bt365.2.2.1, bt365.2.2.2⟩ : S77)]) (wrap64 (x8 + 1))) else (none))))) else (none)) else (none)) else (none)) else (if 0 ≤ x8 then ((dioramaref10_lowest.f ((rd_T77 x0 x8).f0) ((rd_T77 x0 x8).f1) ((rd_T77 x0 x8).f2) ((rd_T77 x0 x8).f3)).bind fun bt373 => (if x7.length < 4398046511104 then (dioramaref10_normal.l0 k x0 x1 x2 (x7 ++ [(⟨bt373.1, bt373.2.1, bt373.2.2.1, bt373.2.2.2⟩ : S77)]) (wrap64 (x8 + 1))) else (none))) else (none))) else (some x7)
def dioramaref10_normal.f (k : Nat) (l0 : List (S77)) (a1 : Int) (a2 : Int) : Option ((List (S77))) := dioramaref10_normal.l0 k l0 a1 a2 ([] : List (S77)) 0
set_option maxHeartbeats 8000000 in
set_option maxRecDepth 100000 in
theorem dioramaref10_normal.calls (k : Nat) (A0 : Option Addr) (c0 : Nat) (l0 : List (S77)) (a1 : Int) (a2 : Int) (r : List (S77)) (w : World) (hr0 : Kd.C k77 w A0 l0.length l0) (hc0 : l0.length ≤ c0) (h : dioramaref10_normal.f k l0 a1 a2 = some r) :
  Calls Try.prog 102 #[.slice A0 l0.length c0, .int .i64 a1, .int .i64 a2] w fun e w' => ∃ v0_ : Value, e = .returned (v0_) ∧ Kd.R k77 77 w' w.heap.size (fun _ => True) v0_ r ∧ Below w.heap.size w w' := by
 have hu77 := Try.underlying77; have HR0 := Aside0.mk hr0; have HC0 := Aside0.mk hc0; clear hr0 hc0; have HB := Aside0.mk (Below.refl w.heap.size w); have H : (dioramaref10_normal.l0 k l0 a1 a2 ([] : List (S77)) 0) = some r := h; clear h; have H' := Aside0.mk H; clear H
 go_enter Try.func102, Try.ntmps102
 go_wp2
 go_loopg [7, 8] k (fun kq v7 v8 w' => ∃ (x7_1 : List (S77)) (x8_1 : Int), v8 = .int .i64 x8_1 ∧ Aside0 (dioramaref10_normal.l0 kq l0 a1 a2 x7_1 x8_1 = some r) ∧ Aside0 (kq ≤ k) ∧ Aside0 (Kd.R k77 77 w' w.heap.size (fun _ => True) v7 x7_1) ∧ Aside0 (Below w.heap.size w w'))
 case atStart => exact ⟨(([] : List (S77))), (0), jz, H', ⟨Nat.le_refl _⟩, ⟨by first | exact Kd.R_nil _ _ _ _ _ | exact Kd.N_nil _ _ _ _ _ | exact Kd.V_nil _ _ _ _ _ | exact Kd.Q_nil _ _ _ _ _ | exact Kd.S_nil _ _ _ _ _⟩, ⟨bz⟩⟩
 case round =>
  clear H'
  try clear c1
  try clear p2
  obtain ⟨x7_1, x8_1, rfl, HA, HK1, HO_7, HB⟩ := hrel
  cases gk with
  | zero => exact absurd HA.out (by simp [dioramaref10_normal.l0])
  | succ k1 =>
   have H := HA.out; clear HA; simp only [dioramaref10_normal.l0] at H
   by_cases c4 : x8_1 < (l0.length : Int)
   ·rw [if_pos c4] at H; have c4b0 : decide (x8_1 < (l0.length : Int)) = true := decide_eq_true c4; clear c4
    by_cases c5 : (x7_1.length : Int) > 0
    ·rw [if_pos c5] at H; have c5b0 : decide (0 < (x7_1.length : Int)) = true := decide_eq_true c5; have c5b1 : decide (0 < x7_1.length) = true := decide_eq_true (by omega); clear c5; obtain ⟨ji6, hji6⟩ : ∃ j_ : Int, (wrap64 ((x7_1.length : Int) - 1)) = j_ := ⟨_, rfl⟩; replace H : (if 0 ≤ (ji6) then (if (ji6) < (x7_1.length : Int) then (if 0 ≤ x8_1 then ((dioramaref10_over.f k1 ((rd_T77 x7_1 (ji6)).f0) ((rd_T77 x7_1 (ji6)).f1) ((rd_T77 x7_1 (ji6)).f2) ((rd_T77 x7_1 (ji6)).f3) ((rd_T77 l0 x8_1).f0) ((rd_T77 l0 x8_1).f1) ((rd_T77 l0 x8_1).f2) ((rd_T77 l0 x8_1).f3) a1 a2).bind fun t360 => (if t360 = true then (dioramaref10_normal.l0 k1 l0 a1 a2 (x7_1.set ((ji6) : Int).toNat (⟨wrap64 (((rd_T77 x7_1 (ji6)).f0) + ((rd_T77 l0 x8_1).f0)), (rd_T77 x7_1 (ji6)).f1, (rd_T77 x7_1 (ji6)).f2, (rd_T77 x7_1 (ji6)).f3⟩ : S77)) (wrap64 (x8_1 + 1))) else ((dioramaref10_lowest.f ((rd_T77 l0 x8_1).f0) ((rd_T77 l0 x8_1).f1) ((rd_T77 l0 x8_1).f2) ((rd_T77 l0 x8_1).f3)).bind fun bt365 => (if x7_1.length < 4398046511104 then (dioramaref10_normal.l0 k1 l0 a1 a2 (x7_1 ++ [(⟨bt365.1, bt365.2.1, bt365.2.2.1, bt365.2.2.2⟩ : S77)]) (wrap64 (x8_1 + 1))) else (none))))) else (none)) else (none)) else (none)) = some r := by first | (rw [hji6] at H; exact H) | (simp only [hji6] at H ⊢; exact H)
     have hji6w : (IntKind.i64.wrap ((x7_1.length : Int) - 1)) = ji6 := (i64_w _).trans hji6
     by_cases c7 : 0 ≤ (ji6)
     ·rw [if_pos c7] at H; have c7b0 : decide (0 ≤ (ji6)) = true := decide_eq_true c7; clear c7
      by_cases c8 : (ji6) < (x7_1.length : Int)
      ·rw [if_pos c8] at H; have c8b0 : decide ((ji6) < (x7_1.length : Int)) = true := decide_eq_true c8; clear c8
       by_cases c9 : 0 ≤ x8_1
       ·rw [if_pos c9] at H; have c9b0 : decide (0 ≤ x8_1) = true := decide_eq_true c9; clear c9; obtain ⟨t360, A10, H⟩ := ob H
        by_cases c11 : t360 = true
        ·subst c11; rw [if_pos rfl] at H; obtain ⟨y363, hy363⟩ : ∃ y_ : List (S77), y_ = (x7_1.set ((ji6) : Int).toNat (⟨wrap64 (((rd_T77 x7_1 (ji6)).f0) + ((rd_T77 l0 x8_1).f0)), (rd_T77 x7_1 (ji6)).f1, (rd_T77 x7_1 (ji6)).f2, (rd_T77 x7_1 (ji6)).f3⟩ : S77)) := ⟨_, rfl⟩; replace H : (dioramaref10_normal.l0 k1 l0 a1 a2 y363 (wrap64 (x8_1 + 1))) = some r := by first | (rw [hy363]; with_reducible exact H) | (have H2_ := (Option.bind_some _ _).symm.trans H; rw [hy363]; with_reducible exact H2_) | (have H2_ := (Option.bind_some _ _).symm.trans H; with_reducible exact H2_) | with_reducible exact H | (rw [hy363]; exact H) | exact H
         have Ny363 := Aside0.mk hy363; clear hy363; have H' := Aside0.mk H; clear H; obtain ⟨Ao13, co13, eo13⟩ := Kd.R_slice HO_7.out; subst eo13
         try go_wp2
         replace HO_7 := Aside0.mk (Kd.R_drew HO_7.out); replace HB := Aside0.mk (below_drew1 HB.out); have p358 : 0 ≤ ((ji6) : Int) := od; have q358 : (ji6) < (x7_1.length : Int) := od; obtain ⟨ad358, e358, hx358_0, hx358_1, hx358_2, hx358_3⟩ := at_T77 (Kd.R_reads' HO_7.out).2.2 (ji6) p358 q358
         cases e358
         replace p358 := eq_true p358; replace q358 := eq_true q358; have p359 : 0 ≤ (x8_1 : Int) := od; have q359 : x8_1 < (l0.length : Int) := od; obtain ⟨ad359, e359, hx359_0, hx359_1, hx359_2, hx359_3⟩ := at_T77 HR0.out x8_1 p359 q359; have hw359_3 := hx359_3; have hw359_2 := hx359_2; have hw359_1 := hx359_1; have hw359_0 := hx359_0
         cases e359
         replace hx359_0 := cl HB hx359_0; replace hx359_1 := cl HB hx359_1; replace hx359_2 := cl HB hx359_2; replace hx359_3 := cl HB hx359_3; replace p359 := eq_true p359; replace q359 := eq_true q359; refine start_ (n := 16) (S := fun w' => w'.cell? (ad358.add (((ji6)).toNat * 4)) = some (.int .i64 ((rd_T77 x7_1 (ji6)).f0)) ∧ w'.cell? ⟨(ad358.add (((ji6)).toNat * 4)).block, (ad358.add (((ji6)).toNat * 4)).off + 1, none⟩ = some (.int .i64 ((rd_T77 x7_1 (ji6)).f1)) ∧ w'.cell? ⟨(ad358.add (((ji6)).toNat * 4)).block, (ad358.add (((ji6)).toNat * 4)).off + 2, none⟩ = some (.int .i64 ((rd_T77 x7_1 (ji6)).f2)) ∧ w'.cell? ⟨(ad358.add (((ji6)).toNat * 4)).block, (ad358.add (((ji6)).toNat * 4)).off + 3, none⟩ = some (.int .i64 ((rd_T77 x7_1 (ji6)).f3)) ∧ w'.cell? (ad359.add ((x8_1).toNat * 4)) = some (.int .i64 ((rd_T77 l0 x8_1).f0)) ∧ w'.cell? ⟨(ad359.add ((x8_1).toNat * 4)).block, (ad359.add ((x8_1).toNat * 4)).off + 1, none⟩ = some (.int .i64 ((rd_T77 l0 x8_1).f1)) ∧ w'.cell? ⟨(ad359.add ((x8_1).toNat * 4)).block, (ad359.add ((x8_1).toNat * 4)).off + 2, none⟩ = some (.int .i64 ((rd_T77 l0 x8_1).f2)) ∧ w'.cell? ⟨(ad359.add ((x8_1).toNat * 4)).block, (ad359.add ((x8_1).toNat * 4)).off + 3, none⟩ = some (.int .i64 ((rd_T77 l0 x8_1).f3))) (ds := []) (bs 16 0) (by kernel_rfl) rfl rfl ⟨hx358_0, hx358_1, hx358_2, hx358_3, (cl HB hw359_0), (cl HB hw359_1), (cl HB hw359_2), (cl HB hw359_3)⟩ (fun hHeld => ?_)
         generalize wr.drew = w14 at HO_7 HB hx358_0 hx358_1 hx358_2 hx358_3 hx359_0 hx359_1 hx359_2 hx359_3 hHeld ⊢; refine zP 0 18 16 1 ?_; refine zP 1 19 16 3 ?_; refine zP 2 20 16 7 ?_; refine zP 3 21 16 15 ?_; refine zP 4 22 16 31 ?_; refine zP 5 23 16 63 ?_; refine zP 6 24 16 127 ?_; refine zP 8 26 16 383 ?_; refine zP 9 27 16 895 ?_; refine zP 10 28 16 1919 ?_; refine zP 12 30 16 6015 ?_; refine zP 13 31 16 14207 ?_; refine zT 7 25 16 14335 hHeld ?_; refine zT 11 29 16 16383 hHeld ?_; refine zN 14 (some 32) 16 32767 (fun K hK => ?_); refine goes_ Try.func140 (by kernel_rfl) rfl #[.agg #[.int .i64 ((rd_T77 x7_1 (ji6)).f0), .int .i64 ((rd_T77 x7_1 (ji6)).f1), .int .i64 ((rd_T77 x7_1 (ji6)).f2), .int .i64 ((rd_T77 x7_1 (ji6)).f3)], .agg #[.int .i64 ((rd_T77 l0 x8_1).f0), .int .i64 ((rd_T77 l0 x8_1).f1), .int .i64 ((rd_T77 l0 x8_1).f2), .int .i64 ((rd_T77 l0 x8_1).f3)], .int .i64 a1, .int .i64 a2] (by rfl) rfl rfl (by (try simp only [List.map_toArray, List.map_cons, List.map_nil]); first | done | (simp only [hji6]; rfl) | rfl | (simp only [List.length_drop, List.length_take]; rfl)) ?_
         with_reducible refine (dioramaref10_over.calls k1 ((rd_T77 x7_1 (ji6)).f0) ((rd_T77 x7_1 (ji6)).f1) ((rd_T77 x7_1 (ji6)).f2) ((rd_T77 x7_1 (ji6)).f3) ((rd_T77 l0 x8_1).f0) ((rd_T77 l0 x8_1).f1) ((rd_T77 l0 x8_1).f2) ((rd_T77 l0 x8_1).f3) a1 a2 true _ A10.out).mono ?_
         rintro e w15 ⟨rfl, hb⟩; have HS0_ := (hb.cell (World.block_lt_of_cell? _ _ (hHeld.1))).trans (hHeld.1); have HS1_ := (hb.cell (World.block_lt_of_cell? _ _ (hHeld.2.1))).trans (hHeld.2.1); have HS2_ := (hb.cell (World.block_lt_of_cell? _ _ (hHeld.2.2.1))).trans (hHeld.2.2.1); have HS3_ := (hb.cell (World.block_lt_of_cell? _ _ (hHeld.2.2.2.1))).trans (hHeld.2.2.2.1); refine ⟨_, rfl, ?_⟩; replace HO_7 := Aside0.mk (Kd.R_below (rz HO_7) hb); replace HB := bp hb; clear hb; refine hK.out _ _ ⟨HS0_, HS1_, HS2_, HS3_, (cl HB hw359_0), (cl HB hw359_1), (cl HB hw359_2), (cl HB hw359_3)⟩ (fun hHeld => ?_); clear hK K; refine zM 32 ?_; refine zP 15 33 16 65535 ?_; refine done_ (by kernel_rfl) ?_
         try go_wp2
         replace HO_7 := Aside0.mk (Kd.R_drew HO_7.out); replace HB := Aside0.mk (below_drew1 HB.out); have p361 : 0 ≤ ((ji6) : Int) := od; have q361 : (ji6) < (x7_1.length : Int) := od; obtain ⟨ad361, e361, hx361_0, hx361_1, hx361_2, hx361_3⟩ := at_T77 (Kd.R_reads' HO_7.out).2.2 (ji6) p361 q361; obtain rfl : ad358 = ad361 := (by injection e361); replace p361 := eq_true p361; replace q361 := eq_true q361; have p362 : 0 ≤ (x8_1 : Int) := od; have q362 : x8_1 < (l0.length : Int) := od; obtain ⟨ad362, e362, hx362_0, hx362_1, hx362_2, hx362_3⟩ := at_T77 HR0.out x8_1 p362 q362; have hw362_3 := hx362_3; have hw362_2 := hx362_2; have hw362_1 := hx362_1; have hw362_0 := hx362_0; obtain rfl : ad359 = ad362 := (by injection e362); replace hx362_0 := cl HB hx362_0; replace hx362_1 := cl HB hx362_1; replace hx362_2 := cl HB hx362_2; replace hx362_3 := cl HB hx362_3; replace p362 := eq_true p362; replace q362 := eq_true q362; have p12 : 0 ≤ ((ji6) : Int) := od; have q12 : ((ji6) : Int) < ((x7_1.length : Int) : Int) := od; obtain ⟨go12, co12, eo12, gb12, gl12, cl12, HG12⟩ := Kd.R_form HO_7.out (by omega)
         (first | cases eo12 | (injection eo12 with ea_ en_ ec_; (first | subst ea_ | (injection ea_ with ea_; subst ea_)); subst ec_; clear en_))
         have GB12 := Aside0.mk gb12; have GG12 := Aside0.mk HG12; clear gb12 gl12 HG12
         (first | simp only [add_plain] at hx358_0 | skip)
         (first | simp only [add_plain] at hx358_1 | skip)
         (first | simp only [add_plain] at hx358_2 | skip)
         (first | simp only [add_plain] at hx358_3 | skip)
         (first | simp only [add_plain] at hx361_0 | skip)
         (first | simp only [add_plain] at hx361_1 | skip)
         (first | simp only [add_plain] at hx361_2 | skip)
         (first | simp only [add_plain] at hx361_3 | skip)
         obtain ⟨ce12, hcl12, hM12, hcc12, hfr12⟩ := Kd.R_elem HO_7.out z77 ((ji6) : Int) p12 q12; obtain rfl := k77_openM hM12; have hx12_0 : World.cell? _ ⟨go12, ((ji6) : Int).toNat * 4, none⟩ = some (.int .i64 ((rd_T77 x7_1 (ji6)).f0)) := hcc12 0 _ rfl; have hx12_1 : World.cell? _ ⟨go12, ((ji6) : Int).toNat * 4 + 1, none⟩ = some (.int .i64 ((rd_T77 x7_1 (ji6)).f1)) := hcc12 1 _ rfl; have hx12_2 : World.cell? _ ⟨go12, ((ji6) : Int).toNat * 4 + 2, none⟩ = some (.int .i64 ((rd_T77 x7_1 (ji6)).f2)) := hcc12 2 _ rfl; have hx12_3 : World.cell? _ ⟨go12, ((ji6) : Int).toNat * 4 + 3, none⟩ = some (.int .i64 ((rd_T77 x7_1 (ji6)).f3)) := hcc12 3 _ rfl; have hf12_0 : World.frozen? _ ⟨go12, ((ji6) : Int).toNat * 4, none⟩ = false := hfr12 0; have hf12_1 : World.frozen? _ ⟨go12, ((ji6) : Int).toNat * 4 + 1, none⟩ = false := hfr12 1; have hf12_2 : World.frozen? _ ⟨go12, ((ji6) : Int).toNat * 4 + 2, none⟩ = false := hfr12 2; have hf12_3 : World.frozen? _ ⟨go12, ((ji6) : Int).toNat * 4 + 3, none⟩ = false := hfr12 3; clear hcl12 hcc12 hfr12 hM12; replace p12 := eq_true p12; replace q12 := eq_true q12; obtain ⟨ce17, hcl17, hM17, hcc17, hfr17⟩ := Kd.R_elem HO_7.out z77 ((ji6) : Int) (od) (by have h_ : ((ji6) : Int) < ((x7_1.length : Int) : Int) := od; first | exact h_ | (have e_ := (Kd.R_reads' HO_7.out).1; omega) | simpa using h_); obtain rfl := k77_openM hM17; have HP17 := (Kd.R_seg HO_7.out ((ji6) : Int) (od) (by have h_ : ((ji6) : Int) < ((x7_1.length : Int) : Int) := od; first | exact h_ | (have e_ := (Kd.R_reads' HO_7.out).1; omega) | simpa using h_) (seg := [.int .i64 (wrap64 (((rd_T77 x7_1 (ji6)).f0) + ((rd_T77 l0 x8_1).f0)))]) (j := 0) hcl17 hcc17 (show 1 ≤ 4 from by decide) (x' := (⟨wrap64 (((rd_T77 x7_1 (ji6)).f0) + ((rd_T77 l0 x8_1).f0)), (rd_T77 x7_1 (ji6)).f1, (rd_T77 x7_1 (ji6)).f2, (rd_T77 x7_1 (ji6)).f3⟩ : S77)) (k77_mkM _ _ _ (⟨wrap64 (((rd_T77 x7_1 (ji6)).f0) + ((rd_T77 l0 x8_1).f0)), (rd_T77 x7_1 (ji6)).f1, (rd_T77 x7_1 (ji6)).f2, (rd_T77 x7_1 (ji6)).f3⟩ : S77) ) (fun _ hk => hk)).1; rw [← Ny363.out] at HP17; have HQ17 := Aside0.mk HP17; clear hcl17 hcc17 hfr17 hM17 HP17; refine start_ (n := 15) (S := fun w' => w'.cell? ⟨go12, (((ji6)) : Int).toNat * 4, none⟩ = some (.int .i64 ((rd_T77 x7_1 (ji6)).f0)) ∧ w'.cell? ⟨go12, (((ji6)) : Int).toNat * 4 + 1, none⟩ = some (.int .i64 ((rd_T77 x7_1 (ji6)).f1)) ∧ w'.cell? ⟨go12, (((ji6)) : Int).toNat * 4 + 2, none⟩ = some (.int .i64 ((rd_T77 x7_1 (ji6)).f2)) ∧ w'.cell? ⟨go12, (((ji6)) : Int).toNat * 4 + 3, none⟩ = some (.int .i64 ((rd_T77 x7_1 (ji6)).f3)) ∧ w'.cell? (ad359.add ((x8_1).toNat * 4)) = some (.int .i64 ((rd_T77 l0 x8_1).f0)) ∧ w'.cell? ⟨(ad359.add ((x8_1).toNat * 4)).block, (ad359.add ((x8_1).toNat * 4)).off + 1, none⟩ = some (.int .i64 ((rd_T77 l0 x8_1).f1)) ∧ w'.cell? ⟨(ad359.add ((x8_1).toNat * 4)).block, (ad359.add ((x8_1).toNat * 4)).off + 2, none⟩ = some (.int .i64 ((rd_T77 l0 x8_1).f2)) ∧ w'.cell? ⟨(ad359.add ((x8_1).toNat * 4)).block, (ad359.add ((x8_1).toNat * 4)).off + 3, none⟩ = some (.int .i64 ((rd_T77 l0 x8_1).f3))) (ds := [14]) (bs 15 0) (by kernel_rfl) rfl rfl ⟨hx361_0, hx361_1, hx361_2, hx361_3, (cl HB hw362_0), (cl HB hw362_1), (cl HB hw362_2), (cl HB hw362_3)⟩ (fun hHeld => ?_)
         generalize w15.drew = w16 at HO_7 HB GG12 HQ17 hf12_0 hf12_1 hf12_2 hf12_3 hx12_0 hx12_1 hx12_2 hx12_3 hx358_0 hx358_1 hx358_2 hx358_3 hx361_0 hx361_1 hx361_2 hx361_3 hx362_0 hx362_1 hx362_2 hx362_3 hHeld ⊢; refine zP 0 34 15 1 ?_; refine zP 1 35 15 3 ?_; refine zP 2 36 15 7 ?_; refine zP 3 37 15 15 ?_; refine zP 4 38 15 31 ?_; refine zP 6 40 15 95 ?_; refine zP 7 41 15 223 ?_; refine zP 8 42 15 479 ?_; refine zP 9 43 15 991 ?_; refine zT 5 39 15 1023 hHeld ?_; refine zT 10 44 15 2047 hHeld ?_; refine zP 11 45 15 4095 ?_; refine zP 12 46 15 8191 ?_; refine zP 13 47 15 16383 ?_; refine zL 14 none 15 32767 (fun K hK => ?_); refine skip_ (w1 := ?_) (by rfl) rfl ?_ ?_
         rotate_left
         ·go_simp
          rfl
         refine hK.out _ _ ?_; clear hK K; refine done_ (by kernel_rfl) ?_
         try go_wp2
         go_roundg k1
         case measure => have := HK1.out; omega
         case rel => exact ⟨(y363), (wrap64 (x8_1 + 1)), jz, H', ⟨by have := HK1.out; omega⟩, ⟨by (with_reducible repeat (first | apply Kd.R_alloc | apply Kd.R_drewN | apply Kd.R_drew)); exact HQ17.out⟩, ⟨by repeat (first | (with_reducible first | exact HB.out | apply below_alloc | apply pw_below_drewN | apply below_drew1 | refine below_set ?_ GB12.out) | exact HB.out)⟩⟩
        ·obtain rfl := bf c11; rw [if_neg (show ¬ (false = true) by decide)] at H; obtain ⟨⟨t365, t366, t367, t368⟩, A18, H⟩ := ob H
         (try dsimp only at H)
         by_cases c19 : x7_1.length < 4398046511104
         ·rw [if_pos c19] at H; have LMc19 := Aside0.mk c19; clear c19; obtain ⟨y369, hy369⟩ : ∃ y_ : List (S77), y_ = (x7_1 ++ [(⟨t365, t366, t367, t368⟩ : S77)]) := ⟨_, rfl⟩; replace H : (dioramaref10_normal.l0 k1 l0 a1 a2 y369 (wrap64 (x8_1 + 1))) = some r := by first | (rw [hy369]; with_reducible exact H) | (have H2_ := (Option.bind_some _ _).symm.trans H; rw [hy369]; with_reducible exact H2_) | (have H2_ := (Option.bind_some _ _).symm.trans H; with_reducible exact H2_) | with_reducible exact H | (rw [hy369]; exact H) | exact H
          have Ny369 := Aside0.mk hy369; clear hy369; have H' := Aside0.mk H; clear H; obtain ⟨Ao20, co20, eo20⟩ := Kd.R_slice HO_7.out; subst eo20
          try go_wp2
          replace HO_7 := Aside0.mk (Kd.R_drew HO_7.out); replace HB := Aside0.mk (below_drew1 HB.out); have p358 : 0 ≤ ((ji6) : Int) := od; have q358 : (ji6) < (x7_1.length : Int) := od; obtain ⟨ad358, e358, hx358_0, hx358_1, hx358_2, hx358_3⟩ := at_T77 (Kd.R_reads' HO_7.out).2.2 (ji6) p358 q358
          cases e358
          replace p358 := eq_true p358; replace q358 := eq_true q358; have p359 : 0 ≤ (x8_1 : Int) := od; have q359 : x8_1 < (l0.length : Int) := od; obtain ⟨ad359, e359, hx359_0, hx359_1, hx359_2, hx359_3⟩ := at_T77 HR0.out x8_1 p359 q359; have hw359_3 := hx359_3; have hw359_2 := hx359_2; have hw359_1 := hx359_1; have hw359_0 := hx359_0
          cases e359
          replace hx359_0 := cl HB hx359_0; replace hx359_1 := cl HB hx359_1; replace hx359_2 := cl HB hx359_2; replace hx359_3 := cl HB hx359_3; replace p359 := eq_true p359; replace q359 := eq_true q359; refine start_ (n := 16) (S := fun w' => w'.cell? (ad358.add (((ji6)).toNat * 4)) = some (.int .i64 ((rd_T77 x7_1 (ji6)).f0)) ∧ w'.cell? ⟨(ad358.add (((ji6)).toNat * 4)).block, (ad358.add (((ji6)).toNat * 4)).off + 1, none⟩ = some (.int .i64 ((rd_T77 x7_1 (ji6)).f1)) ∧ w'.cell? ⟨(ad358.add (((ji6)).toNat * 4)).block, (ad358.add (((ji6)).toNat * 4)).off + 2, none⟩ = some (.int .i64 ((rd_T77 x7_1 (ji6)).f2)) ∧ w'.cell? ⟨(ad358.add (((ji6)).toNat * 4)).block, (ad358.add (((ji6)).toNat * 4)).off + 3, none⟩ = some (.int .i64 ((rd_T77 x7_1 (ji6)).f3)) ∧ w'.cell? (ad359.add ((x8_1).toNat * 4)) = some (.int .i64 ((rd_T77 l0 x8_1).f0)) ∧ w'.cell? ⟨(ad359.add ((x8_1).toNat * 4)).block, (ad359.add ((x8_1).toNat * 4)).off + 1, none⟩ = some (.int .i64 ((rd_T77 l0 x8_1).f1)) ∧ w'.cell? ⟨(ad359.add ((x8_1).toNat * 4)).block, (ad359.add ((x8_1).toNat * 4)).off + 2, none⟩ = some (.int .i64 ((rd_T77 l0 x8_1).f2)) ∧ w'.cell? ⟨(ad359.add ((x8_1).toNat * 4)).block, (ad359.add ((x8_1).toNat * 4)).off + 3, none⟩ = some (.int .i64 ((rd_T77 l0 x8_1).f3))) (ds := []) (bs 16 0) (by kernel_rfl) rfl rfl ⟨hx358_0, hx358_1, hx358_2, hx358_3, (cl HB hw359_0), (cl HB hw359_1), (cl HB hw359_2), (cl HB hw359_3)⟩ (fun hHeld => ?_)
          generalize wr.drew = w21 at HO_7 HB hx358_0 hx358_1 hx358_2 hx358_3 hx359_0 hx359_1 hx359_2 hx359_3 hHeld ⊢; refine zP 0 18 16 1 ?_; refine zP 1 19 16 3 ?_; refine zP 2 20 16 7 ?_; refine zP 3 21 16 15 ?_; refine zP 4 22 16 31 ?_; refine zP 5 23 16 63 ?_; refine zP 6 24 16 127 ?_; refine zP 8 26 16 383 ?_; refine zP 9 27 16 895 ?_; refine zP 10 28 16 1919 ?_; refine zP 12 30 16 6015 ?_; refine zP 13 31 16 14207 ?_; refine zT 7 25 16 14335 hHeld ?_; refine zT 11 29 16 16383 hHeld ?_; refine zN 14 (some 32) 16 32767 (fun K hK => ?_); refine goes_ Try.func140 (by kernel_rfl) rfl #[.agg #[.int .i64 ((rd_T77 x7_1 (ji6)).f0), .int .i64 ((rd_T77 x7_1 (ji6)).f1), .int .i64 ((rd_T77 x7_1 (ji6)).f2), .int .i64 ((rd_T77 x7_1 (ji6)).f3)], .agg #[.int .i64 ((rd_T77 l0 x8_1).f0), .int .i64 ((rd_T77 l0 x8_1).f1), .int .i64 ((rd_T77 l0 x8_1).f2), .int .i64 ((rd_T77 l0 x8_1).f3)], .int .i64 a1, .int .i64 a2] (by rfl) rfl rfl (by (try simp only [List.map_toArray, List.map_cons, List.map_nil]); first | done | (simp only [hji6]; rfl) | rfl | (simp only [List.length_drop, List.length_take]; rfl)) ?_
          with_reducible refine (dioramaref10_over.calls k1 ((rd_T77 x7_1 (ji6)).f0) ((rd_T77 x7_1 (ji6)).f1) ((rd_T77 x7_1 (ji6)).f2) ((rd_T77 x7_1 (ji6)).f3) ((rd_T77 l0 x8_1).f0) ((rd_T77 l0 x8_1).f1) ((rd_T77 l0 x8_1).f2) ((rd_T77 l0 x8_1).f3) a1 a2 false _ A10.out).mono ?_
          rintro e w22 ⟨rfl, hb⟩; have HS0_ := (hb.cell (World.block_lt_of_cell? _ _ (hHeld.1))).trans (hHeld.1); have HS1_ := (hb.cell (World.block_lt_of_cell? _ _ (hHeld.2.1))).trans (hHeld.2.1); have HS2_ := (hb.cell (World.block_lt_of_cell? _ _ (hHeld.2.2.1))).trans (hHeld.2.2.1); have HS3_ := (hb.cell (World.block_lt_of_cell? _ _ (hHeld.2.2.2.1))).trans (hHeld.2.2.2.1); refine ⟨_, rfl, ?_⟩; replace HO_7 := Aside0.mk (Kd.R_below (rz HO_7) hb); replace HB := bp hb; clear hb; refine hK.out _ _ ⟨HS0_, HS1_, HS2_, HS3_, (cl HB hw359_0), (cl HB hw359_1), (cl HB hw359_2), (cl HB hw359_3)⟩ (fun hHeld => ?_); clear hK K; refine zM 32 ?_; refine zP 15 33 16 65535 ?_; refine done_ (by kernel_rfl) ?_; have p364 : 0 ≤ (x8_1 : Int) := od; have q364 : x8_1 < (l0.length : Int) := od; obtain ⟨ad364, e364, hx364_0, hx364_1, hx364_2, hx364_3⟩ := at_T77 HR0.out x8_1 p364 q364; obtain rfl : ad359 = ad364 := (by injection e364); replace hx364_0 := cl HB hx364_0; replace hx364_1 := cl HB hx364_1; replace hx364_2 := cl HB hx364_2; replace hx364_3 := cl HB hx364_3; replace p364 := eq_true p364; replace q364 := eq_true q364
          try go_wp2_with (first | ((with_reducible refine gate_callee (f := 75) rfl ?_); refine zC 53 Try.func75 #[.agg #[.int .i64 ((rd_T77 l0 x8_1).f0), .int .i64 ((rd_T77 l0 x8_1).f1), .int .i64 ((rd_T77 l0 x8_1).f2), .int .i64 ((rd_T77 l0 x8_1).f3)]] ?_; (with_reducible refine (dioramaref10_lowest.calls ((rd_T77 l0 x8_1).f0) ((rd_T77 l0 x8_1).f1) ((rd_T77 l0 x8_1).f2) ((rd_T77 l0 x8_1).f3) t365 t366 t367 t368 _ A18.out).mono ?_); rintro e w23 ⟨rfl, hb⟩; refine ⟨_, rfl, ?_⟩; replace HO_7 := Aside0.mk (Kd.R_below (rz HO_7) hb); replace HB := bp hb; clear hb) | ((with_reducible refine gate_builtin (b := .append) (xs := #[.tmp 48, .tmp 54]) rfl ?_); at_builtin; refine Kd.R_append k77 (w0 := w) w.heap.size rfl (.tmp 48) (.tmp 54) 22 77 (.agg #[(.int .i64 0), (.int .i64 0), (.int .i64 0), (.int .i64 0)]) 32 rfl Try.underlying22 info77 rfl (by decide) (by omega) (.slice (some ad358) x7_1.length co20) x7_1 (⟨t365, t366, t367, t368⟩ : S77) [.int .i64 t365, .int .i64 t366, .int .i64 t367, .int .i64 t368] (fun _ => True) (fun _ => False) rfl rfl ?aP (fun _ hk => hk.elim) ?aF ?aO ?aB ?aS ?aL ?_; (case aP => exact k77_mkM _ _ _ (⟨t365, t366, t367, t368⟩ : S77)); (case aB => exact bz); (case aF => exact (fun _ _ => trivial)); (case aO => exact (rz HO_7)); (case aS => exact sz); (case aL => have := LMc19.out; omega); intro v370 w24 ho hb hg hat; rw [← Ny369.out] at ho; replace HB := Aside0.mk (hb); have HO371 := Aside0.mk (ho); clear HO_7; clear ho hb hg hat))
          go_roundg k1
          case measure => have := HK1.out; omega
          case rel => exact ⟨(y369), (wrap64 (x8_1 + 1)), jz, H', ⟨by have := HK1.out; omega⟩, ⟨rz HO371⟩, ⟨bz⟩⟩
         ·rw [if_neg c19] at H
          exact absurd H (by simp)
       ·rw [if_neg c9] at H
        exact absurd H (by simp)
      ·rw [if_neg c8] at H
       exact absurd H (by simp)
     ·rw [if_neg c7] at H
      exact absurd H (by simp)
    ·rw [if_neg c5] at H; have c5b0 : decide (0 < (x7_1.length : Int)) = false := decide_eq_false c5; have c5b1 : decide (0 < x7_1.length) = false := decide_eq_false (by omega); clear c5
     by_cases c25 : 0 ≤ x8_1
     ·rw [if_pos c25] at H; have c25b0 : decide (0 ≤ x8_1) = true := decide_eq_true c25; clear c25; obtain ⟨⟨t373, t374, t375, t376⟩, A26, H⟩ := ob H
      (try dsimp only at H)
      by_cases c27 : x7_1.length < 4398046511104
      ·rw [if_pos c27] at H; have LMc27 := Aside0.mk c27; clear c27; obtain ⟨y377, hy377⟩ : ∃ y_ : List (S77), y_ = (x7_1 ++ [(⟨t373, t374, t375, t376⟩ : S77)]) := ⟨_, rfl⟩; replace H : (dioramaref10_normal.l0 k1 l0 a1 a2 y377 (wrap64 (x8_1 + 1))) = some r := by first | (rw [hy377]; with_reducible exact H) | (have H2_ := (Option.bind_some _ _).symm.trans H; rw [hy377]; with_reducible exact H2_) | (have H2_ := (Option.bind_some _ _).symm.trans H; with_reducible exact H2_) | with_reducible exact H | (rw [hy377]; exact H) | exact H
       have Ny377 := Aside0.mk hy377; clear hy377; have H' := Aside0.mk H; clear H; obtain ⟨Ao28, co28, eo28⟩ := Kd.R_slice HO_7.out; subst eo28
       try go_wp2
       replace HO_7 := Aside0.mk (Kd.R_drew HO_7.out); replace HB := Aside0.mk (below_drew1 HB.out); refine start_ (n := 16) (S := fun w' => True) (ds := []) (bs 16 0) (by kernel_rfl) rfl rfl trivial (fun hHeld => ?_); generalize wr.drew = w29 at HO_7 HB hHeld ⊢; refine zP 0 18 16 1 ?_; refine zP 1 19 16 3 ?_; refine zP 2 20 16 7 ?_; refine zO 3 21 16 15 ?_; refine zO 4 22 16 31 ?_; refine zO 5 23 16 63 ?_; refine zO 6 24 16 127 ?_; refine zO 7 25 16 255 ?_; refine zO 8 26 16 511 ?_; refine zO 9 27 16 1023 ?_; refine zO 10 28 16 2047 ?_; refine zO 11 29 16 4095 ?_; refine zO 12 30 16 8191 ?_; refine zO 13 31 16 16383 ?_; refine zO 14 32 16 32767 ?_; refine zP 15 33 16 65535 ?_; refine done_ (by kernel_rfl) ?_; have p372 : 0 ≤ (x8_1 : Int) := od; have q372 : x8_1 < (l0.length : Int) := od; obtain ⟨ad372, e372, hx372_0, hx372_1, hx372_2, hx372_3⟩ := at_T77 HR0.out x8_1 p372 q372
       cases e372
       replace hx372_0 := cl HB hx372_0; replace hx372_1 := cl HB hx372_1; replace hx372_2 := cl HB hx372_2; replace hx372_3 := cl HB hx372_3; replace p372 := eq_true p372; replace q372 := eq_true q372
       try go_wp2_with (first | ((with_reducible refine gate_callee (f := 75) rfl ?_); refine zC 53 Try.func75 #[.agg #[.int .i64 ((rd_T77 l0 x8_1).f0), .int .i64 ((rd_T77 l0 x8_1).f1), .int .i64 ((rd_T77 l0 x8_1).f2), .int .i64 ((rd_T77 l0 x8_1).f3)]] ?_; (with_reducible refine (dioramaref10_lowest.calls ((rd_T77 l0 x8_1).f0) ((rd_T77 l0 x8_1).f1) ((rd_T77 l0 x8_1).f2) ((rd_T77 l0 x8_1).f3) t373 t374 t375 t376 _ A26.out).mono ?_); rintro e w30 ⟨rfl, hb⟩; refine ⟨_, rfl, ?_⟩; replace HO_7 := Aside0.mk (Kd.R_below (rz HO_7) hb); replace HB := bp hb; clear hb) | ((with_reducible refine gate_builtin (b := .append) (xs := #[.tmp 48, .tmp 54]) rfl ?_); at_builtin; refine Kd.R_append k77 (w0 := w) w.heap.size rfl (.tmp 48) (.tmp 54) 22 77 (.agg #[(.int .i64 0), (.int .i64 0), (.int .i64 0), (.int .i64 0)]) 32 rfl Try.underlying22 info77 rfl (by decide) (by omega) (.slice Ao28 x7_1.length co28) x7_1 (⟨t373, t374, t375, t376⟩ : S77) [.int .i64 t373, .int .i64 t374, .int .i64 t375, .int .i64 t376] (fun _ => True) (fun _ => False) rfl rfl ?aP (fun _ hk => hk.elim) ?aF ?aO ?aB ?aS ?aL ?_; (case aP => exact k77_mkM _ _ _ (⟨t373, t374, t375, t376⟩ : S77)); (case aB => exact bz); (case aF => exact (fun _ _ => trivial)); (case aO => exact (rz HO_7)); (case aS => exact sz); (case aL => have := LMc27.out; omega); intro v378 w31 ho hb hg hat; rw [← Ny377.out] at ho; replace HB := Aside0.mk (hb); have HO379 := Aside0.mk (ho); clear HO_7; clear ho hb hg hat))
       go_roundg k1
       case measure => have := HK1.out; omega
       case rel => exact ⟨(y377), (wrap64 (x8_1 + 1)), jz, H', ⟨by have := HK1.out; omega⟩, ⟨rz HO379⟩, ⟨bz⟩⟩
      ·rw [if_neg c27] at H
       exact absurd H (by simp)
     ·rw [if_neg c25] at H
      exact absurd H (by simp)
   ·rw [if_neg c4] at H; have c4b0 : decide (x8_1 < (l0.length : Int)) = false := decide_eq_false c4; clear c4; obtain rfl := Option.some.inj H
    go_wp2
    go_ret
    exact ⟨_, ez, by (with_reducible repeat (first | apply Kd.R_alloc | apply Kd.R_drewN | apply Kd.R_drew)); exact HO_7.out, bz⟩
def dioramaref10_told.l0 : Nat → List (S77) → Int → Int → Int → Bool → List Int → List Int → Option ((List (S77)) × Int)
  | 0, _, _, _, _, _, _, _ => none
  | k + 1, x0, x1, x2, x9, x388000, x388001, x388002 => if x9 < (x0.length : Int) then (if 0 ≤ x9 then ((dioramaref10_ratio.f k ((rd_T77 x0 x9).f0) 1).bind fun bt389 => ((dioramaref10_plus.f k x388000 x388001 x388002 bt389.1 bt389.2.1 bt389.2.2).bind fun bt396 => (dioramaref10_told.l0 k x0 x1 x2 (wrap64 (x9 + 1)) bt396.1 bt396.2.1 bt396.2.2))) else (none)) else ((dioramaref02_Small.f k x388001 1099511627776).bind fun bt403 => (if bt403.2 = true then ((dioramaref10_normal.f k x0 x1 x2).bind fun t405 => (if (t405.length : Int) > 20 then (some (([] : List (S77)), 2)) else (some (t405, 0)))) else (some (([] : List (S77)), 2))))
def dioramaref10_told.f (k : Nat) (l0 : List (S77)) (a1 : Int) (a2 : Int) : Option ((List (S77)) × Int) := (dioramaref10_ratio.f k 0 1).bind fun bt380 => (dioramaref10_told.l0 k l0 a1 a2 0 bt380.1 bt380.2.1 bt380.2.2)
set_option maxHeartbeats 8000000 in
set_option maxRecDepth 100000 in
theorem dioramaref10_told.calls (k : Nat) (A0 : Option Addr) (c0 : Nat) (l0 : List (S77)) (a1 : Int) (a2 : Int) (r1 : List (S77)) (r2 : Int) (w : World) (hr0 : Kd.C k77 w A0 l0.length l0) (hc0 : l0.length ≤ c0) (h : dioramaref10_told.f k l0 a1 a2 = some (r1, r2)) :
  Calls Try.prog 58 #[.slice A0 l0.length c0, .int .i64 a1, .int .i64 a2] w fun e w' => ∃ v0_ : Value, e = .returned (.tuple #[v0_, .int .i64 r2]) ∧ Kd.R k77 77 w' w.heap.size (fun _ => True) v0_ r1 ∧ Below w.heap.size w w' := by
 have hu95 := Try.underlying95; have HR0 := Aside0.mk hr0; have HC0 := Aside0.mk hc0; clear hr0 hc0; have HB := Aside0.mk (Below.refl w.heap.size w); have H : ((dioramaref10_ratio.f k 0 1).bind fun bt380 => (dioramaref10_told.l0 k l0 a1 a2 0 bt380.1 bt380.2.1 bt380.2.2)) = some (r1, r2) := h
 clear h; obtain ⟨⟨t380, t381, t384⟩, A4, H⟩ := ob H
 (try dsimp only at H)
 have H' := Aside0.mk H; clear H
 go_enter Try.func58, Try.ntmps58
 go_wp2_with (first | ((with_reducible refine gate_callee (f := 68) rfl ?_); refine zC 13 Try.func68 #[.int .i64 0, .int .i64 1] ?_; (with_reducible refine (dioramaref10_ratio.calls k 0 1 t380 t381 t384 _ A4.out).mono ?_); rintro e w5 ⟨v382, v385, rfl, ho0, ho1, hb⟩; refine ⟨_, rfl, ?_⟩; have HO383 := Aside0.mk (Kd.R_lower ho0 sz); have HO386 := Aside0.mk (Kd.R_lower ho1 sz); replace HB := bp hb; clear hb ho0 ho1) | ((with_reducible refine gate_dst (N := 8) rfl ?_); refine zB 8 95 #[.bool false, .slice none 0 0, .slice none 0 0] ?_; intro gb387 hg w6 hbox hb; replace HO383 := Aside0.mk (Kd.R_below (rz HO383) hb); replace HO386 := Aside0.mk (Kd.R_below (rz HO386) hb); have BK387 := Aside0.mk hbox; have GW387 := gz hg; have GE387 := gz hg; replace HB := bp hb; clear hb hbox hg; obtain ⟨hcz7_0, hcz7_1, hcz7_2, hfz7_0, hfz7_1, hfz7_2⟩ := xc3 BK387; obtain ⟨Ao8, co8, eo8⟩ := Kd.R_slice HO383.out; subst eo8; obtain ⟨Ao9, co9, eo9⟩ := Kd.R_slice HO386.out; subst eo9))
 go_loopg [9] k (fun kq v9 w' => ∃ (x9_1 : Int) (x388000_1 : Bool) (x388001_1 : List Int) (x388002_1 : List Int) (u388001 : Value) (u388002 : Value), v9 = .int .i64 x9_1 ∧ Aside0 (dioramaref10_told.l0 kq l0 a1 a2 x9_1 x388000_1 x388001_1 x388002_1 = some (r1, r2)) ∧ Aside0 (kq ≤ k) ∧ Aside0 (Kd.R (Kd.int .i64) 3 w' w.heap.size (fun k_ => some k_ ≠ (u388002 : Value).ownBlock) u388001 x388001_1) ∧ Aside0 (Kd.R (Kd.int .i64) 3 w' w.heap.size (fun k_ => some k_ ≠ (u388001 : Value).ownBlock) u388002 x388002_1) ∧ Aside0 (w'.heap[gb387]? = some (.cells #[.bool x388000_1, u388001, u388002] 95 (0, 0))) ∧ Aside0 (Below w.heap.size w w'))
 case atStart => exact ⟨(0), (t380), (t381), (t384), (.slice Ao8 t381.length co8), (.slice Ao9 t384.length co9), jz, H', ⟨Nat.le_refl _⟩, ⟨by (with_reducible repeat (first | apply Kd.R_alloc | apply Kd.R_drewN | apply Kd.R_drew)); exact Kd.R_mono (Kd.R_far (p := ⟨gb387, 2, none⟩) (Kd.R_far (p := ⟨gb387, 1, none⟩) (Kd.R_far (p := ⟨gb387, 0, none⟩) (Kd.R_types HO383.out BK387.out (by decide)) (fun _ hk => hk.2) (.bool t380)) (fun _ hk => hk.2) (.slice Ao8 t381.length co8)) (fun _ hk => hk.2) (.slice Ao9 t384.length co9)) (fun _ hk => hk.1)⟩, ⟨by (with_reducible repeat (first | apply Kd.R_alloc | apply Kd.R_drewN | apply Kd.R_drew)); exact Kd.R_mono (Kd.R_far (p := ⟨gb387, 2, none⟩) (Kd.R_far (p := ⟨gb387, 1, none⟩) (Kd.R_far (p := ⟨gb387, 0, none⟩) (Kd.R_types HO386.out BK387.out (by decide)) (fun _ hk => hk.2) (.bool t380)) (fun _ hk => hk.2) (.slice Ao8 t381.length co8)) (fun _ hk => hk.2) (.slice Ao9 t384.length co9)) (fun _ hk => hk.1)⟩, ⟨by (with_reducible repeat (first | refine blk_drewN ?_ _ | refine blk_drew ?_ | refine blk_alloc ?_ _)); refine blk_put (cs := #[.bool t380, .slice Ao8 t381.length co8, .slice none 0 0]) ?_ 2 _ rfl; (with_reducible repeat (first | refine blk_drewN ?_ _ | refine blk_drew ?_ | refine blk_alloc ?_ _)); refine blk_put (cs := #[.bool t380, .slice none 0 0, .slice none 0 0]) ?_ 1 _ rfl; (with_reducible repeat (first | refine blk_drewN ?_ _ | refine blk_drew ?_ | refine blk_alloc ?_ _)); refine blk_put (cs := #[.bool false, .slice none 0 0, .slice none 0 0]) ?_ 0 _ rfl; (with_reducible repeat (first | refine blk_drewN ?_ _ | refine blk_drew ?_ | refine blk_alloc ?_ _)); exact BK387.out⟩, ⟨bz⟩⟩
 case round =>
  clear H'
  try clear p2
  try clear c5
  try clear c6
  try clear hcz7_0
  try clear hcz7_1
  try clear hcz7_2
  try clear hfz7_0
  try clear hfz7_1
  try clear hfz7_2
  obtain ⟨x9_1, x388000_1, x388001_1, x388002_1, u388001, u388002, rfl, HA, HK1, HO_388001, HO_388002, BK387, HB⟩ := hrel
  cases gk with
  | zero => exact absurd HA.out (by simp [dioramaref10_told.l0])
  | succ k1 =>
   have H := HA.out; clear HA; simp only [dioramaref10_told.l0] at H
   by_cases c10 : x9_1 < (l0.length : Int)
   ·rw [if_pos c10] at H; have c10b0 : decide (x9_1 < (l0.length : Int)) = true := decide_eq_true c10; clear c10
    by_cases c11 : 0 ≤ x9_1
    ·rw [if_pos c11] at H; have c11b0 : decide (0 ≤ x9_1) = true := decide_eq_true c11; clear c11; obtain ⟨⟨t389, t390, t393⟩, A12, H⟩ := ob H
     (try dsimp only at H)
     obtain ⟨⟨t396, t397, t400⟩, A13, H⟩ := ob H
     (try dsimp only at H)
     have H' := Aside0.mk H; clear H
     try go_wp2
     replace HO_388001 := Aside0.mk (Kd.R_drew HO_388001.out); replace HO_388002 := Aside0.mk (Kd.R_drew HO_388002.out); replace BK387 := Aside0.mk (blk_drew BK387.out); replace HB := Aside0.mk (below_drew1 HB.out); have p388 : 0 ≤ (x9_1 : Int) := od; have q388 : x9_1 < (l0.length : Int) := od; obtain ⟨ad388, e388, hx388_0, hx388_1, hx388_2, hx388_3⟩ := at_T77 HR0.out x9_1 p388 q388; have hw388_3 := hx388_3; have hw388_2 := hx388_2; have hw388_1 := hx388_1; have hw388_0 := hx388_0
     cases e388
     replace hx388_0 := cl HB hx388_0; replace hx388_1 := cl HB hx388_1; replace hx388_2 := cl HB hx388_2; replace hx388_3 := cl HB hx388_3; replace p388 := eq_true p388; replace q388 := eq_true q388; refine start_ (n := 9) (S := fun w' => w'.cell? ⟨gb387, 0, none⟩ = some (.bool x388000_1) ∧ w'.cell? ⟨gb387, 1, none⟩ = some (u388001) ∧ w'.cell? ⟨gb387, 2, none⟩ = some (u388002) ∧ w'.cell? (ad388.add ((x9_1).toNat * 4)) = some (.int .i64 ((rd_T77 l0 x9_1).f0)) ∧ w'.cell? ⟨(ad388.add ((x9_1).toNat * 4)).block, (ad388.add ((x9_1).toNat * 4)).off + 1, none⟩ = some (.int .i64 ((rd_T77 l0 x9_1).f1)) ∧ w'.cell? ⟨(ad388.add ((x9_1).toNat * 4)).block, (ad388.add ((x9_1).toNat * 4)).off + 2, none⟩ = some (.int .i64 ((rd_T77 l0 x9_1).f2)) ∧ w'.cell? ⟨(ad388.add ((x9_1).toNat * 4)).block, (ad388.add ((x9_1).toNat * 4)).off + 3, none⟩ = some (.int .i64 ((rd_T77 l0 x9_1).f3))) (ds := [8]) (bs 9 0) (by kernel_rfl) rfl rfl ⟨ct BK387 0, ct BK387 1, ct BK387 2, (cl HB hw388_0), (cl HB hw388_1), (cl HB hw388_2), (cl HB hw388_3)⟩ (fun hHeld => ?_)
     generalize wr.drew = w14 at HO_388001 HO_388002 BK387 HB hx388_0 hx388_1 hx388_2 hx388_3 hHeld ⊢; refine zP 1 21 9 2 ?_; refine zP 2 22 9 6 ?_; refine zP 3 23 9 14 ?_; refine zP 4 24 9 30 ?_; refine zT 0 20 9 31 hHeld ?_; refine zT 5 25 9 63 hHeld ?_; refine zN 6 (some 26) 9 127 (fun K hK => ?_); refine zG Try.func68 #[.int .i64 ((rd_T77 l0 x9_1).f0), .int .i64 1] ?_
     with_reducible refine (dioramaref10_ratio.calls k1 ((rd_T77 l0 x9_1).f0) 1 t389 t390 t393 _ A12.out).mono ?_
     rintro e w15 ⟨v391, v394, rfl, ho0, ho1, hb⟩; refine ⟨_, rfl, ?_⟩; have HO392 := Aside0.mk (Kd.R_lower (Kd.R_new' (Kd.R_new' ho0 (Kd.R_lt (rz HO_388001))) (Kd.R_lt (rz HO_388002))) sz); have HO395 := Aside0.mk (Kd.R_lower (Kd.R_new' (Kd.R_new' ho1 (Kd.R_lt (rz HO_388001))) (Kd.R_lt (rz HO_388002))) sz); replace HO_388001 := Aside0.mk (Kd.R_mono (Kd.R_told (Kd.R_told (Kd.R_old (rz HO_388001) hb) (Kd.R_base ho0)) (Kd.R_base ho1)) (fun _ h_ => h_.1)); replace HO_388002 := Aside0.mk (Kd.R_mono (Kd.R_told (Kd.R_told (Kd.R_old (rz HO_388002) hb) (Kd.R_base ho0)) (Kd.R_base ho1)) (fun _ h_ => h_.1)); replace BK387 := kb BK387 hb; replace HB := bp hb; clear hb ho0 ho1; obtain ⟨Ao16, co16, eo16⟩ := Kd.R_slice HO_388001.out
     (first | subst eo16 | (injection eo16 with f1_ f2_ f3_; have f4_ := f1_.symm; have f5_ := f3_.symm; clear f1_ f2_ f3_; subst f4_; subst f5_))
     obtain ⟨Ao17, co17, eo17⟩ := Kd.R_slice HO_388002.out
     (first | subst eo17 | (injection eo17 with f1_ f2_ f3_; have f4_ := f1_.symm; have f5_ := f3_.symm; clear f1_ f2_ f3_; subst f4_; subst f5_))
     obtain ⟨Ao18, co18, eo18⟩ := Kd.R_slice HO392.out
     (first | subst eo18 | (injection eo18 with f1_ f2_ f3_; have f4_ := f1_.symm; have f5_ := f3_.symm; clear f1_ f2_ f3_; subst f4_; subst f5_))
     obtain ⟨Ao19, co19, eo19⟩ := Kd.R_slice HO395.out
     (first | subst eo19 | (injection eo19 with f1_ f2_ f3_; have f4_ := f1_.symm; have f5_ := f3_.symm; clear f1_ f2_ f3_; subst f4_; subst f5_))
     refine hK.out _ _ ⟨ct BK387 0, ct BK387 1, ct BK387 2, (cl HB hw388_0), (cl HB hw388_1), (cl HB hw388_2), (cl HB hw388_3)⟩ (fun hHeld => ?_); clear hK K; refine zM 26 ?_; refine zN 7 (some 27) 9 255 (fun K hK => ?_); refine zG Try.func69 #[.agg #[.bool x388000_1, .slice Ao16 x388001_1.length co16, .slice Ao17 x388002_1.length co17], .agg #[.bool t389, .slice Ao18 t390.length co18, .slice Ao19 t393.length co19]] ?_
     with_reducible refine (dioramaref10_plus.calls k1 x388000_1 _ _ x388001_1 _ _ x388002_1 t389 _ _ t390 _ _ t393 t396 t397 t400 _ ?side1 ?side2 ?side3 ?side4 ?side5 ?side6 ?side7 ?side8 A13.out).mono ?_
     (case side1 => exact cr HO_388001)
     (case side2 => exact (Kd.R_reads' HO_388001.out).2.1)
     (case side3 => exact cr HO_388002)
     (case side4 => exact (Kd.R_reads' HO_388002.out).2.1)
     (case side5 => exact cr HO392)
     (case side6 => exact (Kd.R_reads' HO392.out).2.1)
     (case side7 => exact cr HO395)
     (case side8 => exact (Kd.R_reads' HO395.out).2.1)
     rintro e w20 ⟨v398, v401, rfl, ho0, ho1, hb⟩; refine ⟨_, rfl, ?_⟩; have HO399 := Aside0.mk (Kd.R_lower (Kd.R_new' (Kd.R_new' (Kd.R_new' (Kd.R_new' ho0 (Kd.R_lt (rz HO_388001))) (Kd.R_lt (rz HO_388002))) (Kd.R_lt (rz HO392))) (Kd.R_lt (rz HO395))) sz); have HO402 := Aside0.mk (Kd.R_lower (Kd.R_new' (Kd.R_new' (Kd.R_new' (Kd.R_new' ho1 (Kd.R_lt (rz HO_388001))) (Kd.R_lt (rz HO_388002))) (Kd.R_lt (rz HO392))) (Kd.R_lt (rz HO395))) sz); replace HO_388001 := Aside0.mk (Kd.R_mono (Kd.R_told (Kd.R_told (Kd.R_old (rz HO_388001) hb) (Kd.R_base ho0)) (Kd.R_base ho1)) (fun _ h_ => h_.1)); replace HO_388002 := Aside0.mk (Kd.R_mono (Kd.R_told (Kd.R_told (Kd.R_old (rz HO_388002) hb) (Kd.R_base ho0)) (Kd.R_base ho1)) (fun _ h_ => h_.1)); replace HO392 := Aside0.mk (Kd.R_mono (Kd.R_told (Kd.R_told (Kd.R_old (rz HO392) hb) (Kd.R_base ho0)) (Kd.R_base ho1)) (fun _ h_ => h_.1)); replace HO395 := Aside0.mk (Kd.R_mono (Kd.R_told (Kd.R_told (Kd.R_old (rz HO395) hb) (Kd.R_base ho0)) (Kd.R_base ho1)) (fun _ h_ => h_.1)); replace BK387 := kb BK387 hb; replace HB := bp hb; clear hb ho0 ho1; obtain ⟨Ao22, co22, eo22⟩ := Kd.R_slice HO399.out
     (first | subst eo22 | (injection eo22 with f1_ f2_ f3_; have f4_ := f1_.symm; have f5_ := f3_.symm; clear f1_ f2_ f3_; subst f4_; subst f5_))
     obtain ⟨Ao24, co24, eo24⟩ := Kd.R_slice HO402.out
     (first | subst eo24 | (injection eo24 with f1_ f2_ f3_; have f4_ := f1_.symm; have f5_ := f3_.symm; clear f1_ f2_ f3_; subst f4_; subst f5_))
     refine hK.out _ _ ⟨ct BK387 0, ct BK387 1, ct BK387 2, (cl HB hw388_0), (cl HB hw388_1), (cl HB hw388_2), (cl HB hw388_3)⟩ (fun hHeld => ?_); clear hK K; refine zM 27 ?_; refine zL 8 none 9 511 (fun K hK => ?_); have hs21 : w20.cell? ⟨gb387, 0, none⟩ = some (.bool x388000_1) := ct BK387 0; have hfs21 := blk_frozen BK387.out 0; have hs23 : w20.cell? ⟨gb387, 1, none⟩ = some (.slice Ao16 x388001_1.length co16) := ct BK387 1; have hfs23 := blk_frozen BK387.out 1; have hs25 : w20.cell? ⟨gb387, 2, none⟩ = some (.slice Ao17 x388002_1.length co17) := ct BK387 2; have hfs25 := blk_frozen BK387.out 2; refine skip_ (w1 := ?_) (by rfl) rfl ?_ ?_
     rotate_left
     ·go_simp
      rfl
     refine hK.out _ _ ?_; clear hK K; refine done_ (by kernel_rfl) ?_
     try go_wp2
     go_roundg k1
     case measure => have := HK1.out; omega
     case rel => exact ⟨(wrap64 (x9_1 + 1)), (t396), (t397), (t400), (.slice Ao22 t397.length co22), (.slice Ao24 t400.length co24), jz, H', ⟨by have := HK1.out; omega⟩, ⟨by (with_reducible repeat (first | apply Kd.R_alloc | apply Kd.R_drewN | apply Kd.R_drew)); exact Kd.R_mono (Kd.R_far (p := ⟨gb387, 2, none⟩) (Kd.R_far (p := ⟨gb387, 1, none⟩) (Kd.R_far (p := ⟨gb387, 0, none⟩) (Kd.R_types HO399.out BK387.out (by decide)) (fun _ hk => hk.2) (.bool t396)) (fun _ hk => hk.2) (.slice Ao22 t397.length co22)) (fun _ hk => hk.2) (.slice Ao24 t400.length co24)) (fun _ hk => hk.1.1.1.1.1)⟩, ⟨by (with_reducible repeat (first | apply Kd.R_alloc | apply Kd.R_drewN | apply Kd.R_drew)); exact Kd.R_mono (Kd.R_far (p := ⟨gb387, 2, none⟩) (Kd.R_far (p := ⟨gb387, 1, none⟩) (Kd.R_far (p := ⟨gb387, 0, none⟩) (Kd.R_types HO402.out BK387.out (by decide)) (fun _ hk => hk.2) (.bool t396)) (fun _ hk => hk.2) (.slice Ao22 t397.length co22)) (fun _ hk => hk.2) (.slice Ao24 t400.length co24)) (fun _ hk => hk.1.1.1.1.1)⟩, ⟨by (with_reducible repeat (first | refine blk_drewN ?_ _ | refine blk_drew ?_ | refine blk_alloc ?_ _)); refine blk_put (cs := #[.bool t396, .slice Ao22 t397.length co22, .slice Ao17 x388002_1.length co17]) ?_ 2 _ rfl; (with_reducible repeat (first | refine blk_drewN ?_ _ | refine blk_drew ?_ | refine blk_alloc ?_ _)); refine blk_put (cs := #[.bool t396, .slice Ao16 x388001_1.length co16, .slice Ao17 x388002_1.length co17]) ?_ 1 _ rfl; (with_reducible repeat (first | refine blk_drewN ?_ _ | refine blk_drew ?_ | refine blk_alloc ?_ _)); refine blk_put (cs := #[.bool x388000_1, .slice Ao16 x388001_1.length co16, .slice Ao17 x388002_1.length co17]) ?_ 0 _ rfl; (with_reducible repeat (first | refine blk_drewN ?_ _ | refine blk_drew ?_ | refine blk_alloc ?_ _)); exact BK387.out⟩, ⟨bz⟩⟩
    ·rw [if_neg c11] at H
     exact absurd H (by simp)
   ·rw [if_neg c10] at H; have c10b0 : decide (x9_1 < (l0.length : Int)) = false := decide_eq_false c10; clear c10; obtain ⟨⟨t403, t404⟩, A26, H⟩ := ob H
    (try dsimp only at H)
    by_cases c27 : t404 = true
    ·subst c27; rw [if_pos rfl] at H; obtain ⟨t405, A28, H⟩ := ob H
     by_cases c29 : (t405.length : Int) > 20
     ·rw [if_pos c29] at H; have c29b0 : decide (20 < (t405.length : Int)) = true := decide_eq_true c29; have c29b1 : decide (20 < t405.length) = true := decide_eq_true (by omega); clear c29; simp only [Option.some.injEq, Prod.mk.injEq] at H; obtain ⟨rfl, rfl⟩ := H; obtain ⟨hcz30_0, hcz30_1, hcz30_2, hfz30_0, hfz30_1, hfz30_2⟩ := xc3 BK387; obtain ⟨Ao31, co31, eo31⟩ := Kd.R_slice HO_388001.out; subst eo31
      go_wp2_with (first | ((with_reducible refine gate_callee (f := 70) rfl ?_); refine zC 31 Try.func70 #[.slice Ao31 x388001_1.length co31, .int .i64 1099511627776] ?_; (with_reducible refine (dioramaref02_Small.calls k1 _ _ x388001_1 1099511627776 t403 true _ ?side1 ?side2 A26.out).mono ?_); (case side1 => exact cr HO_388001); (case side2 => exact (Kd.R_reads' HO_388001.out).2.1); rintro e w32 ⟨rfl, hb⟩; refine ⟨_, rfl, ?_⟩; replace HO_388001 := Aside0.mk (Kd.R_below (rz HO_388001) hb); replace HO_388002 := Aside0.mk (Kd.R_below (rz HO_388002) hb); replace BK387 := kb BK387 hb; replace HB := bp hb; clear hb) | ((with_reducible refine gate_callee (f := 102) rfl ?_); refine zC 39 Try.func102 #[.slice A0 l0.length c0, .int .i64 a1, .int .i64 a2] ?_; (with_reducible refine (dioramaref10_normal.calls k1 _ _ l0 a1 a2 t405 _ ?side1 ?side2 A28.out).mono ?_); (case side1 => exact cz HR0); (case side2 => exact HC0.out); rintro e w33 ⟨v406, rfl, ho0, hb⟩; refine ⟨_, rfl, ?_⟩; replace HO_388001 := Aside0.mk (Kd.R_below (rz HO_388001) hb); replace HO_388002 := Aside0.mk (Kd.R_below (rz HO_388002) hb); have HO407 := Aside0.mk (Kd.R_lower ho0 sz); replace BK387 := kb BK387 hb; replace HB := bp hb; clear hb ho0; obtain ⟨Ao34, co34, eo34⟩ := Kd.R_slice HO407.out; subst eo34))
      go_ret2
      exact ⟨_, ez, by first | exact Kd.R_nil _ _ _ _ _ | exact Kd.N_nil _ _ _ _ _ | exact Kd.V_nil _ _ _ _ _ | exact Kd.Q_nil _ _ _ _ _ | exact Kd.S_nil _ _ _ _ _, bz⟩
     ·rw [if_neg c29] at H; have c29b0 : decide (20 < (t405.length : Int)) = false := decide_eq_false c29; have c29b1 : decide (20 < t405.length) = false := decide_eq_false (by omega); clear c29; simp only [Option.some.injEq, Prod.mk.injEq] at H; obtain ⟨rfl, rfl⟩ := H; obtain ⟨hcz35_0, hcz35_1, hcz35_2, hfz35_0, hfz35_1, hfz35_2⟩ := xc3 BK387; obtain ⟨Ao36, co36, eo36⟩ := Kd.R_slice HO_388001.out; subst eo36
      go_wp2_with (first | ((with_reducible refine gate_callee (f := 70) rfl ?_); refine zC 31 Try.func70 #[.slice Ao36 x388001_1.length co36, .int .i64 1099511627776] ?_; (with_reducible refine (dioramaref02_Small.calls k1 _ _ x388001_1 1099511627776 t403 true _ ?side1 ?side2 A26.out).mono ?_); (case side1 => exact cr HO_388001); (case side2 => exact (Kd.R_reads' HO_388001.out).2.1); rintro e w37 ⟨rfl, hb⟩; refine ⟨_, rfl, ?_⟩; replace HO_388001 := Aside0.mk (Kd.R_below (rz HO_388001) hb); replace HO_388002 := Aside0.mk (Kd.R_below (rz HO_388002) hb); replace BK387 := kb BK387 hb; replace HB := bp hb; clear hb) | ((with_reducible refine gate_callee (f := 102) rfl ?_); refine zC 39 Try.func102 #[.slice A0 l0.length c0, .int .i64 a1, .int .i64 a2] ?_; (with_reducible refine (dioramaref10_normal.calls k1 _ _ l0 a1 a2 t405 _ ?side1 ?side2 A28.out).mono ?_); (case side1 => exact cz HR0); (case side2 => exact HC0.out); rintro e w38 ⟨v406, rfl, ho0, hb⟩; refine ⟨_, rfl, ?_⟩; replace HO_388001 := Aside0.mk (Kd.R_below (rz HO_388001) hb); replace HO_388002 := Aside0.mk (Kd.R_below (rz HO_388002) hb); have HO407 := Aside0.mk (Kd.R_lower ho0 sz); replace BK387 := kb BK387 hb; replace HB := bp hb; clear hb ho0; obtain ⟨Ao39, co39, eo39⟩ := Kd.R_slice HO407.out; subst eo39))
      go_ret2
      exact ⟨_, ez, by (with_reducible repeat (first | apply Kd.R_alloc | apply Kd.R_drewN | apply Kd.R_drew)); exact HO407.out, bz⟩
    ·obtain rfl := bf c27; rw [if_neg (show ¬ (false = true) by decide)] at H; simp only [Option.some.injEq, Prod.mk.injEq] at H; obtain ⟨rfl, rfl⟩ := H; obtain ⟨hcz40_0, hcz40_1, hcz40_2, hfz40_0, hfz40_1, hfz40_2⟩ := xc3 BK387; obtain ⟨Ao41, co41, eo41⟩ := Kd.R_slice HO_388001.out; subst eo41
     go_wp2_with (first | ((with_reducible refine gate_callee (f := 70) rfl ?_); refine zC 31 Try.func70 #[.slice Ao41 x388001_1.length co41, .int .i64 1099511627776] ?_; (with_reducible refine (dioramaref02_Small.calls k1 _ _ x388001_1 1099511627776 t403 false _ ?side1 ?side2 A26.out).mono ?_); (case side1 => exact cr HO_388001); (case side2 => exact (Kd.R_reads' HO_388001.out).2.1); rintro e w42 ⟨rfl, hb⟩; refine ⟨_, rfl, ?_⟩; replace HO_388001 := Aside0.mk (Kd.R_below (rz HO_388001) hb); replace HO_388002 := Aside0.mk (Kd.R_below (rz HO_388002) hb); replace BK387 := kb BK387 hb; replace HB := bp hb; clear hb))
     go_ret2
     exact ⟨_, ez, by first | exact Kd.R_nil _ _ _ _ _ | exact Kd.N_nil _ _ _ _ _ | exact Kd.V_nil _ _ _ _ _ | exact Kd.Q_nil _ _ _ _ _ | exact Kd.S_nil _ _ _ _ _, bz⟩
mutual
def dioramaref02_Over.l0 : Nat → List Int → List Int → List Int → List Int → Int → Option (List Int × List Int)
  | 0, _, _, _, _, _ => none
  | k + 1, x0, x1, x6, x7, x8 => if x8 ≥ 0 then (if 0 ≤ x8 then (if x8 < (x0.length : Int) then ((some (([rd x0 x8] : List Int) : List Int)).bind fun y415 => (if y415.length + x7.length < 17592186044416 then ((dioramaref02_trimmed.f k (y415 ++ x7)).bind fun t421 => (dioramaref02_Over.l1 k x0 x1 x6 t421 x8 0 999999999)) else (none))) else (none)) else (none)) else ((dioramaref02_trimmed.f k x6).bind fun t411 => (some (t411, x7)))
def dioramaref02_Over.l1 : Nat → List Int → List Int → List Int → List Int → Int → Int → Int → Option (List Int × List Int)
  | 0, _, _, _, _, _, _, _ => none
  | k + 1, x0, x1, x6, x7, x8, x10, x11 => if x10 < x11 then ((dioramaref02_Of.f k (wrap64 (Int.tdiv (wrap64 ((wrap64 (x10 + x11)) + 1)) 2))).bind fun t434 => ((dioramaref02_Times.f k x1 t434).bind fun t437 => ((dioramaref02_Compare.f k t437 x7).bind fun t440 => (if t440 ≤ 0 then (dioramaref02_Over.l1 k x0 x1 x6 x7 x8 (wrap64 (Int.tdiv (wrap64 ((wrap64 (x10 + x11)) + 1)) 2)) x11) else (dioramaref02_Over.l1 k x0 x1 x6 x7 x8 x10 (wrap64 ((wrap64 (Int.tdiv (wrap64 ((wrap64 (x10 + x11)) + 1)) 2)) - 1))))))) else (if 0 ≤ x8 then (if x8 < (x6.length : Int) then ((dioramaref02_Of.f k x10).bind fun t425 => ((dioramaref02_Times.f k x1 t425).bind fun t428 => ((dioramaref02_Minus.f k x7 t428).bind fun t431 => (dioramaref02_Over.l0 k x0 x1 (x6.set (x8 : Int).toNat x10) t431 (wrap64 (x8 - 1)))))) else (none)) else (none))
end
def dioramaref02_Over.f (k : Nat) (l0 : List Int) (l1 : List Int) : Option (List Int × List Int) := if 0 ≤ (l0.length : Int) then (if ((l0.length : Int) : Int).toNat ≤ 35184372088832 then (dioramaref02_Over.l0 k l0 l1 (List.replicate ((l0.length : Int) : Int).toNat 0) ([] : List Int) (wrap64 ((l0.length : Int) - 1))) else (none)) else (none)
set_option maxHeartbeats 8000000 in
set_option maxRecDepth 100000 in
theorem dioramaref02_Over.calls (k : Nat) (A0 : Option Addr) (c0 : Nat) (l0 : List Int) (A1 : Option Addr) (c1 : Nat) (l1 : List Int) (r1 : List Int) (r2 : List Int) (w : World) (hr0 : Kd.C (Kd.int .i64) w A0 l0.length l0) (hc0 : l0.length ≤ c0) (hr1 : Kd.C (Kd.int .i64) w A1 l1.length l1) (hc1 : l1.length ≤ c1) (h : dioramaref02_Over.f k l0 l1 = some (r1, r2)) :
  Calls Try.prog 123 #[.slice A0 l0.length c0, .slice A1 l1.length c1] w fun e w' => ∃ v0_ v1_ : Value, e = .returned (.tuple #[v0_, v1_]) ∧ Kd.R (Kd.int .i64) 3 w' w.heap.size (fun k_ => some k_ ≠ (v1_ : Value).ownBlock) v0_ r1 ∧ Kd.R (Kd.int .i64) 3 w' w.heap.size (fun k_ => some k_ ≠ (v0_ : Value).ownBlock) v1_ r2 ∧ Below w.heap.size w w' := by
 have HR0 := Aside0.mk hr0; have HC0 := Aside0.mk hc0; clear hr0 hc0; have HR1 := Aside0.mk hr1; have HC1 := Aside0.mk hc1; clear hr1 hc1; have HB := Aside0.mk (Below.refl w.heap.size w); have H : (if 0 ≤ (l0.length : Int) then (if ((l0.length : Int) : Int).toNat ≤ 35184372088832 then (dioramaref02_Over.l0 k l0 l1 (List.replicate ((l0.length : Int) : Int).toNat 0) ([] : List Int) (wrap64 ((l0.length : Int) - 1))) else (none)) else (none)) = some (r1, r2) := h; clear h
 by_cases c3 : 0 ≤ (l0.length : Int)
 ·rw [if_pos c3] at H; have c3b0 := eq_true c3; have c3b1 : decide (0 ≤ (l0.length : Int)) = true := decide_eq_true c3; clear c3
  by_cases c4 : ((l0.length : Int) : Int).toNat ≤ 35184372088832
  ·rw [if_pos c4] at H; have c4b0 := eq_true c4; have c4b1 : decide (((l0.length : Int) : Int).toNat ≤ 35184372088832) = true := decide_eq_true c4; clear c4; obtain ⟨y408, hy408⟩ : ∃ y_ : List Int, y_ = (List.replicate ((l0.length : Int) : Int).toNat 0) := ⟨_, rfl⟩; replace H : (dioramaref02_Over.l0 k l0 l1 y408 ([] : List Int) (wrap64 ((l0.length : Int) - 1))) = some (r1, r2) := by first | (rw [hy408]; with_reducible exact H) | (have H2_ := (Option.bind_some _ _).symm.trans H; rw [hy408]; with_reducible exact H2_) | (have H2_ := (Option.bind_some _ _).symm.trans H; with_reducible exact H2_) | with_reducible exact H | (rw [hy408]; exact H) | exact H
   have Ny408 := Aside0.mk hy408; clear hy408; have H' := Aside0.mk H; clear H
   go_enter Try.func123, Try.ntmps123
   go_wp2_with (first | ((with_reducible refine gate_dst (N := 15) rfl ?_); refine Kd.R_make (Kd.int .i64) _ 3 rfl (N := 15) rfl 93 _ _ rfl (l0.length : Int) rfl rfl Try.underlying93 (.int .i64 0) 8 info3 rfl (by decide) (by omega) 0 (ok := fun _ => True) (okp := fun _ => True) rfl (fun _ hk => hk) trivial (od) (Nat.le_trans (Nat.mul_le_mul_right _ (od : (l0.length : Int).toNat ≤ 35184372088832)) (by omega)) (Below.refl _ _) (Nat.le_refl _) ?_; intro v409 w5 ho6 hb hg_ hnew_; clear hg_ hnew_; (first | rw [← Ny408.out] at ho6 | (simp only [Int.reduceToNat] at ho6; rw [← Ny408.out] at ho6)); have HO410 := Aside0.mk (Kd.R_lower ho6 sz); replace HB := bp hb; clear hb ho6))
   go_loopg [7, 8] k (fun kq v7 v8 w' => ∃ (x6_1 : List Int) (x7_1 : List Int) (x8_1 : Int), v8 = .int .i64 x8_1 ∧ Aside0 (dioramaref02_Over.l0 kq l0 l1 x6_1 x7_1 x8_1 = some (r1, r2)) ∧ Aside0 (kq ≤ k) ∧ Aside0 (Kd.R (Kd.int .i64) 3 w' w.heap.size (fun k_ => some k_ ≠ (v7 : Value).ownBlock) v409 x6_1) ∧ Aside0 (Kd.R (Kd.int .i64) 3 w' w.heap.size (fun k_ => some k_ ≠ (v409 : Value).ownBlock) v7 x7_1) ∧ Aside0 (Below w.heap.size w w'))
   case atStart => exact ⟨(y408), (([] : List Int)), (wrap64 ((l0.length : Int) - 1)), jz, H', ⟨Nat.le_refl _⟩, ⟨by (with_reducible repeat (first | apply Kd.R_alloc | apply Kd.R_drewN | apply Kd.R_drew)); exact Kd.R_mono HO410.out (fun _ hk => (by simp [Value.ownBlock]))⟩, ⟨by first | exact Kd.R_nil _ _ _ _ _ | exact Kd.N_nil _ _ _ _ _ | exact Kd.V_nil _ _ _ _ _ | exact Kd.Q_nil _ _ _ _ _ | exact Kd.S_nil _ _ _ _ _⟩, ⟨bz⟩⟩
   case round =>
    clear H'
    try clear c1
    try clear p2
    try clear c3
    try clear c3b0
    try clear c3b1
    try clear c4
    try clear c4b0
    try clear c4b1
    try clear p6
    obtain ⟨x6_1, x7_1, x8_1, rfl, HA, HK1, HO_6, HO_7, HB⟩ := hrel
    cases gk with
    | zero => exact absurd HA.out (by simp [dioramaref02_Over.l0])
    | succ k1 =>
     have H := HA.out; clear HA; simp only [dioramaref02_Over.l0] at H
     by_cases c7 : x8_1 ≥ 0
     ·rw [if_pos c7] at H; have c7b0 : decide (0 ≤ x8_1) = true := decide_eq_true c7; clear c7
      by_cases c8 : 0 ≤ x8_1
      ·rw [if_pos c8] at H; have c8b0 : decide (0 ≤ x8_1) = true := decide_eq_true c8; clear c8
       by_cases c9 : x8_1 < (l0.length : Int)
       ·rw [if_pos c9] at H; have c9b0 : decide (x8_1 < (l0.length : Int)) = true := decide_eq_true c9; clear c9; obtain ⟨y415, hy415⟩ : ∃ y_ : List Int, y_ = (([rd l0 x8_1] : List Int)) := ⟨_, rfl⟩; replace H : (if y415.length + x7_1.length < 17592186044416 then ((dioramaref02_trimmed.f k1 (y415 ++ x7_1)).bind fun t421 => (dioramaref02_Over.l1 k1 l0 l1 x6_1 t421 x8_1 0 999999999)) else (none)) = some (r1, r2) := by first | (rw [hy415]; with_reducible exact H) | (have H2_ := (Option.bind_some _ _).symm.trans H; rw [hy415]; with_reducible exact H2_) | (have H2_ := (Option.bind_some _ _).symm.trans H; with_reducible exact H2_) | with_reducible exact H | (rw [hy415]; exact H) | exact H
        have Ny415 := Aside0.mk hy415; clear hy415
        by_cases c10 : y415.length + x7_1.length < 17592186044416
        ·rw [if_pos c10] at H; have LMc10 := Aside0.mk c10; clear c10; obtain ⟨y418, hy418⟩ : ∃ y_ : List Int, y_ = (y415 ++ x7_1) := ⟨_, rfl⟩; replace H : ((dioramaref02_trimmed.f k1 y418).bind fun t421 => (dioramaref02_Over.l1 k1 l0 l1 x6_1 t421 x8_1 0 999999999)) = some (r1, r2) := by first | (rw [hy418]; with_reducible exact H) | (have H2_ := (Option.bind_some _ _).symm.trans H; rw [hy418]; with_reducible exact H2_) | (have H2_ := (Option.bind_some _ _).symm.trans H; with_reducible exact H2_) | with_reducible exact H | (rw [hy418]; exact H) | exact H
         have Ny418 := Aside0.mk hy418; clear hy418; obtain ⟨t421, A11, H⟩ := ob H; have H' := Aside0.mk H; clear H; have p414 : 0 ≤ (x8_1 : Int) := od; have q414 : x8_1 < (l0.length : Int) := od; obtain ⟨ad414, e414, hx414_0⟩ := Kd.at_int HR0.out x8_1 p414 q414
         cases e414
         replace hx414_0 := cl HB hx414_0; replace p414 := eq_true p414; replace q414 := eq_true q414
         go_wp2_with (first | ((with_reducible refine gate_dst (N := 27) rfl ?_); refine Kd.R_lit (Kd.int .i64) _ 3 ?hg (N := 27) ?hd (xs := ([rd l0 x8_1] : List Int)) (inner := [.int .i64 (rd l0 x8_1)]) (ok := fun _ => True) (okp := fun _ => True) ?hr ?hp (fun _ hk => hk) trivial (Below.refl _ _) (Nat.le_refl _) (by simp) ?_; (case hd => rfl); (case hg => rfl); (case hr => first | (go_simp; done) | (go_simp; rfl)); (case hp => exact (Reps.one (show Kd.M (Kd.int .i64) _ _ _ (rd l0 x8_1) [.int .i64 (rd l0 x8_1)] from rfl) (Reps.none _ _))); intro v416 w12 ho13 hb hg_ hnew_; clear hg_ hnew_; (first | rw [← Ny415.out] at ho13 | (simp only [Int.reduceToNat] at ho13; rw [← Ny415.out] at ho13)); have HO417 := Aside0.mk (Kd.R_lower (Kd.R_new' (Kd.R_new' ho13 (Kd.R_lt (rz HO_6))) (Kd.R_lt (rz HO_7))) sz); replace HO_6 := Aside0.mk (Kd.R_elder' (rz HO_6) (Kd.R_base ho13) hb); replace HO_7 := Aside0.mk (Kd.R_elder' (rz HO_7) (Kd.R_base ho13) hb); replace HB := bp hb; clear hb ho13; obtain ⟨Ao15, co15, eo15⟩ := Kd.R_slice HO_7.out; subst eo15) | ((with_reducible refine gate_builtin (b := .append) (xs := #[.tmp 28, .tmp 29]) rfl ?_); at_builtin; refine Kd.R_append_rows (Kd.int .i64) (w0 := w) w.heap.size rfl (.tmp 28) (.tmp 29) 93 3 (.int .i64 0) 8 rfl Try.underlying93 info3 rfl (by decide) (by omega) v416 y415 x7_1 _ _ _ (fun k_ => some k_ ≠ (v409 : Value).ownBlock ∧ some k_ ≠ (.slice Ao15 x7_1.length co15 : Value).ownBlock) (fun _ => False) rfl rfl ?aO ?aR (fun _ _ h => h) (fun _ h => h.elim) ?aF ?aB ?aS ?aL ?_; (case aR => repeat (first | exact (Kd.R_reads' HO_7.out).2.2 | (with_reducible refine Kd.C_alloc ?_ _) | (with_reducible refine Kd.C_drewN ?_ _) | (with_reducible refine Kd.C_drew ?_))); (case aB => exact bz); (case aF => exact (fun k_ hk => ⟨Kd.fresh' (Kd.R_lt (rz HO_6)) k_ hk, Kd.fresh' (Kd.R_lt (rz HO_7)) k_ hk⟩)); (case aO => exact (by (with_reducible repeat (first | apply Kd.R_alloc | apply Kd.R_drewN | apply Kd.R_drew)); exact Kd.R_mono HO417.out (fun _ hk => ⟨hk.1.2, hk.2⟩))); (case aS => exact sz); (case aL => have := LMc10.out; omega); intro v419 w14 ho hb hg hat; rw [← Ny418.out] at ho; replace HO_6 := Aside0.mk (Kd.R_after (ok := (fun k_ => some k_ ≠ (.slice Ao15 x7_1.length co15 : Value).ownBlock)) (rz HO_6) hg hat); replace HO_7 := Aside0.mk (Kd.R_after (ok := (fun k_ => some k_ ≠ (v409 : Value).ownBlock)) (rz HO_7) hg hat); replace HB := Aside0.mk (hb); have HO420 := Aside0.mk (ho); clear HO417; clear ho hb hg hat; obtain ⟨Ao16, co16, eo16⟩ := Kd.R_slice HO420.out; subst eo16) | ((with_reducible refine gate_callee (f := 154) rfl ?_); refine zC 31 Try.func154 #[.slice Ao16 y418.length co16] ?_; (with_reducible refine (dioramaref02_trimmed.calls k1 (fun k_ => some k_ = (.slice Ao16 y418.length co16 : Value).ownBlock) (.slice Ao16 y418.length co16) y418 t421 w _ ?side1 ?side2 A11.out).mono ?_); (case side1 => repeat (first | (with_reducible first | exact HB.out | apply below_alloc | apply pw_below_drewN | apply below_drew1) | exact HB.out)); (case side2 => exact Kd.R_tight rfl HO420.out); rintro e w17 ⟨v422, rfl, ho0, hb, hkp⟩; refine ⟨_, rfl, ?_⟩; have HO423 := Aside0.mk (Kd.R_mono (ok' := fun k_ => some k_ ≠ (v409 : Value).ownBlock ∧ some k_ ≠ (.slice Ao15 x7_1.length co15 : Value).ownBlock) ho0 (fun k_ hk_ => ⟨Or.elim hk_ (fun hs_ => fun e_ => (((HO_6.out).1 k_ e_.symm).2) hs_) (fun hn_ => (Kd.fresh' (Kd.R_lt (rz HO_6)) k_ hn_)), Or.elim hk_ (fun hs_ => fun e_ => (((HO_7.out).1 k_ e_.symm).2) hs_) (fun hn_ => (Kd.fresh' (Kd.R_lt (rz HO_7)) k_ hn_))⟩)); replace HO_6 := Aside0.mk (Kd.R_mono (ok' := fun k_ => some k_ ≠ (.slice Ao15 x7_1.length co15 : Value).ownBlock ∧ some k_ ≠ (v422 : Value).ownBlock) (Kd.R_keptB (HO_6.out) hkp (fun k_ hk_ hs_ => (hk_.2) hs_)) (fun k_ hk_ => ⟨hk_.1.1, fun e_ => Or.elim (ho0.1 k_ e_.symm) (fun hs_ => hk_.2.1 hs_) (fun hn_ => Nat.not_le.2 hk_.2.2 hn_)⟩)); replace HO_7 := Aside0.mk (Kd.R_mono (ok' := fun k_ => some k_ ≠ (v409 : Value).ownBlock ∧ some k_ ≠ (v422 : Value).ownBlock) (Kd.R_keptB (HO_7.out) hkp (fun k_ hk_ hs_ => (hk_.2) hs_)) (fun k_ hk_ => ⟨hk_.1.1, fun e_ => Or.elim (ho0.1 k_ e_.symm) (fun hs_ => hk_.2.1 hs_) (fun hn_ => Nat.not_le.2 hk_.2.2 hn_)⟩)); replace HB := Aside0.mk (hb); clear HO420; clear hb hkp ho0))
         go_loopg [10, 11] k1 (fun kq v10 v11 w' => ∃ (x10_2 : Int) (x11_2 : Int), v10 = .int .i64 x10_2 ∧ v11 = .int .i64 x11_2 ∧ Aside0 (dioramaref02_Over.l1 kq l0 l1 x6_1 t421 x8_1 x10_2 x11_2 = some (r1, r2)) ∧ Aside0 (kq ≤ k1) ∧ Aside0 (Kd.R (Kd.int .i64) 3 w' w.heap.size (fun k_ => some k_ ≠ (v422 : Value).ownBlock) v409 x6_1) ∧ Aside0 (Kd.R (Kd.int .i64) 3 w' w.heap.size (fun k_ => some k_ ≠ (v409 : Value).ownBlock) v422 t421) ∧ Aside0 (Below w.heap.size w w'))
         case atStart => exact ⟨(0), (999999999), jz, jz, H', ⟨Nat.le_refl _⟩, ⟨by (with_reducible repeat (first | apply Kd.R_alloc | apply Kd.R_drewN | apply Kd.R_drew)); exact Kd.R_mono HO_6.out (fun _ hk => hk.2)⟩, ⟨by (with_reducible repeat (first | apply Kd.R_alloc | apply Kd.R_drewN | apply Kd.R_drew)); exact Kd.R_mono HO423.out (fun _ hk => hk.1)⟩, ⟨bz⟩⟩
         case round =>
          clear H'
          try clear c1
          try clear p2
          try clear c3
          try clear c3b0
          try clear c3b1
          try clear c4
          try clear c4b0
          try clear c4b1
          try clear p4
          try clear q4
          try clear hx4
          try clear p6
          try clear c7
          try clear c7b0
          try clear c8
          try clear c8b0
          try clear c9
          try clear c9b0
          try clear c10
          try clear c12
          try clear c15
          try clear hx414_0
          try clear p2
          try clear p414
          try clear p6
          try clear q414
          obtain ⟨x10_2, x11_2, rfl, rfl, HA, HK2, HO_6, HO_7, HB⟩ := hrel
          cases gk with
          | zero => exact absurd HA.out (by simp [dioramaref02_Over.l1])
          | succ k2 =>
           have H := HA.out; clear HA; simp only [dioramaref02_Over.l1] at H
           by_cases c18 : x10_2 < x11_2
           ·rw [if_pos c18] at H; have c18b0 : decide (x10_2 < x11_2) = true := decide_eq_true c18; clear c18; obtain ⟨t434, A19, H⟩ := ob H; obtain ⟨t437, A20, H⟩ := ob H; obtain ⟨t440, A21, H⟩ := ob H
            by_cases c22 : t440 ≤ 0
            ·rw [if_pos c22] at H; have c22b0 : decide (t440 ≤ 0) = true := decide_eq_true c22; clear c22; have H' := Aside0.mk H; clear H
             go_wp2_with (first | ((with_reducible refine gate_callee (f := 121) rfl ?_); refine zC 42 Try.func121 #[.int .i64 (wrap64 (Int.tdiv (wrap64 ((wrap64 (x10_2 + x11_2)) + 1)) 2))] ?_; (with_reducible refine (dioramaref02_Of.calls k2 (wrap64 (Int.tdiv (wrap64 ((wrap64 (x10_2 + x11_2)) + 1)) 2)) t434 _ A19.out).mono ?_); rintro e w23 ⟨v435, rfl, ho0, hb⟩; refine ⟨_, rfl, ?_⟩; have HO436 := Aside0.mk (Kd.R_lower (Kd.R_new' (Kd.R_new' ho0 (Kd.R_lt (rz HO_6))) (Kd.R_lt (rz HO_7))) sz); replace HO_6 := Aside0.mk (Kd.R_elder' (rz HO_6) (Kd.R_base ho0) hb); replace HO_7 := Aside0.mk (Kd.R_elder' (rz HO_7) (Kd.R_base ho0) hb); replace HB := bp hb; clear hb ho0; obtain ⟨Ao24, co24, eo24⟩ := Kd.R_slice HO436.out; subst eo24) | ((with_reducible refine gate_callee (f := 124) rfl ?_); refine zC 43 Try.func124 #[.slice A1 l1.length c1, .slice Ao24 t434.length co24] ?_; (with_reducible refine (dioramaref02_Times.calls k2 _ _ l1 _ _ t434 t437 _ ?side1 ?side2 ?side3 ?side4 A20.out).mono ?_); (case side1 => exact cz HR1); (case side2 => exact HC1.out); (case side3 => exact cr HO436); (case side4 => exact (Kd.R_reads' HO436.out).2.1); rintro e w25 ⟨v438, rfl, ho0, hb⟩; refine ⟨_, rfl, ?_⟩; have HO439 := Aside0.mk (Kd.R_lower (Kd.R_new' (Kd.R_new' (Kd.R_new' ho0 (Kd.R_lt (rz HO_6))) (Kd.R_lt (rz HO_7))) (Kd.R_lt (rz HO436))) sz); replace HO_6 := Aside0.mk (Kd.R_elder' (rz HO_6) (Kd.R_base ho0) hb); replace HO_7 := Aside0.mk (Kd.R_elder' (rz HO_7) (Kd.R_base ho0) hb); replace HO436 := Aside0.mk (Kd.R_elder' (rz HO436) (Kd.R_base ho0) hb); replace HB := bp hb; clear hb ho0; obtain ⟨Ao26, co26, eo26⟩ := Kd.R_slice HO439.out; subst eo26; obtain ⟨Ao27, co27, eo27⟩ := Kd.R_slice HO_7.out; subst eo27) | ((with_reducible refine gate_callee (f := 122) rfl ?_); refine zC 45 Try.func122 #[.slice Ao26 t437.length co26, .slice Ao27 t421.length co27] ?_; (with_reducible refine (dioramaref02_Compare.calls k2 _ _ t437 _ _ t421 t440 _ ?side1 ?side2 ?side3 ?side4 A21.out).mono ?_); (case side1 => exact cr HO439); (case side2 => exact (Kd.R_reads' HO439.out).2.1); (case side3 => exact cr HO_7); (case side4 => exact (Kd.R_reads' HO_7.out).2.1); rintro e w' ⟨rfl, ⟨nd, rfl⟩⟩; refine ⟨_, rfl, ?_⟩))
             go_roundg k2
             case measure => have := HK1.out; have := HK2.out; omega
             case rel => exact ⟨(wrap64 (Int.tdiv (wrap64 ((wrap64 (x10_2 + x11_2)) + 1)) 2)), (x11_2), jz, jz, H', ⟨by have := HK1.out; have := HK2.out; omega⟩, ⟨by (with_reducible repeat (first | apply Kd.R_alloc | apply Kd.R_drewN | apply Kd.R_drew)); exact Kd.R_mono HO_6.out (fun _ hk => hk.1.1)⟩, ⟨by (with_reducible repeat (first | apply Kd.R_alloc | apply Kd.R_drewN | apply Kd.R_drew)); exact Kd.R_mono HO_7.out (fun _ hk => hk.1.1)⟩, ⟨bz⟩⟩
            ·rw [if_neg c22] at H; have c22b0 : decide (t440 ≤ 0) = false := decide_eq_false c22; clear c22; have H' := Aside0.mk H; clear H
             go_wp2_with (first | ((with_reducible refine gate_callee (f := 121) rfl ?_); refine zC 42 Try.func121 #[.int .i64 (wrap64 (Int.tdiv (wrap64 ((wrap64 (x10_2 + x11_2)) + 1)) 2))] ?_; (with_reducible refine (dioramaref02_Of.calls k2 (wrap64 (Int.tdiv (wrap64 ((wrap64 (x10_2 + x11_2)) + 1)) 2)) t434 _ A19.out).mono ?_); rintro e w28 ⟨v435, rfl, ho0, hb⟩; refine ⟨_, rfl, ?_⟩; have HO436 := Aside0.mk (Kd.R_lower (Kd.R_new' (Kd.R_new' ho0 (Kd.R_lt (rz HO_6))) (Kd.R_lt (rz HO_7))) sz); replace HO_6 := Aside0.mk (Kd.R_elder' (rz HO_6) (Kd.R_base ho0) hb); replace HO_7 := Aside0.mk (Kd.R_elder' (rz HO_7) (Kd.R_base ho0) hb); replace HB := bp hb; clear hb ho0; obtain ⟨Ao29, co29, eo29⟩ := Kd.R_slice HO436.out; subst eo29) | ((with_reducible refine gate_callee (f := 124) rfl ?_); refine zC 43 Try.func124 #[.slice A1 l1.length c1, .slice Ao29 t434.length co29] ?_; (with_reducible refine (dioramaref02_Times.calls k2 _ _ l1 _ _ t434 t437 _ ?side1 ?side2 ?side3 ?side4 A20.out).mono ?_); (case side1 => exact cz HR1); (case side2 => exact HC1.out); (case side3 => exact cr HO436); (case side4 => exact (Kd.R_reads' HO436.out).2.1); rintro e w30 ⟨v438, rfl, ho0, hb⟩; refine ⟨_, rfl, ?_⟩; have HO439 := Aside0.mk (Kd.R_lower (Kd.R_new' (Kd.R_new' (Kd.R_new' ho0 (Kd.R_lt (rz HO_6))) (Kd.R_lt (rz HO_7))) (Kd.R_lt (rz HO436))) sz); replace HO_6 := Aside0.mk (Kd.R_elder' (rz HO_6) (Kd.R_base ho0) hb); replace HO_7 := Aside0.mk (Kd.R_elder' (rz HO_7) (Kd.R_base ho0) hb); replace HO436 := Aside0.mk (Kd.R_elder' (rz HO436) (Kd.R_base ho0) hb); replace HB := bp hb; clear hb ho0; obtain ⟨Ao31, co31, eo31⟩ := Kd.R_slice HO439.out; subst eo31; obtain ⟨Ao32, co32, eo32⟩ := Kd.R_slice HO_7.out; subst eo32) | ((with_reducible refine gate_callee (f := 122) rfl ?_); refine zC 45 Try.func122 #[.slice Ao31 t437.length co31, .slice Ao32 t421.length co32] ?_; (with_reducible refine (dioramaref02_Compare.calls k2 _ _ t437 _ _ t421 t440 _ ?side1 ?side2 ?side3 ?side4 A21.out).mono ?_); (case side1 => exact cr HO439); (case side2 => exact (Kd.R_reads' HO439.out).2.1); (case side3 => exact cr HO_7); (case side4 => exact (Kd.R_reads' HO_7.out).2.1); rintro e w' ⟨rfl, ⟨nd, rfl⟩⟩; refine ⟨_, rfl, ?_⟩))
             go_roundg k2
             case measure => have := HK1.out; have := HK2.out; omega
             case rel => exact ⟨(x10_2), (wrap64 ((wrap64 (Int.tdiv (wrap64 ((wrap64 (x10_2 + x11_2)) + 1)) 2)) - 1)), jz, jz, H', ⟨by have := HK1.out; have := HK2.out; omega⟩, ⟨by (with_reducible repeat (first | apply Kd.R_alloc | apply Kd.R_drewN | apply Kd.R_drew)); exact Kd.R_mono HO_6.out (fun _ hk => hk.1.1)⟩, ⟨by (with_reducible repeat (first | apply Kd.R_alloc | apply Kd.R_drewN | apply Kd.R_drew)); exact Kd.R_mono HO_7.out (fun _ hk => hk.1.1)⟩, ⟨bz⟩⟩
           ·rw [if_neg c18] at H; have c18b0 : decide (x10_2 < x11_2) = false := decide_eq_false c18; clear c18
            by_cases c33 : 0 ≤ x8_1
            ·rw [if_pos c33] at H; have c33b0 : decide (0 ≤ x8_1) = true := decide_eq_true c33; clear c33
             by_cases c34 : x8_1 < (x6_1.length : Int)
             ·rw [if_pos c34] at H; have c34b0 : decide (x8_1 < (x6_1.length : Int)) = true := decide_eq_true c34; clear c34; obtain ⟨y424, hy424⟩ : ∃ y_ : List Int, y_ = (x6_1.set (x8_1 : Int).toNat x10_2) := ⟨_, rfl⟩; replace H : ((dioramaref02_Of.f k2 x10_2).bind fun t425 => ((dioramaref02_Times.f k2 l1 t425).bind fun t428 => ((dioramaref02_Minus.f k2 t421 t428).bind fun t431 => (dioramaref02_Over.l0 k2 l0 l1 y424 t431 (wrap64 (x8_1 - 1)))))) = some (r1, r2) := by first | (rw [hy424]; with_reducible exact H) | (have H2_ := (Option.bind_some _ _).symm.trans H; rw [hy424]; with_reducible exact H2_) | (have H2_ := (Option.bind_some _ _).symm.trans H; with_reducible exact H2_) | with_reducible exact H | (rw [hy424]; exact H) | exact H
              have Ny424 := Aside0.mk hy424; clear hy424; obtain ⟨t425, A36, H⟩ := ob H; obtain ⟨t428, A37, H⟩ := ob H; obtain ⟨t431, A38, H⟩ := ob H; have H' := Aside0.mk H; clear H; have p35 : 0 ≤ (x8_1 : Int) := od; have q35 : (x8_1 : Int) < ((x6_1.length : Int) : Int) := od; obtain ⟨go35, co35, eo35, gb35, gl35, cl35, HG35⟩ := Kd.R_form HO_6.out (by omega)
              (first | cases eo35 | (injection eo35 with ea_ en_ ec_; (first | subst ea_ | (injection ea_ with ea_; subst ea_)); subst ec_; clear en_))
              have GB35 := Aside0.mk gb35; have GG35 := Aside0.mk HG35; clear gb35 gl35 HG35; obtain ⟨hx35_0, hf35_0⟩ := Kd.R_celln 0 HO_6.out (x8_1 : Int) p35 q35; replace p35 := eq_true p35; replace q35 := eq_true q35; have HP39 := Kd.R_putg HO_6.out (x8_1 : Int) x10_2
              go_wp2_with (first | ((with_reducible refine gate_store (t := 3) (p := 53) rfl ?_); refine store_event (t := 3) (p := 53) (v := ?vo_w40) (w1 := (wr.setCell ⟨go35, (x8_1 : Int).toNat, none⟩ (.int .i64 x10_2))) ?hg ?ho ?hn ?hr ?_; (case ho => rfl); (case hg => rfl); (case hn => rfl); (case hr => first | (go_simp; done) | (go_simp; rfl)); intro w40 hw; have hg : wr.grownBy w40 (some go35) := (by rw [hw]; exact HP39.2); have hp_ : Kd.R (Kd.int .i64) 3 w40 w.heap.size (fun k_ => some k_ ≠ (v422 : Value).ownBlock) (.slice (some ⟨go35, 0, none⟩) x6_1.length co35) y424 := (by rw [hw, Ny424.out]; exact HP39.1); clear HP39; replace HO_6 := Aside0.mk (hp_); replace HO_7 := Aside0.mk (Kd.R_after (v := (.slice (some ⟨go35, 0, none⟩) x6_1.length co35)) (v1 := (.slice (some ⟨go35, 0, none⟩) x6_1.length co35)) (ok := (fun _ => True)) (by (with_reducible repeat (first | apply Kd.R_alloc | apply Kd.R_drewN | apply Kd.R_drew)); exact Kd.R_mono HO_7.out (fun _ hk => ⟨trivial, hk⟩)) hg (.inl rfl)); replace HB := Aside0.mk ((by rw [hw]; exact below_set (HB.out) GB35.out : Below w.heap.size w w40)); clear hg hw hp_) | ((with_reducible refine gate_callee (f := 121) rfl ?_); refine zC 57 Try.func121 #[.int .i64 x10_2] ?_; (with_reducible refine (dioramaref02_Of.calls k2 x10_2 t425 _ A36.out).mono ?_); rintro e w41 ⟨v426, rfl, ho0, hb⟩; refine ⟨_, rfl, ?_⟩; have HO427 := Aside0.mk (Kd.R_lower (Kd.R_new' (Kd.R_new' ho0 (Kd.R_lt (rz HO_6))) (Kd.R_lt (rz HO_7))) sz); replace HO_6 := Aside0.mk (Kd.R_elder' (rz HO_6) (Kd.R_base ho0) hb); replace HO_7 := Aside0.mk (Kd.R_elder' (rz HO_7) (Kd.R_base ho0) hb); replace HB := bp hb; clear hb ho0; obtain ⟨Ao42, co42, eo42⟩ := Kd.R_slice HO427.out; subst eo42) | ((with_reducible refine gate_callee (f := 124) rfl ?_); refine zC 58 Try.func124 #[.slice A1 l1.length c1, .slice Ao42 t425.length co42] ?_; (with_reducible refine (dioramaref02_Times.calls k2 _ _ l1 _ _ t425 t428 _ ?side1 ?side2 ?side3 ?side4 A37.out).mono ?_); (case side1 => exact cz HR1); (case side2 => exact HC1.out); (case side3 => exact cr HO427); (case side4 => exact (Kd.R_reads' HO427.out).2.1); rintro e w43 ⟨v429, rfl, ho0, hb⟩; refine ⟨_, rfl, ?_⟩; have HO430 := Aside0.mk (Kd.R_lower (Kd.R_new' (Kd.R_new' (Kd.R_new' ho0 (Kd.R_lt (rz HO_6))) (Kd.R_lt (rz HO_7))) (Kd.R_lt (rz HO427))) sz); replace HO_6 := Aside0.mk (Kd.R_elder' (rz HO_6) (Kd.R_base ho0) hb); replace HO_7 := Aside0.mk (Kd.R_elder' (rz HO_7) (Kd.R_base ho0) hb); replace HO427 := Aside0.mk (Kd.R_elder' (rz HO427) (Kd.R_base ho0) hb); replace HB := bp hb; clear hb ho0; obtain ⟨Ao44, co44, eo44⟩ := Kd.R_slice HO_7.out; subst eo44; obtain ⟨Ao45, co45, eo45⟩ := Kd.R_slice HO430.out; subst eo45) | ((with_reducible refine gate_callee (f := 138) rfl ?_); refine zC 59 Try.func138 #[.slice Ao44 t421.length co44, .slice Ao45 t428.length co45] ?_; (with_reducible refine (dioramaref02_Minus.calls k2 _ _ t421 _ _ t428 t431 _ ?side1 ?side2 ?side3 ?side4 A38.out).mono ?_); (case side1 => exact cr HO_7); (case side2 => exact (Kd.R_reads' HO_7.out).2.1); (case side3 => exact cr HO430); (case side4 => exact (Kd.R_reads' HO430.out).2.1); rintro e w46 ⟨v432, rfl, ho0, hb⟩; refine ⟨_, rfl, ?_⟩; have HO433 := Aside0.mk (Kd.R_lower (Kd.R_new' (Kd.R_new' (Kd.R_new' (Kd.R_new' ho0 (Kd.R_lt (rz HO_6))) (Kd.R_lt (rz HO_7))) (Kd.R_lt (rz HO427))) (Kd.R_lt (rz HO430))) sz); replace HO_6 := Aside0.mk (Kd.R_elder' (rz HO_6) (Kd.R_base ho0) hb); replace HO_7 := Aside0.mk (Kd.R_elder' (rz HO_7) (Kd.R_base ho0) hb); replace HO427 := Aside0.mk (Kd.R_elder' (rz HO427) (Kd.R_base ho0) hb); replace HO430 := Aside0.mk (Kd.R_elder' (rz HO430) (Kd.R_base ho0) hb); replace HB := bp hb; clear hb ho0))
              go_roundg k2
              case measure => have := HK1.out; have := HK2.out; omega
              case rel => exact ⟨(y424), (t431), (wrap64 (x8_1 - 1)), jz, H', ⟨by have := HK1.out; have := HK2.out; omega⟩, ⟨by (with_reducible repeat (first | apply Kd.R_alloc | apply Kd.R_drewN | apply Kd.R_drew)); exact Kd.R_mono HO_6.out (fun _ hk => hk.2)⟩, ⟨by (with_reducible repeat (first | apply Kd.R_alloc | apply Kd.R_drewN | apply Kd.R_drew)); exact Kd.R_mono HO433.out (fun _ hk => hk.1.1.1.2)⟩, ⟨bz⟩⟩
             ·rw [if_neg c34] at H
              exact absurd H (by simp)
            ·rw [if_neg c33] at H
             exact absurd H (by simp)
        ·rw [if_neg c10] at H
         exact absurd H (by simp)
       ·rw [if_neg c9] at H
        exact absurd H (by simp)
      ·rw [if_neg c8] at H
       exact absurd H (by simp)
     ·rw [if_neg c7] at H; have c7b0 : decide (0 ≤ x8_1) = false := decide_eq_false c7; clear c7; obtain ⟨t411, A47, H⟩ := ob H; simp only [Option.some.injEq, Prod.mk.injEq] at H; obtain ⟨rfl, rfl⟩ := H; obtain ⟨Ao48, co48, eo48⟩ := Kd.R_slice HO_6.out; subst eo48
      go_wp2_with (first | ((with_reducible refine gate_callee (f := 154) rfl ?_); refine zC 61 Try.func154 #[.slice Ao48 x6_1.length co48] ?_; (with_reducible refine (dioramaref02_trimmed.calls k1 (fun k_ => some k_ = (.slice Ao48 x6_1.length co48 : Value).ownBlock) (.slice Ao48 x6_1.length co48) x6_1 t411 w _ ?side1 ?side2 A47.out).mono ?_); (case side1 => repeat (first | (with_reducible first | exact HB.out | apply below_alloc | apply pw_below_drewN | apply below_drew1) | exact HB.out)); (case side2 => exact Kd.R_tight rfl HO_6.out); rintro e w49 ⟨v412, rfl, ho0, hb, hkp⟩; refine ⟨_, rfl, ?_⟩; have HO413 := Aside0.mk (Kd.R_mono (ok' := fun k_ => some k_ ≠ (u7 : Value).ownBlock) ho0 (fun k_ hk_ => Or.elim hk_ (fun hs_ => fun e_ => (((HO_7.out).1 k_ e_.symm)) hs_) (fun hn_ => (Kd.fresh' (Kd.R_lt (rz HO_7)) k_ hn_)))); replace HO_7 := Aside0.mk (Kd.R_mono (ok' := fun k_ => some k_ ≠ (v412 : Value).ownBlock) (Kd.R_keptB (HO_7.out) hkp (fun k_ hk_ hs_ => (hk_) hs_)) (fun k_ hk_ => fun e_ => Or.elim (ho0.1 k_ e_.symm) (fun hs_ => hk_.2.1 hs_) (fun hn_ => Nat.not_le.2 hk_.2.2 hn_))); replace HB := Aside0.mk (hb); clear HO_6; clear hb hkp ho0))
      go_ret2
      exact ⟨_, _, ez, by (with_reducible repeat (first | apply Kd.R_alloc | apply Kd.R_drewN | apply Kd.R_drew)); exact HO413.out, by (with_reducible repeat (first | apply Kd.R_alloc | apply Kd.R_drewN | apply Kd.R_drew)); exact HO_7.out, bz⟩
  ·rw [if_neg c4] at H
   exact absurd H (by simp)
 ·rw [if_neg c3] at H
  exact absurd H (by simp)
end Go.Proofs.Ytpbhepdgamoiaaa.E
namespace Go.Proofs.Ytpbhepdgamoiaaa.E
open Go.Proofs.Ytpbhepdgamoiaaa.Z Go.RowKit Go.Proofs.YtpbhepdgamoiaaaW.PrintWords Go.Proofs.YtpbhepdgamoiaaaW.PrintLast Go.Proofs.YtpbhepdgamoiaaaW.PrintMore
attribute [local go_sem] max2_int min2_int max_two min_two max_three min_three max_four min_four
set_option linter.unusedVariables false
set_option linter.unusedSimpArgs false
attribute [local go_sem high] eqA77
def api_Edit_90.l0 : Nat → List (S77) → List (S77) → Int → Int → Option (Bool)
  | 0, _, _, _, _ => none
  | k + 1, x0, x1, x12, x13 => if x13 < x12 then (if 0 ≤ x13 then (if x13 < (x0.length : Int) then (if x13 < (x1.length : Int) then (if (!(((rd_T77 x0 x13).f0) == ((rd_T77 x1 x13).f0)) || (!(((rd_T77 x0 x13).f1) == ((rd_T77 x1 x13).f1)) || (!(((rd_T77 x0 x13).f2) == ((rd_T77 x1 x13).f2)) || (!(((rd_T77 x0 x13).f3) == ((rd_T77 x1 x13).f3)))))) = true then (some false) else (api_Edit_90.l0 k x0 x1 x12 (wrap64 (x13 + 1)))) else (none)) else (none)) else (none)) else (some true)
def api_Edit_90.f (k : Nat) (l0 : List (S77)) (l1 : List (S77)) : Option (Bool) := if (l0.length : Int) = (l1.length : Int) then (api_Edit_90.l0 k l0 l1 (l0.length : Int) 0) else (some false)
set_option maxHeartbeats 8000000 in
set_option maxRecDepth 100000 in
theorem api_Edit_90.calls (k : Nat) (A0 : Option Addr) (c0 : Nat) (l0 : List (S77)) (A1 : Option Addr) (c1 : Nat) (l1 : List (S77)) (r : Bool) (w : World) (hr0 : Kd.C k77 w A0 l0.length l0) (hc0 : l0.length ≤ c0) (hr1 : Kd.C k77 w A1 l1.length l1) (hc1 : l1.length ≤ c1) (h : api_Edit_90.f k l0 l1 = some r) :
  Calls Try.prog 90 #[.slice A0 l0.length c0, .slice A1 l1.length c1] w fun e w' => e = .returned (.bool r) ∧ Drawn0 w w' := by
 have hu77 := Try.underlying77; have HR0 := Aside0.mk hr0; have HC0 := Aside0.mk hc0; clear hr0 hc0; have HR1 := Aside0.mk hr1; have HC1 := Aside0.mk hc1; clear hr1 hc1; have H : (if (l0.length : Int) = (l1.length : Int) then (api_Edit_90.l0 k l0 l1 (l0.length : Int) 0) else (some false)) = some r := h; clear h
 by_cases c3 : (l0.length : Int) = (l1.length : Int)
 ·rw [if_pos c3] at H; have c3b0 : ((l0.length : Int) == (l1.length : Int)) = true := beq_iff_eq.mpr c3; have c3b1 : ((l0.length : Int) != (l1.length : Int)) = false := bne_eq_false_iff_eq.mpr c3; have c3b2 : (l0.length == l1.length) = true := by first | simpa using c3 | (simp at c3 ⊢; omega)
  clear c3; have H' := Aside0.mk H; clear H
  go_enter Try.func90, Try.ntmps90
  go_wp2
  repeat (go_quiet (fail); try go_wp2)
  go_loopg [13] k (fun kq v13 w' => ∃ (x13_1 : Int), v13 = .int .i64 x13_1 ∧ Aside0 (api_Edit_90.l0 kq l0 l1 (l0.length : Int) x13_1 = some r) ∧ Aside0 (kq ≤ k) ∧ Drawn0 w w')
  case atStart => exact ⟨(0), jz, H', ⟨Nat.le_refl _⟩, by repeat (first | exact Drawn0.refl _ | apply Drawn0.step)⟩
  case round =>
   clear H'
   try clear c1
   try clear p2
   try clear c3
   try clear c3b0
   try clear c3b1
   try clear c3b2
   obtain ⟨x13_1, rfl, HA, HK1, ⟨m1, rfl⟩⟩ := hrel
   cases gk with
   | zero => exact absurd HA.out (by simp [api_Edit_90.l0])
   | succ k1 =>
    have H := HA.out; clear HA; simp only [api_Edit_90.l0] at H
    by_cases c4 : x13_1 < (l0.length : Int)
    ·rw [if_pos c4] at H; have c4b0 : decide (x13_1 < (l0.length : Int)) = true := decide_eq_true c4; clear c4
     by_cases c5 : 0 ≤ x13_1
     ·rw [if_pos c5] at H; have c5b0 : decide (0 ≤ x13_1) = true := decide_eq_true c5; clear c5
      by_cases c6 : x13_1 < (l0.length : Int)
      ·rw [if_pos c6] at H; have c6b0 : decide (x13_1 < (l0.length : Int)) = true := decide_eq_true c6; clear c6
       by_cases c7 : x13_1 < (l1.length : Int)
       ·rw [if_pos c7] at H; have c7b0 : decide (x13_1 < (l1.length : Int)) = true := decide_eq_true c7; clear c7
        by_cases c8 : (!(((rd_T77 l0 x13_1).f0) == ((rd_T77 l1 x13_1).f0)) || (!(((rd_T77 l0 x13_1).f1) == ((rd_T77 l1 x13_1).f1)) || (!(((rd_T77 l0 x13_1).f2) == ((rd_T77 l1 x13_1).f2)) || (!(((rd_T77 l0 x13_1).f3) == ((rd_T77 l1 x13_1).f3)))))) = true
        ·rw [if_pos c8] at H; have c8b0 : (!(((rd_T77 l0 x13_1).f0) == ((rd_T77 l1 x13_1).f0)) || (!(((rd_T77 l0 x13_1).f1) == ((rd_T77 l1 x13_1).f1)) || (!(((rd_T77 l0 x13_1).f2) == ((rd_T77 l1 x13_1).f2)) || (!(((rd_T77 l0 x13_1).f3) == ((rd_T77 l1 x13_1).f3)))))) = true := c8; clear c8; obtain rfl := Option.some.inj H; have p580 : 0 ≤ (x13_1 : Int) := od; have q580 : x13_1 < (l0.length : Int) := od; obtain ⟨ad580, e580, hx580_0, hx580_1, hx580_2, hx580_3⟩ := at_T77 HR0.out x13_1 p580 q580
         cases e580
         replace p580 := eq_true p580; replace q580 := eq_true q580; have p581 : 0 ≤ (x13_1 : Int) := od; have q581 : x13_1 < (l1.length : Int) := od; obtain ⟨ad581, e581, hx581_0, hx581_1, hx581_2, hx581_3⟩ := at_T77 HR1.out x13_1 p581 q581
         cases e581
         replace p581 := eq_true p581; replace q581 := eq_true q581
         go_wp2
         repeat (go_quiet (fail); try go_wp2)
         go_ret
         exact ⟨by first | rfl | (simp; done) | (simp [*]; done), by repeat (first | exact Drawn0.refl _ | apply Drawn0.step)⟩
        ·rw [if_neg c8] at H; have c8b0 : (!(((rd_T77 l0 x13_1).f0) == ((rd_T77 l1 x13_1).f0)) || (!(((rd_T77 l0 x13_1).f1) == ((rd_T77 l1 x13_1).f1)) || (!(((rd_T77 l0 x13_1).f2) == ((rd_T77 l1 x13_1).f2)) || (!(((rd_T77 l0 x13_1).f3) == ((rd_T77 l1 x13_1).f3)))))) = false := by simpa using c8
         clear c8; have H' := Aside0.mk H; clear H; have p580 : 0 ≤ (x13_1 : Int) := od; have q580 : x13_1 < (l0.length : Int) := od; obtain ⟨ad580, e580, hx580_0, hx580_1, hx580_2, hx580_3⟩ := at_T77 HR0.out x13_1 p580 q580
         cases e580
         replace p580 := eq_true p580; replace q580 := eq_true q580; have p581 : 0 ≤ (x13_1 : Int) := od; have q581 : x13_1 < (l1.length : Int) := od; obtain ⟨ad581, e581, hx581_0, hx581_1, hx581_2, hx581_3⟩ := at_T77 HR1.out x13_1 p581 q581
         cases e581
         replace p581 := eq_true p581; replace q581 := eq_true q581
         go_wp2
         repeat (go_quiet (fail); try go_wp2)
         go_roundg k1
         case measure => have := HK1.out; omega
         case rel => exact ⟨(wrap64 (x13_1 + 1)), jz, H', ⟨by have := HK1.out; omega⟩, by repeat (first | exact Drawn0.refl _ | apply Drawn0.step)⟩
       ·rw [if_neg c7] at H
        exact absurd H (by simp)
      ·rw [if_neg c6] at H
       exact absurd H (by simp)
     ·rw [if_neg c5] at H
      exact absurd H (by simp)
    ·rw [if_neg c4] at H; have c4b0 : decide (x13_1 < (l0.length : Int)) = false := decide_eq_false c4; clear c4; obtain rfl := Option.some.inj H
     go_wp2
     repeat (go_quiet (fail); try go_wp2)
     go_ret
     exact ⟨by first | rfl | (simp; done) | (simp [*]; done), by repeat (first | exact Drawn0.refl _ | apply Drawn0.step)⟩
 ·rw [if_neg c3] at H; have c3b0 : ((l0.length : Int) == (l1.length : Int)) = false := beq_eq_false_iff_ne.mpr c3; have c3b1 : ((l0.length : Int) != (l1.length : Int)) = true := bne_iff_ne.mpr c3; have c3b2 : (l0.length == l1.length) = false := by first | simpa using c3 | (simp at c3 ⊢; omega)
  obtain rfl := Option.some.inj H
  go_enter Try.func90, Try.ntmps90
  go_wp2
  repeat (go_quiet (fail); try go_wp2)
  go_ret
  exact ⟨by first | rfl | (simp; done) | (simp [*]; done), by repeat (first | exact Drawn0.refl _ | apply Drawn0.step)⟩
def edit_Alike.f (k : Nat) (l0 : List (S77)) (l1 : List (S77)) (a2 : Int) (a3 : Int) : Option (Bool × Int) := (edit_Normal.f k l0 a2 a3).bind fun bt582 => (if bt582.2 = 0 then ((edit_Normal.f k l1 a2 a3).bind fun bt586 => (if bt586.2 = 0 then ((api_Edit_90.f k bt582.1 bt586.1).bind fun t590 => (some (t590, 0))) else (some (false, bt586.2)))) else (some (false, bt582.2)))
set_option maxHeartbeats 8000000 in
set_option maxRecDepth 100000 in
theorem edit_Alike.calls (k : Nat) (A0 : Option Addr) (c0 : Nat) (l0 : List (S77)) (A1 : Option Addr) (c1 : Nat) (l1 : List (S77)) (a2 : Int) (a3 : Int) (r1 : Bool) (r2 : Int) (w : World) (hr0 : Kd.C k77 w A0 l0.length l0) (hc0 : l0.length ≤ c0) (hr1 : Kd.C k77 w A1 l1.length l1) (hc1 : l1.length ≤ c1) (h : edit_Alike.f k l0 l1 a2 a3 = some (r1, r2)) :
  Calls Try.prog 34 #[.slice A0 l0.length c0, .slice A1 l1.length c1, .int .i64 a2, .int .i64 a3] w fun e w' => e = .returned (.tuple #[.bool r1, .int .i64 r2]) ∧ Below w.heap.size w w' := by
 have HR0 := Aside0.mk hr0; have HC0 := Aside0.mk hc0; clear hr0 hc0; have HR1 := Aside0.mk hr1; have HC1 := Aside0.mk hc1; clear hr1 hc1; have HB := Aside0.mk (Below.refl w.heap.size w); have H : ((edit_Normal.f k l0 a2 a3).bind fun bt582 => (if bt582.2 = 0 then ((edit_Normal.f k l1 a2 a3).bind fun bt586 => (if bt586.2 = 0 then ((api_Edit_90.f k bt582.1 bt586.1).bind fun t590 => (some (t590, 0))) else (some (false, bt586.2)))) else (some (false, bt582.2)))) = some (r1, r2) := h
 clear h; obtain ⟨⟨t582, t583⟩, A5, H⟩ := ob H
 (try dsimp only at H)
 by_cases c6 : t583 = 0
 ·rw [if_pos c6] at H; have c6b0 : (t583 == 0) = true := beq_iff_eq.mpr c6; have c6b1 : (t583 != 0) = false := bne_eq_false_iff_eq.mpr c6; clear c6; obtain ⟨⟨t586, t587⟩, A7, H⟩ := ob H
  (try dsimp only at H)
  by_cases c8 : t587 = 0
  ·rw [if_pos c8] at H; have c8b0 : (t587 == 0) = true := beq_iff_eq.mpr c8; have c8b1 : (t587 != 0) = false := bne_eq_false_iff_eq.mpr c8; clear c8; obtain ⟨t590, A9, H⟩ := ob H; simp only [Option.some.injEq, Prod.mk.injEq] at H; obtain ⟨rfl, rfl⟩ := H
   go_enter Try.func34, Try.ntmps34
   go_wp2_with (first | ((with_reducible refine gate_callee (f := 21) rfl ?_); refine zC 17 Try.func21 #[.slice A0 l0.length c0, .int .i64 a2, .int .i64 a3] ?_; (with_reducible refine (edit_Normal.calls k _ _ l0 a2 a3 t582 t583 _ ?side1 ?side2 A5.out).mono ?_); (case side1 => repeat (first | exact HR0.out | (with_reducible refine Kd.C_alloc ?_ _) | (with_reducible refine Kd.C_drewN ?_ _) | (with_reducible refine Kd.C_drew ?_))); (case side2 => exact HC0.out); rintro e w10 ⟨v584, rfl, ho0, hb⟩; refine ⟨_, rfl, ?_⟩; have HO585 := Aside0.mk (Kd.R_lower ho0 sz); replace HB := bp hb; clear hb ho0) | ((with_reducible refine gate_callee (f := 21) rfl ?_); refine zC 27 Try.func21 #[.slice A1 l1.length c1, .int .i64 a2, .int .i64 a3] ?_; (with_reducible refine (edit_Normal.calls k _ _ l1 a2 a3 t586 t587 _ ?side1 ?side2 A7.out).mono ?_); (case side1 => exact cz HR1); (case side2 => exact HC1.out); rintro e w11 ⟨v588, rfl, ho0, hb⟩; refine ⟨_, rfl, ?_⟩; have HO589 := Aside0.mk (Kd.R_lower (Kd.R_new' ho0 (Kd.R_lt (rz HO585))) sz); replace HO585 := Aside0.mk (Kd.R_elder' (rz HO585) (Kd.R_base ho0) hb); replace HB := bp hb; clear hb ho0; obtain ⟨Ao12, co12, eo12⟩ := Kd.R_slice HO585.out; subst eo12; obtain ⟨Ao13, co13, eo13⟩ := Kd.R_slice HO589.out; subst eo13) | ((with_reducible refine gate_callee (f := 90) rfl ?_); refine zC 35 Try.func90 #[.slice Ao12 t582.length co12, .slice Ao13 t586.length co13] ?_; (with_reducible refine (api_Edit_90.calls k _ _ t582 _ _ t586 t590 _ ?side1 ?side2 ?side3 ?side4 A9.out).mono ?_); (case side1 => exact cr HO585); (case side2 => exact (Kd.R_reads' HO585.out).2.1); (case side3 => exact cr HO589); (case side4 => exact (Kd.R_reads' HO589.out).2.1); rintro e w' ⟨rfl, ⟨nd, rfl⟩⟩; refine ⟨_, rfl, ?_⟩))
   go_ret2
   exact ⟨ez, bz⟩
  ·rw [if_neg c8] at H; have c8b0 : (t587 == 0) = false := beq_eq_false_iff_ne.mpr c8; have c8b1 : (t587 != 0) = true := bne_iff_ne.mpr c8; simp only [Option.some.injEq, Prod.mk.injEq] at H; obtain ⟨rfl, rfl⟩ := H
   go_enter Try.func34, Try.ntmps34
   go_wp2_with (first | ((with_reducible refine gate_callee (f := 21) rfl ?_); refine zC 17 Try.func21 #[.slice A0 l0.length c0, .int .i64 a2, .int .i64 a3] ?_; (with_reducible refine (edit_Normal.calls k _ _ l0 a2 a3 t582 t583 _ ?side1 ?side2 A5.out).mono ?_); (case side1 => repeat (first | exact HR0.out | (with_reducible refine Kd.C_alloc ?_ _) | (with_reducible refine Kd.C_drewN ?_ _) | (with_reducible refine Kd.C_drew ?_))); (case side2 => exact HC0.out); rintro e w14 ⟨v584, rfl, ho0, hb⟩; refine ⟨_, rfl, ?_⟩; have HO585 := Aside0.mk (Kd.R_lower ho0 sz); replace HB := bp hb; clear hb ho0) | ((with_reducible refine gate_callee (f := 21) rfl ?_); refine zC 27 Try.func21 #[.slice A1 l1.length c1, .int .i64 a2, .int .i64 a3] ?_; (with_reducible refine (edit_Normal.calls k _ _ l1 a2 a3 t586 t587 _ ?side1 ?side2 A7.out).mono ?_); (case side1 => exact cz HR1); (case side2 => exact HC1.out); rintro e w15 ⟨v588, rfl, ho0, hb⟩; refine ⟨_, rfl, ?_⟩; have HO589 := Aside0.mk (Kd.R_lower (Kd.R_new' ho0 (Kd.R_lt (rz HO585))) sz); replace HO585 := Aside0.mk (Kd.R_elder' (rz HO585) (Kd.R_base ho0) hb); replace HB := bp hb; clear hb ho0))
   go_ret2
   exact ⟨ez, bz⟩
 ·rw [if_neg c6] at H; have c6b0 : (t583 == 0) = false := beq_eq_false_iff_ne.mpr c6; have c6b1 : (t583 != 0) = true := bne_iff_ne.mpr c6; simp only [Option.some.injEq, Prod.mk.injEq] at H; obtain ⟨rfl, rfl⟩ := H
  go_enter Try.func34, Try.ntmps34
  go_wp2_with (first | ((with_reducible refine gate_callee (f := 21) rfl ?_); refine zC 17 Try.func21 #[.slice A0 l0.length c0, .int .i64 a2, .int .i64 a3] ?_; (with_reducible refine (edit_Normal.calls k _ _ l0 a2 a3 t582 t583 _ ?side1 ?side2 A5.out).mono ?_); (case side1 => repeat (first | exact HR0.out | (with_reducible refine Kd.C_alloc ?_ _) | (with_reducible refine Kd.C_drewN ?_ _) | (with_reducible refine Kd.C_drew ?_))); (case side2 => exact HC0.out); rintro e w16 ⟨v584, rfl, ho0, hb⟩; refine ⟨_, rfl, ?_⟩; have HO585 := Aside0.mk (Kd.R_lower ho0 sz); replace HB := bp hb; clear hb ho0))
  go_ret2
  exact ⟨ez, bz⟩
def bits_Mul64.f (a0 : Int) (a1 : Int) : Option (Int × Int) := some (IntKind.u64.wrap ((IntKind.u64.wrap ((IntKind.u64.wrap ((a0 / 4294967296) * (a1 / 4294967296))) + ((IntKind.u64.wrap ((IntKind.u64.wrap ((a0 / 4294967296) * (Go.bits .and .u64 a1 4294967295))) + ((IntKind.u64.wrap ((Go.bits .and .u64 a0 4294967295) * (Go.bits .and .u64 a1 4294967295))) / 4294967296))) / 4294967296))) + ((IntKind.u64.wrap ((Go.bits .and .u64 (IntKind.u64.wrap ((IntKind.u64.wrap ((a0 / 4294967296) * (Go.bits .and .u64 a1 4294967295))) + ((IntKind.u64.wrap ((Go.bits .and .u64 a0 4294967295) * (Go.bits .and .u64 a1 4294967295))) / 4294967296))) 4294967295) + (IntKind.u64.wrap ((Go.bits .and .u64 a0 4294967295) * (a1 / 4294967296))))) / 4294967296)), IntKind.u64.wrap (a0 * a1))
set_option maxHeartbeats 8000000 in
set_option maxRecDepth 100000 in
theorem bits_Mul64.calls (a0 : Int) (a1 : Int) (r1 : Int) (r2 : Int) (w : World) (h : bits_Mul64.f a0 a1 = some (r1, r2)) :
  Calls Try.prog 159 #[.int .u64 a0, .int .u64 a1] w fun e w' => e = .returned (.tuple #[.int .u64 r1, .int .u64 r2]) ∧ Drawn0 w w' := by
 have H : (some (IntKind.u64.wrap ((IntKind.u64.wrap ((IntKind.u64.wrap ((a0 / 4294967296) * (a1 / 4294967296))) + ((IntKind.u64.wrap ((IntKind.u64.wrap ((a0 / 4294967296) * (Go.bits .and .u64 a1 4294967295))) + ((IntKind.u64.wrap ((Go.bits .and .u64 a0 4294967295) * (Go.bits .and .u64 a1 4294967295))) / 4294967296))) / 4294967296))) + ((IntKind.u64.wrap ((Go.bits .and .u64 (IntKind.u64.wrap ((IntKind.u64.wrap ((a0 / 4294967296) * (Go.bits .and .u64 a1 4294967295))) + ((IntKind.u64.wrap ((Go.bits .and .u64 a0 4294967295) * (Go.bits .and .u64 a1 4294967295))) / 4294967296))) 4294967295) + (IntKind.u64.wrap ((Go.bits .and .u64 a0 4294967295) * (a1 / 4294967296))))) / 4294967296)), IntKind.u64.wrap (a0 * a1))) = some (r1, r2) := h; clear h; simp only [Option.some.injEq, Prod.mk.injEq] at H; obtain ⟨rfl, rfl⟩ := H
 go_enter Try.func159, Try.ntmps159
 go_wp2
 go_ret2
 exact ⟨by first | rfl | (simp; done) | (simp [*]; done), by repeat (first | exact Drawn0.refl _ | apply Drawn0.step)⟩
def bits_Mul.f (a0 : Int) (a1 : Int) : Option (Int × Int) := (bits_Mul64.f a0 a1).bind fun bt1085 => (some (bt1085.1, bt1085.2))
set_option maxHeartbeats 8000000 in
set_option maxRecDepth 100000 in
theorem bits_Mul.calls (a0 : Int) (a1 : Int) (r1 : Int) (r2 : Int) (w : World) (h : bits_Mul.f a0 a1 = some (r1, r2)) :
  Calls Try.prog 139 #[.int .u64 a0, .int .u64 a1] w fun e w' => e = .returned (.tuple #[.int .u64 r1, .int .u64 r2]) ∧ Drawn0 w w' := by
 have H : ((bits_Mul64.f a0 a1).bind fun bt1085 => (some (bt1085.1, bt1085.2))) = some (r1, r2) := h
 clear h; obtain ⟨⟨t1085, t1086⟩, A3, H⟩ := ob H
 (try dsimp only at H)
 simp only [Option.some.injEq, Prod.mk.injEq] at H; obtain ⟨rfl, rfl⟩ := H
 go_enter Try.func139, Try.ntmps139
 go_wp2_with (first | ((with_reducible refine gate_callee (f := 159) rfl ?_); refine zC 25 Try.func159 #[.int .u64 a0, .int .u64 a1] ?_; (with_reducible refine (bits_Mul64.calls a0 a1 t1085 t1086 _ A3.out).mono ?_); rintro e w' ⟨rfl, ⟨nd, rfl⟩⟩; refine ⟨_, rfl, ?_⟩))
 go_ret2
 exact ⟨by first | rfl | (simp; done) | (simp [*]; done), by repeat (first | exact Drawn0.refl _ | apply Drawn0.step)⟩
mutual
def dioramaref10_Repeat.j0 : Nat → List (S77) → Int → Int → Int → Bool → Option ((List (S77)) × Int)
  | 0, _, _, _, _, _ => none
  | k + 1, x0, x1, x2, x3, x25 => if x25 = true then (some (([] : List (S77)), 1)) else (dioramaref10_Repeat.l0 k x0 x1 x2 x3 ([] : List (S77)) 0)
def dioramaref10_Repeat.l0 : Nat → List (S77) → Int → Int → Int → List (S77) → Int → Option ((List (S77)) × Int)
  | 0, _, _, _, _, _, _ => none
  | k + 1, x0, x1, x2, x3, x11, x12 => if x12 < x3 then (if x11.length + x0.length < 4398046511104 then (dioramaref10_Repeat.l0 k x0 x1 x2 x3 (x11 ++ x0) (wrap64 (x12 + 1))) else (none)) else ((dioramaref10_told.f k x11 x1 x2).bind fun bt1094 => (some (bt1094.1, bt1094.2)))
end
def dioramaref10_Repeat.f (k : Nat) (l0 : List (S77)) (a1 : Int) (a2 : Int) (a3 : Int) : Option ((List (S77)) × Int) := (dioramaref10_Check.f k l0 a1 a2).bind fun t1090 => (if t1090 = 0 then (if a3 < 0 then (dioramaref10_Repeat.j0 k l0 a1 a2 a3 true) else (dioramaref10_Repeat.j0 k l0 a1 a2 a3 (decide (a3 > 100)))) else (some (([] : List (S77)), t1090)))
set_option maxHeartbeats 8000000 in
set_option maxRecDepth 100000 in
theorem dioramaref10_Repeat.calls (k : Nat) (A0 : Option Addr) (c0 : Nat) (l0 : List (S77)) (a1 : Int) (a2 : Int) (a3 : Int) (r1 : List (S77)) (r2 : Int) (w : World) (hr0 : Kd.C k77 w A0 l0.length l0) (hc0 : l0.length ≤ c0) (h : dioramaref10_Repeat.f k l0 a1 a2 a3 = some (r1, r2)) :
  Calls Try.prog 51 #[.slice A0 l0.length c0, .int .i64 a1, .int .i64 a2, .int .i64 a3] w fun e w' => ∃ v0_ : Value, e = .returned (.tuple #[v0_, .int .i64 r2]) ∧ Kd.R k77 77 w' w.heap.size (fun _ => True) v0_ r1 ∧ Below w.heap.size w w' := by
 have HR0 := Aside0.mk hr0; have HC0 := Aside0.mk hc0; clear hr0 hc0; have HB := Aside0.mk (Below.refl w.heap.size w); have H : ((dioramaref10_Check.f k l0 a1 a2).bind fun t1090 => (if t1090 = 0 then (if a3 < 0 then (dioramaref10_Repeat.j0 k l0 a1 a2 a3 true) else (dioramaref10_Repeat.j0 k l0 a1 a2 a3 (decide (a3 > 100)))) else (some (([] : List (S77)), t1090)))) = some (r1, r2) := h
 clear h; obtain ⟨t1090, A5, H⟩ := ob H
 by_cases c6 : t1090 = 0
 ·rw [if_pos c6] at H; have c6b0 : (t1090 == 0) = true := beq_iff_eq.mpr c6; have c6b1 : (t1090 != 0) = false := bne_eq_false_iff_eq.mpr c6; clear c6; have HC7 := Aside0.mk H; clear H
  go_enter Try.func51, Try.ntmps51
  go_upto_region 4 with (first | ((with_reducible refine gate_callee (f := 25) rfl ?_); refine zC 16 Try.func25 #[.slice A0 l0.length c0, .int .i64 a1, .int .i64 a2] ?_; (with_reducible refine (dioramaref10_Check.calls k _ _ l0 a1 a2 t1090 _ ?side1 ?side2 A5.out).mono ?_); (case side1 => repeat (first | exact HR0.out | (with_reducible refine Kd.C_alloc ?_ _) | (with_reducible refine Kd.C_drewN ?_ _) | (with_reducible refine Kd.C_drew ?_))); (case side2 => exact HC0.out); rintro e w8 ⟨rfl, hb⟩; refine ⟨_, rfl, ?_⟩; replace HB := bp hb; clear hb))
  (try simp only [Act.put, List.setIfInBounds_toArray, List.set_cons_zero, List.set_cons_succ])
  go_cut [25] (fun v25 wc => ∃ (kq : Nat) (x25_6 : Bool), v25 = .bool x25_6 ∧ Aside0 (dioramaref10_Repeat.j0 kq l0 a1 a2 a3 x25_6 = some (r1, r2)) ∧ Aside0 (kq ≤ k) ∧ Aside0 (Below w.heap.size w wc))
  case first =>
   have H := HC7.out; clear HC7
   by_cases c9 : a3 < 0
   ·rw [if_pos c9] at H; have c9b0 : decide (a3 < 0) = true := decide_eq_true c9; clear c9
    (first | rw [c9b0] | (simp only [i64_w, i32_w]; rw [c9b0]) | skip)
    have H' := Aside0.mk H; clear H
    go_wp2
    go_meet
    case rel => exact ⟨_, (true), jz, H', ⟨by first | omega | exact Nat.le_refl _⟩, ⟨bz⟩⟩
   ·rw [if_neg c9] at H; have c9b0 : decide (a3 < 0) = false := decide_eq_false c9; clear c9
    (first | rw [c9b0] | (simp only [i64_w, i32_w]; rw [c9b0]) | skip)
    have H' := Aside0.mk H; clear H
    go_wp2
    go_meet
    case rel => exact ⟨_, (decide (a3 > 100)), jz, H', ⟨by first | omega | exact Nat.le_refl _⟩, ⟨bz⟩⟩
  case rest =>
   clear HC7
   try clear c2
   try clear p2
   try clear c5
   try clear c6
   try clear c6b0
   try clear c6b1
   try clear c9
   try clear c9b0
   obtain ⟨kq, x25_6, rfl, HA, HJ6, HB⟩ := hcut
   cases kq with
   | zero => exact absurd HA.out (by simp [dioramaref10_Repeat.j0])
   | succ kj6 =>
    have H := HA.out; clear HA; simp only [dioramaref10_Repeat.j0] at H
    by_cases c10 : x25_6 = true
    ·subst c10; rw [if_pos rfl] at H; simp only [Option.some.injEq, Prod.mk.injEq] at H; obtain ⟨rfl, rfl⟩ := H
     go_wp2
     go_ret2
     exact ⟨_, ez, by first | exact Kd.R_nil _ _ _ _ _ | exact Kd.N_nil _ _ _ _ _ | exact Kd.V_nil _ _ _ _ _ | exact Kd.Q_nil _ _ _ _ _ | exact Kd.S_nil _ _ _ _ _, bz⟩
    ·obtain rfl := bf c10; rw [if_neg (show ¬ (false = true) by decide)] at H; have H' := Aside0.mk H; clear H
     go_wp2
     go_loopg [11, 12] kj6 (fun kq v11 v12 w' => ∃ (x11_2 : List (S77)) (x12_2 : Int), v12 = .int .i64 x12_2 ∧ Aside0 (dioramaref10_Repeat.l0 kq l0 a1 a2 a3 x11_2 x12_2 = some (r1, r2)) ∧ Aside0 (kq ≤ kj6) ∧ Aside0 (Kd.R k77 77 w' w.heap.size (fun _ => True) v11 x11_2) ∧ Aside0 (Below w.heap.size w w'))
     case atStart => exact ⟨(([] : List (S77))), (0), jz, H', ⟨Nat.le_refl _⟩, ⟨by first | exact Kd.R_nil _ _ _ _ _ | exact Kd.N_nil _ _ _ _ _ | exact Kd.V_nil _ _ _ _ _ | exact Kd.Q_nil _ _ _ _ _ | exact Kd.S_nil _ _ _ _ _⟩, ⟨bz⟩⟩
     case round =>
      clear H'
      try clear c1
      try clear c2
      try clear p2
      try clear c5
      try clear c6
      try clear c6b0
      try clear c6b1
      try clear c9
      try clear c9b0
      try clear c10
      try clear p2
      obtain ⟨x11_2, x12_2, rfl, HA, HK2, HO_11, HB⟩ := hrel
      cases gk with
      | zero => exact absurd HA.out (by simp [dioramaref10_Repeat.l0])
      | succ k2 =>
       have H := HA.out; clear HA; simp only [dioramaref10_Repeat.l0] at H
       by_cases c11 : x12_2 < a3
       ·rw [if_pos c11] at H; have c11b0 : decide (x12_2 < a3) = true := decide_eq_true c11; clear c11
        by_cases c12 : x11_2.length + l0.length < 4398046511104
        ·rw [if_pos c12] at H; have LMc12 := Aside0.mk c12; clear c12; obtain ⟨y1091, hy1091⟩ : ∃ y_ : List (S77), y_ = (x11_2 ++ l0) := ⟨_, rfl⟩; replace H : (dioramaref10_Repeat.l0 k2 l0 a1 a2 a3 y1091 (wrap64 (x12_2 + 1))) = some (r1, r2) := by first | (rw [hy1091]; with_reducible exact H) | (have H2_ := (Option.bind_some _ _).symm.trans H; rw [hy1091]; with_reducible exact H2_) | (have H2_ := (Option.bind_some _ _).symm.trans H; with_reducible exact H2_) | with_reducible exact H | (rw [hy1091]; exact H) | exact H
         have Ny1091 := Aside0.mk hy1091; clear hy1091; have H' := Aside0.mk H; clear H
         go_wp2_with (first | ((with_reducible refine gate_builtin (b := .append) (xs := #[.tmp 31, .tmp 32]) rfl ?_); at_builtin; refine Kd.R_append_rows k77 (w0 := w) w.heap.size rfl (.tmp 31) (.tmp 32) 22 77 (.agg #[(.int .i64 0), (.int .i64 0), (.int .i64 0), (.int .i64 0)]) 32 rfl Try.underlying22 info77 rfl (by decide) (by omega) u11 x11_2 l0 _ _ _ (fun _ => True) (fun _ => False) rfl rfl ?aO ?aR (fun _ _ h => h) (fun _ h => h.elim) ?aF ?aB ?aS ?aL ?_; (case aR => repeat (first | exact (Kd.C_below HR0.out HB.out) | (with_reducible refine Kd.C_alloc ?_ _) | (with_reducible refine Kd.C_drewN ?_ _) | (with_reducible refine Kd.C_drew ?_))); (case aB => exact bz); (case aF => exact (fun _ _ => trivial)); (case aO => exact (rz HO_11)); (case aS => exact sz); (case aL => have := LMc12.out; omega); intro v1092 w13 ho hb hg hat; rw [← Ny1091.out] at ho; replace HB := Aside0.mk (hb); have HO1093 := Aside0.mk (ho); clear HO_11; clear ho hb hg hat))
         go_roundg k2
         case measure => have := HJ6.out; have := HK2.out; omega
         case rel => exact ⟨(y1091), (wrap64 (x12_2 + 1)), jz, H', ⟨by have := HJ6.out; have := HK2.out; omega⟩, ⟨rz HO1093⟩, ⟨bz⟩⟩
        ·rw [if_neg c12] at H
         exact absurd H (by simp)
       ·rw [if_neg c11] at H; have c11b0 : decide (x12_2 < a3) = false := decide_eq_false c11; clear c11; obtain ⟨⟨t1094, t1095⟩, A14, H⟩ := ob H
        (try dsimp only at H)
        simp only [Option.some.injEq, Prod.mk.injEq] at H; obtain ⟨rfl, rfl⟩ := H; obtain ⟨Ao15, co15, eo15⟩ := Kd.R_slice HO_11.out; subst eo15
        go_wp2_with (first | ((with_reducible refine gate_callee (f := 58) rfl ?_); refine zC 37 Try.func58 #[.slice Ao15 x11_2.length co15, .int .i64 a1, .int .i64 a2] ?_; (with_reducible refine (dioramaref10_told.calls k2 _ _ x11_2 a1 a2 t1094 t1095 _ ?side1 ?side2 A14.out).mono ?_); (case side1 => exact cr HO_11); (case side2 => exact (Kd.R_reads' HO_11.out).2.1); rintro e w16 ⟨v1096, rfl, ho0, hb⟩; refine ⟨_, rfl, ?_⟩; have HO1097 := Aside0.mk (Kd.R_lower (Kd.R_new' ho0 (Kd.R_lt (rz HO_11))) sz); replace HO_11 := Aside0.mk (Kd.R_elder' (rz HO_11) (Kd.R_base ho0) hb); replace HB := bp hb; clear hb ho0))
        go_ret2
        exact ⟨_, ez, by (with_reducible repeat (first | apply Kd.R_alloc | apply Kd.R_drewN | apply Kd.R_drew)); exact Kd.R_mono HO1097.out (fun _ hk => trivial), bz⟩
 ·rw [if_neg c6] at H; have c6b0 : (t1090 == 0) = false := beq_eq_false_iff_ne.mpr c6; have c6b1 : (t1090 != 0) = true := bne_iff_ne.mpr c6; simp only [Option.some.injEq, Prod.mk.injEq] at H; obtain ⟨rfl, rfl⟩ := H
  go_enter Try.func51, Try.ntmps51
  go_wp2_with (first | ((with_reducible refine gate_callee (f := 25) rfl ?_); refine zC 16 Try.func25 #[.slice A0 l0.length c0, .int .i64 a1, .int .i64 a2] ?_; (with_reducible refine (dioramaref10_Check.calls k _ _ l0 a1 a2 t1090 _ ?side1 ?side2 A5.out).mono ?_); (case side1 => repeat (first | exact HR0.out | (with_reducible refine Kd.C_alloc ?_ _) | (with_reducible refine Kd.C_drewN ?_ _) | (with_reducible refine Kd.C_drew ?_))); (case side2 => exact HC0.out); rintro e w17 ⟨rfl, hb⟩; refine ⟨_, rfl, ?_⟩; replace HB := bp hb; clear hb))
  go_ret2
  exact ⟨_, ez, by first | exact Kd.R_nil _ _ _ _ _ | exact Kd.N_nil _ _ _ _ _ | exact Kd.V_nil _ _ _ _ _ | exact Kd.Q_nil _ _ _ _ _ | exact Kd.S_nil _ _ _ _ _, bz⟩
def dioramaref10_EqEdits.l0 : Nat → List (S77) → List (S77) → Int → Option (Bool)
  | 0, _, _, _ => none
  | k + 1, x0, x1, x5 => if x5 < (x0.length : Int) then (if 0 ≤ x5 then (if x5 < (x1.length : Int) then (if (!(((rd_T77 x0 x5).f0) == ((rd_T77 x1 x5).f0)) || (!(((rd_T77 x0 x5).f1) == ((rd_T77 x1 x5).f1)) || (!(((rd_T77 x0 x5).f2) == ((rd_T77 x1 x5).f2)) || (!(((rd_T77 x0 x5).f3) == ((rd_T77 x1 x5).f3)))))) = true then (some false) else (dioramaref10_EqEdits.l0 k x0 x1 (wrap64 (x5 + 1)))) else (none)) else (none)) else (some true)
def dioramaref10_EqEdits.f (k : Nat) (l0 : List (S77)) (l1 : List (S77)) : Option (Bool) := if (l0.length : Int) = (l1.length : Int) then (dioramaref10_EqEdits.l0 k l0 l1 0) else (some false)
set_option maxHeartbeats 8000000 in
set_option maxRecDepth 100000 in
theorem dioramaref10_EqEdits.calls (k : Nat) (A0 : Option Addr) (c0 : Nat) (l0 : List (S77)) (A1 : Option Addr) (c1 : Nat) (l1 : List (S77)) (r : Bool) (w : World) (hr0 : Kd.C k77 w A0 l0.length l0) (hc0 : l0.length ≤ c0) (hr1 : Kd.C k77 w A1 l1.length l1) (hc1 : l1.length ≤ c1) (h : dioramaref10_EqEdits.f k l0 l1 = some r) :
  Calls Try.prog 101 #[.slice A0 l0.length c0, .slice A1 l1.length c1] w fun e w' => e = .returned (.bool r) ∧ Drawn0 w w' := by
 have hu77 := Try.underlying77; have HR0 := Aside0.mk hr0; have HC0 := Aside0.mk hc0; clear hr0 hc0; have HR1 := Aside0.mk hr1; have HC1 := Aside0.mk hc1; clear hr1 hc1; have H : (if (l0.length : Int) = (l1.length : Int) then (dioramaref10_EqEdits.l0 k l0 l1 0) else (some false)) = some r := h; clear h
 by_cases c3 : (l0.length : Int) = (l1.length : Int)
 ·rw [if_pos c3] at H; have c3b0 : ((l0.length : Int) == (l1.length : Int)) = true := beq_iff_eq.mpr c3; have c3b1 : ((l0.length : Int) != (l1.length : Int)) = false := bne_eq_false_iff_eq.mpr c3; have c3b2 : (l0.length == l1.length) = true := by first | simpa using c3 | (simp at c3 ⊢; omega)
  clear c3; have H' := Aside0.mk H; clear H
  go_enter Try.func101, Try.ntmps101
  go_wp2
  repeat (go_quiet (fail); try go_wp2)
  go_loopg [5] k (fun kq v5 w' => ∃ (x5_1 : Int), v5 = .int .i64 x5_1 ∧ Aside0 (dioramaref10_EqEdits.l0 kq l0 l1 x5_1 = some r) ∧ Aside0 (kq ≤ k) ∧ Drawn0 w w')
  case atStart => exact ⟨(0), jz, H', ⟨Nat.le_refl _⟩, by repeat (first | exact Drawn0.refl _ | apply Drawn0.step)⟩
  case round =>
   clear H'
   try clear c1
   try clear p2
   try clear c3
   try clear c3b0
   try clear c3b1
   try clear c3b2
   obtain ⟨x5_1, rfl, HA, HK1, ⟨m1, rfl⟩⟩ := hrel
   cases gk with
   | zero => exact absurd HA.out (by simp [dioramaref10_EqEdits.l0])
   | succ k1 =>
    have H := HA.out; clear HA; simp only [dioramaref10_EqEdits.l0] at H
    by_cases c4 : x5_1 < (l0.length : Int)
    ·rw [if_pos c4] at H; have c4b0 : decide (x5_1 < (l0.length : Int)) = true := decide_eq_true c4; clear c4
     by_cases c5 : 0 ≤ x5_1
     ·rw [if_pos c5] at H; have c5b0 : decide (0 ≤ x5_1) = true := decide_eq_true c5; clear c5
      by_cases c6 : x5_1 < (l1.length : Int)
      ·rw [if_pos c6] at H; have c6b0 : decide (x5_1 < (l1.length : Int)) = true := decide_eq_true c6; clear c6
       by_cases c7 : (!(((rd_T77 l0 x5_1).f0) == ((rd_T77 l1 x5_1).f0)) || (!(((rd_T77 l0 x5_1).f1) == ((rd_T77 l1 x5_1).f1)) || (!(((rd_T77 l0 x5_1).f2) == ((rd_T77 l1 x5_1).f2)) || (!(((rd_T77 l0 x5_1).f3) == ((rd_T77 l1 x5_1).f3)))))) = true
       ·rw [if_pos c7] at H; have c7b0 : (!(((rd_T77 l0 x5_1).f0) == ((rd_T77 l1 x5_1).f0)) || (!(((rd_T77 l0 x5_1).f1) == ((rd_T77 l1 x5_1).f1)) || (!(((rd_T77 l0 x5_1).f2) == ((rd_T77 l1 x5_1).f2)) || (!(((rd_T77 l0 x5_1).f3) == ((rd_T77 l1 x5_1).f3)))))) = true := c7; clear c7; obtain rfl := Option.some.inj H; have p1098 : 0 ≤ (x5_1 : Int) := od; have q1098 : x5_1 < (l0.length : Int) := od; obtain ⟨ad1098, e1098, hx1098_0, hx1098_1, hx1098_2, hx1098_3⟩ := at_T77 HR0.out x5_1 p1098 q1098
        cases e1098
        replace p1098 := eq_true p1098; replace q1098 := eq_true q1098; have p1099 : 0 ≤ (x5_1 : Int) := od; have q1099 : x5_1 < (l1.length : Int) := od; obtain ⟨ad1099, e1099, hx1099_0, hx1099_1, hx1099_2, hx1099_3⟩ := at_T77 HR1.out x5_1 p1099 q1099
        cases e1099
        replace p1099 := eq_true p1099; replace q1099 := eq_true q1099
        go_wp2
        repeat (go_quiet (fail); try go_wp2)
        go_ret
        exact ⟨by first | rfl | (simp; done) | (simp [*]; done), by repeat (first | exact Drawn0.refl _ | apply Drawn0.step)⟩
       ·rw [if_neg c7] at H; have c7b0 : (!(((rd_T77 l0 x5_1).f0) == ((rd_T77 l1 x5_1).f0)) || (!(((rd_T77 l0 x5_1).f1) == ((rd_T77 l1 x5_1).f1)) || (!(((rd_T77 l0 x5_1).f2) == ((rd_T77 l1 x5_1).f2)) || (!(((rd_T77 l0 x5_1).f3) == ((rd_T77 l1 x5_1).f3)))))) = false := by simpa using c7
        clear c7; have H' := Aside0.mk H; clear H; have p1098 : 0 ≤ (x5_1 : Int) := od; have q1098 : x5_1 < (l0.length : Int) := od; obtain ⟨ad1098, e1098, hx1098_0, hx1098_1, hx1098_2, hx1098_3⟩ := at_T77 HR0.out x5_1 p1098 q1098
        cases e1098
        replace p1098 := eq_true p1098; replace q1098 := eq_true q1098; have p1099 : 0 ≤ (x5_1 : Int) := od; have q1099 : x5_1 < (l1.length : Int) := od; obtain ⟨ad1099, e1099, hx1099_0, hx1099_1, hx1099_2, hx1099_3⟩ := at_T77 HR1.out x5_1 p1099 q1099
        cases e1099
        replace p1099 := eq_true p1099; replace q1099 := eq_true q1099
        go_wp2
        repeat (go_quiet (fail); try go_wp2)
        go_roundg k1
        case measure => have := HK1.out; omega
        case rel => exact ⟨(wrap64 (x5_1 + 1)), jz, H', ⟨by have := HK1.out; omega⟩, by repeat (first | exact Drawn0.refl _ | apply Drawn0.step)⟩
      ·rw [if_neg c6] at H
       exact absurd H (by simp)
     ·rw [if_neg c5] at H
      exact absurd H (by simp)
    ·rw [if_neg c4] at H; have c4b0 : decide (x5_1 < (l0.length : Int)) = false := decide_eq_false c4; clear c4; obtain rfl := Option.some.inj H
     go_wp2
     repeat (go_quiet (fail); try go_wp2)
     go_ret
     exact ⟨by first | rfl | (simp; done) | (simp [*]; done), by repeat (first | exact Drawn0.refl _ | apply Drawn0.step)⟩
 ·rw [if_neg c3] at H; have c3b0 : ((l0.length : Int) == (l1.length : Int)) = false := beq_eq_false_iff_ne.mpr c3; have c3b1 : ((l0.length : Int) != (l1.length : Int)) = true := bne_iff_ne.mpr c3; have c3b2 : (l0.length == l1.length) = false := by first | simpa using c3 | (simp at c3 ⊢; omega)
  obtain rfl := Option.some.inj H
  go_enter Try.func101, Try.ntmps101
  go_wp2
  repeat (go_quiet (fail); try go_wp2)
  go_ret
  exact ⟨by first | rfl | (simp; done) | (simp [*]; done), by repeat (first | exact Drawn0.refl _ | apply Drawn0.step)⟩
def dioramaref10_Alike.f (k : Nat) (l0 : List (S77)) (l1 : List (S77)) (a2 : Int) (a3 : Int) : Option (Bool × Int) := (dioramaref10_Check.f k l0 a2 a3).bind fun t1100 => (if t1100 = 0 then ((dioramaref10_Check.f k l1 a2 a3).bind fun t1101 => (if t1101 = 0 then ((dioramaref10_normal.f k l0 a2 a3).bind fun t1102 => ((dioramaref10_normal.f k l1 a2 a3).bind fun t1105 => ((dioramaref10_EqEdits.f k t1102 t1105).bind fun t1108 => (some (t1108, 0))))) else (some (false, t1101)))) else (some (false, t1100)))
set_option maxHeartbeats 8000000 in
set_option maxRecDepth 100000 in
theorem dioramaref10_Alike.calls (k : Nat) (A0 : Option Addr) (c0 : Nat) (l0 : List (S77)) (A1 : Option Addr) (c1 : Nat) (l1 : List (S77)) (a2 : Int) (a3 : Int) (r1 : Bool) (r2 : Int) (w : World) (hr0 : Kd.C k77 w A0 l0.length l0) (hc0 : l0.length ≤ c0) (hr1 : Kd.C k77 w A1 l1.length l1) (hc1 : l1.length ≤ c1) (h : dioramaref10_Alike.f k l0 l1 a2 a3 = some (r1, r2)) :
  Calls Try.prog 52 #[.slice A0 l0.length c0, .slice A1 l1.length c1, .int .i64 a2, .int .i64 a3] w fun e w' => e = .returned (.tuple #[.bool r1, .int .i64 r2]) ∧ Below w.heap.size w w' := by
 have HR0 := Aside0.mk hr0; have HC0 := Aside0.mk hc0; clear hr0 hc0; have HR1 := Aside0.mk hr1; have HC1 := Aside0.mk hc1; clear hr1 hc1; have HB := Aside0.mk (Below.refl w.heap.size w); have H : ((dioramaref10_Check.f k l0 a2 a3).bind fun t1100 => (if t1100 = 0 then ((dioramaref10_Check.f k l1 a2 a3).bind fun t1101 => (if t1101 = 0 then ((dioramaref10_normal.f k l0 a2 a3).bind fun t1102 => ((dioramaref10_normal.f k l1 a2 a3).bind fun t1105 => ((dioramaref10_EqEdits.f k t1102 t1105).bind fun t1108 => (some (t1108, 0))))) else (some (false, t1101)))) else (some (false, t1100)))) = some (r1, r2) := h
 clear h; obtain ⟨t1100, A5, H⟩ := ob H
 by_cases c6 : t1100 = 0
 ·rw [if_pos c6] at H; have c6b0 : (t1100 == 0) = true := beq_iff_eq.mpr c6; have c6b1 : (t1100 != 0) = false := bne_eq_false_iff_eq.mpr c6; clear c6; obtain ⟨t1101, A7, H⟩ := ob H
  by_cases c8 : t1101 = 0
  ·rw [if_pos c8] at H; have c8b0 : (t1101 == 0) = true := beq_iff_eq.mpr c8; have c8b1 : (t1101 != 0) = false := bne_eq_false_iff_eq.mpr c8; clear c8; obtain ⟨t1102, A9, H⟩ := ob H; obtain ⟨t1105, A10, H⟩ := ob H; obtain ⟨t1108, A11, H⟩ := ob H; simp only [Option.some.injEq, Prod.mk.injEq] at H; obtain ⟨rfl, rfl⟩ := H
   go_enter Try.func52, Try.ntmps52
   go_wp2_with (first | ((with_reducible refine gate_callee (f := 25) rfl ?_); refine zC 14 Try.func25 #[.slice A0 l0.length c0, .int .i64 a2, .int .i64 a3] ?_; (with_reducible refine (dioramaref10_Check.calls k _ _ l0 a2 a3 t1100 _ ?side1 ?side2 A5.out).mono ?_); (case side1 => repeat (first | exact HR0.out | (with_reducible refine Kd.C_alloc ?_ _) | (with_reducible refine Kd.C_drewN ?_ _) | (with_reducible refine Kd.C_drew ?_))); (case side2 => exact HC0.out); rintro e w12 ⟨rfl, hb⟩; refine ⟨_, rfl, ?_⟩; replace HB := bp hb; clear hb) | ((with_reducible refine gate_callee (f := 25) rfl ?_); refine zC 21 Try.func25 #[.slice A1 l1.length c1, .int .i64 a2, .int .i64 a3] ?_; (with_reducible refine (dioramaref10_Check.calls k _ _ l1 a2 a3 t1101 _ ?side1 ?side2 A7.out).mono ?_); (case side1 => exact cz HR1); (case side2 => exact HC1.out); rintro e w13 ⟨rfl, hb⟩; refine ⟨_, rfl, ?_⟩; replace HB := bp hb; clear hb) | ((with_reducible refine gate_callee (f := 102) rfl ?_); refine zC 28 Try.func102 #[.slice A0 l0.length c0, .int .i64 a2, .int .i64 a3] ?_; (with_reducible refine (dioramaref10_normal.calls k _ _ l0 a2 a3 t1102 _ ?side1 ?side2 A9.out).mono ?_); (case side1 => exact cz HR0); (case side2 => exact HC0.out); rintro e w14 ⟨v1103, rfl, ho0, hb⟩; refine ⟨_, rfl, ?_⟩; have HO1104 := Aside0.mk (Kd.R_lower ho0 sz); replace HB := bp hb; clear hb ho0) | ((with_reducible refine gate_callee (f := 102) rfl ?_); refine zC 32 Try.func102 #[.slice A1 l1.length c1, .int .i64 a2, .int .i64 a3] ?_; (with_reducible refine (dioramaref10_normal.calls k _ _ l1 a2 a3 t1105 _ ?side1 ?side2 A10.out).mono ?_); (case side1 => exact cz HR1); (case side2 => exact HC1.out); rintro e w15 ⟨v1106, rfl, ho0, hb⟩; refine ⟨_, rfl, ?_⟩; have HO1107 := Aside0.mk (Kd.R_lower (Kd.R_new' ho0 (Kd.R_lt (rz HO1104))) sz); replace HO1104 := Aside0.mk (Kd.R_elder' (rz HO1104) (Kd.R_base ho0) hb); replace HB := bp hb; clear hb ho0; obtain ⟨Ao16, co16, eo16⟩ := Kd.R_slice HO1104.out; subst eo16; obtain ⟨Ao17, co17, eo17⟩ := Kd.R_slice HO1107.out; subst eo17) | ((with_reducible refine gate_callee (f := 101) rfl ?_); refine zC 33 Try.func101 #[.slice Ao16 t1102.length co16, .slice Ao17 t1105.length co17] ?_; (with_reducible refine (dioramaref10_EqEdits.calls k _ _ t1102 _ _ t1105 t1108 _ ?side1 ?side2 ?side3 ?side4 A11.out).mono ?_); (case side1 => exact cr HO1104); (case side2 => exact (Kd.R_reads' HO1104.out).2.1); (case side3 => exact cr HO1107); (case side4 => exact (Kd.R_reads' HO1107.out).2.1); rintro e w' ⟨rfl, ⟨nd, rfl⟩⟩; refine ⟨_, rfl, ?_⟩))
   go_ret2
   exact ⟨ez, bz⟩
  ·rw [if_neg c8] at H; have c8b0 : (t1101 == 0) = false := beq_eq_false_iff_ne.mpr c8; have c8b1 : (t1101 != 0) = true := bne_iff_ne.mpr c8; simp only [Option.some.injEq, Prod.mk.injEq] at H; obtain ⟨rfl, rfl⟩ := H
   go_enter Try.func52, Try.ntmps52
   go_wp2_with (first | ((with_reducible refine gate_callee (f := 25) rfl ?_); refine zC 14 Try.func25 #[.slice A0 l0.length c0, .int .i64 a2, .int .i64 a3] ?_; (with_reducible refine (dioramaref10_Check.calls k _ _ l0 a2 a3 t1100 _ ?side1 ?side2 A5.out).mono ?_); (case side1 => repeat (first | exact HR0.out | (with_reducible refine Kd.C_alloc ?_ _) | (with_reducible refine Kd.C_drewN ?_ _) | (with_reducible refine Kd.C_drew ?_))); (case side2 => exact HC0.out); rintro e w18 ⟨rfl, hb⟩; refine ⟨_, rfl, ?_⟩; replace HB := bp hb; clear hb) | ((with_reducible refine gate_callee (f := 25) rfl ?_); refine zC 21 Try.func25 #[.slice A1 l1.length c1, .int .i64 a2, .int .i64 a3] ?_; (with_reducible refine (dioramaref10_Check.calls k _ _ l1 a2 a3 t1101 _ ?side1 ?side2 A7.out).mono ?_); (case side1 => exact cz HR1); (case side2 => exact HC1.out); rintro e w19 ⟨rfl, hb⟩; refine ⟨_, rfl, ?_⟩; replace HB := bp hb; clear hb))
   go_ret2
   exact ⟨ez, bz⟩
 ·rw [if_neg c6] at H; have c6b0 : (t1100 == 0) = false := beq_eq_false_iff_ne.mpr c6; have c6b1 : (t1100 != 0) = true := bne_iff_ne.mpr c6; simp only [Option.some.injEq, Prod.mk.injEq] at H; obtain ⟨rfl, rfl⟩ := H
  go_enter Try.func52, Try.ntmps52
  go_wp2_with (first | ((with_reducible refine gate_callee (f := 25) rfl ?_); refine zC 14 Try.func25 #[.slice A0 l0.length c0, .int .i64 a2, .int .i64 a3] ?_; (with_reducible refine (dioramaref10_Check.calls k _ _ l0 a2 a3 t1100 _ ?side1 ?side2 A5.out).mono ?_); (case side1 => repeat (first | exact HR0.out | (with_reducible refine Kd.C_alloc ?_ _) | (with_reducible refine Kd.C_drewN ?_ _) | (with_reducible refine Kd.C_drew ?_))); (case side2 => exact HC0.out); rintro e w20 ⟨rfl, hb⟩; refine ⟨_, rfl, ?_⟩; replace HB := bp hb; clear hb))
  go_ret2
  exact ⟨ez, bz⟩
end Go.Proofs.Ytpbhepdgamoiaaa.E
namespace Go.Proofs.Ytpbhepdgamoiaaa.E
open Go.Proofs.Ytpbhepdgamoiaaa.Z Go.RowKit Go.Proofs.YtpbhepdgamoiaaaW.PrintWords Go.Proofs.YtpbhepdgamoiaaaW.PrintLast Go.Proofs.YtpbhepdgamoiaaaW.PrintMore
attribute [local go_sem] max2_int min2_int max_two min_two max_three min_three max_four min_four
set_option linter.unusedVariables false
set_option linter.unusedSimpArgs false
theorem eqA37 (d : Nat) (w : World) (x0 y0 : Int) (x1 y1 : Int) :
  (Op.equalIn (d + 2) 37 (.agg #[.int .i64 x0, .int .i64 x1]) (.agg #[.int .i64 y0, .int .i64 y1])).run Try.prog w = .ok (x0 == y0 && (x1 == y1)) w := by
 refine eqA_of Try.underlying37 (by kernel_rfl) ?_
 refine eqf_cons (by rfl) (by go_simp; rfl) (by go_simp; rfl) (by go_simp) ?_
 exact eqf_last (by rfl) (by go_simp; rfl) (by go_simp; rfl) (by go_simp)
end Go.Proofs.Ytpbhepdgamoiaaa.E
namespace Go.Proofs.Ytpbhepdgamoiaaa.E
open Go.Proofs.Ytpbhepdgamoiaaa.Z Go.RowKit Go.Proofs.YtpbhepdgamoiaaaW.PrintWords Go.Proofs.YtpbhepdgamoiaaaW.PrintLast Go.Proofs.YtpbhepdgamoiaaaW.PrintMore
attribute [local go_sem] max2_int min2_int max_two min_two max_three min_three max_four min_four
set_option linter.unusedVariables false
set_option linter.unusedSimpArgs false
attribute [local go_sem high] eqA37
end Go.Proofs.Ytpbhepdgamoiaaa.E
namespace Go.Proofs.Ytpbhepdgamoiaaa.E
open Go.Proofs.Ytpbhepdgamoiaaa.Z Go.RowKit Go.Proofs.YtpbhepdgamoiaaaW.PrintWords Go.Proofs.YtpbhepdgamoiaaaW.PrintLast Go.Proofs.YtpbhepdgamoiaaaW.PrintMore
attribute [local go_sem] max2_int min2_int max_two min_two max_three min_three max_four min_four
set_option linter.unusedVariables false
set_option linter.unusedSimpArgs false
end Go.Proofs.Ytpbhepdgamoiaaa.E
namespace Go.Proofs.Ytpbhepdgamoiaaa.Pf
open Go.RowKit Go Go.Proofs.YtpbhepdgamoiaaaW.PrintWords Go.Proofs.YtpbhepdgamoiaaaW.PrintLast Go.Proofs.YtpbhepdgamoiaaaW.PrintMore Go.Proofs.Ytpbhepdgamoiaaa.Mn Go.Proofs.Ytpbhepdgamoiaaa.Rf Go.Proofs.Ytpbhepdgamoiaaa.Er Go.Proofs.Ytpbhepdgamoiaaa.Ek Go.Proofs.Ytpbhepdgamoiaaa.E Go.Proofs.Ytpbhepdgamoiaaa.Pe
set_option linter.unusedVariables false
set_option linter.unusedSimpArgs false
def lowV (x : Ed) : Ed := ⟨x.f0, x.f1, (qq x.f2 x.f3).num, ((qq x.f2 x.f3).den : Int)⟩
def ovV (ms ts : Int) (a b : Ed) : Bool := overB ms ts a.f0 a.f1 a.f2 a.f3 b.f1 b.f2 b.f3
def push (ms ts : Int) : List Ed → Ed → List Ed
 | [], e => [e]
 | a :: t, e => if ovV ms ts a e = true then ⟨a.f0 + e.f0, a.f1, a.f2, a.f3⟩ :: t else e :: a :: t
def nrmR (ms ts : Int) (out l : List Ed) : List Ed := (l.map lowV).foldl (push ms ts) out
def nrm (ms ts : Int) (l : List Ed) : List Ed := (nrmR ms ts [] l).reverse
def fin (out : List Ed) : List Ed × Int := if 20 < out.length then ([], 2) else (out.reverse, 0)
def nrmV (ms ts : Int) (l : List Ed) : List Ed × Int := if 1099511627776 < sumD l then ([], 2) else fin (nrmR ms ts [] l)
structure Wd (x : Ed) : Prop where
 d0 : 1 ≤ x.f0
 m0 : -1 ≤ x.f1
 m1 : x.f1 ≤ 1099511627776
 n0 : 0 ≤ x.f2
 n1 : x.f2 ≤ 1000
 e0 : 1 ≤ x.f3
 e1 : x.f3 ≤ 1000
theorem wd_low {x : Ed} (h : Vd x) : Wd (lowV x) := by
 have hq := qq_low h.n0 h.e0
 have h1 := h.n1
 have h2 := h.e1
 exact ⟨h.d0, h.m0, h.m1, hq.1, by unfold lowV; simp only; omega, hq.2.2.1, by unfold lowV; simp only; omega⟩
theorem low_f {x : Ed} (h : Vd x) : edit_lowest.f x.f0 x.f1 x.f2 x.f3 = some ((lowV x).f0, (lowV x).f1, (lowV x).f2, (lowV x).f3) := by
 unfold edit_lowest.f rateOk
 have h0 := h.n0
 have h1 := h.n1
 have h2 := h.e0
 have h3 := h.e1
 rw [decide_eq_true h0, decide_eq_true (show x.f2 ≤ 1000000 by omega), decide_eq_true h2, decide_eq_true (show x.f3 ≤ 1000000 by omega)]
 rfl
theorem over_f {ms ts : Int} {a b : Ed} (hc : Ck ms ts) (ha : Wd a) (hd : a.f0 ≤ 1099511627776) (hb : Wd b) : edit_clocks_over.f ms ts a.f0 a.f1 a.f2 a.f3 b.f0 b.f1 b.f2 b.f3 = some (ovV ms ts a b) := by
 unfold edit_clocks_over.f overOk in64
 have c0 := hc.m0
 have c1 := hc.m1
 have c2 := hc.t0
 have c3 := hc.t1
 have a0 := ha.d0
 have a1 := ha.m0
 have a2 := ha.m1
 have a3 := ha.n0
 have a4 := ha.n1
 have a5 := ha.e0
 have a6 := ha.e1
 have b1 := hb.m0
 have b2 := hb.m1
 rw [if_pos (by simp only [Bool.and_eq_true, decide_eq_true_eq]; omega)]
 rfl
theorem push_sum (ms ts : Int) (out : List Ed) (e : Ed) : sumD (push ms ts out e) = sumD out + e.f0 := by
 cases out with
 | nil => simp [push, sumD]
 | cons a t =>
  simp only [push]
  split
  ·simp only [sumD]; omega
  ·simp only [sumD]; omega
theorem push_wd {ms ts : Int} {out : List Ed} {e : Ed} (h : ∀ x ∈ out, Wd x) (he : Wd e) : ∀ x ∈ push ms ts out e, Wd x := by
 cases out with
 | nil => simpa [push] using he
 | cons a t =>
  have ha := h a (by simp)
  simp only [push]
  split
  ·intro x hx
   simp only [List.mem_cons] at hx
   rcases hx with rfl | hx
   ·have a0 := ha.d0
    have e0 := he.d0
    exact ⟨by simp only; omega, ha.m0, ha.m1, ha.n0, ha.n1, ha.e0, ha.e1⟩
   ·exact h x (by simp [hx])
  ·intro x hx
   simp only [List.mem_cons] at hx
   rcases hx with rfl | hx
   ·exact he
   ·exact h x (by simpa using hx)
theorem push_len (ms ts : Int) (out : List Ed) (e : Ed) : (push ms ts out e).length ≤ out.length + 1 := by
 cases out with
 | nil => simp [push]
 | cons a t =>
  simp only [push]
  split <;> simp
theorem wd_sum {l : List Ed} (h : ∀ x ∈ l, Wd x) : 0 ≤ sumD l := by
 induction l with
 | nil => simp [sumD]
 | cons x t ih =>
  have h1 := (h x (by simp)).d0
  have h2 := ih (fun y hy => h y (by simp [hy]))
  simp only [sumD]
  omega
theorem normal_l {ms ts : Int} (hc : Ck ms ts) (l : List Ed) (hV : ∀ x ∈ l, Vd x) (hl : l.length ≤ 1000000000) (rest : List Ed) :
  ∀ pre out, l = pre ++ rest → sumD out = sumD pre → sumD pre ≤ 1099511627776 → (∀ x ∈ out, Wd x) → out.length ≤ pre.length →
   Ev (fun k => edit_clocks_normal.l0 k out.reverse (sumD pre) l (l.length : Int) (pre.length : Int) ms ts) (if 1099511627776 < sumD l then ([], 2) else fin (nrmR ms ts out rest)) := by
 induction rest with
 | nil =>
  intro pre out he hs hp hw ho
  subst he
  rw [if_neg (by simp only [List.append_nil]; omega)]
  refine Ev.step (f := fun _ => some (fin (nrmR ms ts out []))) (fun k => ?_) (Ev.now _)
  simp only [edit_clocks_normal.l0, List.append_nil]
  rw [if_neg (by omega)]
  unfold fin nrmR
  simp only [List.map_nil, List.foldl_nil, List.length_reverse]
  by_cases h : 20 < out.length
  ·rw [if_pos h, if_pos (by omega)]
  ·rw [if_neg h, if_neg (by omega)]
 | cons x t ih =>
  intro pre out he hs hp hw ho
  have hlen : l.length = pre.length + (t.length + 1) := by rw [he]; simp
  have hx : rd_T77 l (pre.length : Int) = x := by rw [he]; exact rd_at pre x t
  have hvx : Vd x := hV x (by rw [he]; simp)
  have hst : 0 ≤ sumD t := sumD_nonneg (fun y hy => hV y (by rw [he]; simp [hy]))
  have hsl : sumD l = sumD pre + x.f0 + sumD t := by rw [he, sumD_app]; simp only [sumD]; omega
  have hs0 : 0 ≤ sumD pre := by rw [← hs]; exact wd_sum hw
  have hd0 := hvx.d0
  have hd1 := hvx.d1
  have hsp : sumD (pre ++ [x]) = sumD pre + x.f0 := by rw [sumD_app]; simp [sumD]
  by_cases hbig : sumD pre + x.f0 > 1099511627776
  ·rw [if_pos (by omega)]
   refine Ev.step (f := fun _ => some ([], 2)) (fun k => ?_) (Ev.now _)
   simp only [edit_clocks_normal.l0]
   rw [if_pos (by omega), if_pos (by omega), if_pos (by omega), hx, low_f hvx]
   simp only [Option.bind_some]
   rw [show (lowV x).f0 = x.f0 from rfl, w64 (by omega) (by omega), if_pos hbig]
  ·have hwl := wd_low hvx
   have hr := ih (pre ++ [x]) (push ms ts out (lowV x)) (by rw [he]; simp) (by rw [push_sum, hs, hsp]; rfl) (by omega) (push_wd hw hwl) (by have := push_len ms ts out (lowV x); simp only [List.length_append, List.length_cons, List.length_nil]; omega)
   have hn : nrmR ms ts out (x :: t) = nrmR ms ts (push ms ts out (lowV x)) t := rfl
   rw [hn]
   refine Ev.step (f := fun k => edit_clocks_normal.l1 k out.reverse (sumD (pre ++ [x])) (out.reverse.length : Int) l (l.length : Int) (pre.length : Int) ms ts (lowV x).f0 (lowV x).f1 (lowV x).f2 (lowV x).f3) (fun k => ?_) ?_
   ·simp only [edit_clocks_normal.l0]
    rw [if_pos (by omega), if_pos (by omega), if_pos (by omega), hx, low_f hvx]
    simp only [Option.bind_some]
    rw [show (lowV x).f0 = x.f0 from rfl, w64 (by omega) (by omega), if_neg hbig, hsp]
   ·refine Ev.step (f := fun k => edit_clocks_normal.l0 k (push ms ts out (lowV x)).reverse (sumD (pre ++ [x])) l (l.length : Int) ((pre ++ [x]).length : Int) ms ts) (fun k => ?_) hr
    simp only [edit_clocks_normal.l1]
    have hpl : wrap64 ((pre.length : Int) + 1) = ((pre ++ [x]).length : Int) := by rw [w64 (by omega) (by omega)]; simp
    rw [hpl]
    cases out with
    | nil =>
     rw [if_neg (show ¬ (([] : List Ed).reverse.length : Int) > 0 by simp), if_pos (show ([] : List Ed).reverse.length < 4398046511104 by simp)]
     rfl
    | cons a o =>
     have hla : (a :: o).reverse.length = o.length + 1 := by simp
     have hra : rd_T77 (a :: o).reverse (o.length : Int) = a := by
      rw [List.reverse_cons]
      have := rd_at o.reverse a []
      rw [List.length_reverse] at this
      exact this
     have hol : o.length + 1 ≤ pre.length := ho
     have hsa := wd_sum (l := o) (fun y hy => hw y (by simp [hy]))
     have hda : a.f0 ≤ 1099511627776 := by simp only [sumD] at hs; omega
     rw [hla, if_pos (by omega), w64 (by omega) (by omega), show ((o.length + 1 : Nat) : Int) - 1 = (o.length : Int) by omega, if_pos (by omega), if_pos (by omega), hra]
     have ha0 := (hw a (by simp)).d0
     have hov : edit_clocks_over.f ms ts a.f0 a.f1 a.f2 a.f3 (lowV x).f0 (lowV x).f1 (lowV x).f2 (lowV x).f3 = some (ovV ms ts a (lowV x)) := over_f hc (hw a (by simp)) hda hwl
     rw [hov]
     simp only [Option.bind_some, push]
     by_cases hb : ovV ms ts a (lowV x) = true
     ·rw [if_pos hb, if_pos hb]
      have hf : (lowV x).f0 = x.f0 := rfl
      simp only [sumD] at hs
      rw [w64 (by rw [hf]; omega) (by rw [hf]; omega)]
      congr 1
      rw [List.reverse_cons, List.reverse_cons, Int.toNat_natCast]
      have : o.length = o.reverse.length := by simp
      rw [this, List.set_append_right _ _ (Nat.le_refl _)]
      simp
     ·rw [if_neg hb, if_neg hb, if_pos (by omega)]
      congr 1
      simp
theorem normal_f {ms ts : Int} (hc : Ck ms ts) (l : List Ed) (hV : ∀ x ∈ l, Vd x) (hl : l.length ≤ 1000000000) : Ev (fun k => edit_clocks_normal.f k ms ts l) (nrmV ms ts l) :=
 normal_l hc l hV hl l [] [] rfl rfl (by simp [sumD]) (by simp) (by simp)
theorem nrmR_len (ms ts : Int) (l : List Ed) : ∀ out, (nrmR ms ts out l).length ≤ out.length + l.length := by
 induction l with
 | nil => intro out; simp [nrmR]
 | cons x t ih =>
  intro out
  have h := ih (push ms ts out (lowV x))
  have hn : nrmR ms ts out (x :: t) = nrmR ms ts (push ms ts out (lowV x)) t := rfl
  have h2 := push_len ms ts out (lowV x)
  rw [hn]
  simp only [List.length_cons]
  omega
theorem nrm_len (ms ts : Int) (l : List Ed) : (nrm ms ts l).length ≤ l.length := by
 have := nrmR_len ms ts l []
 unfold nrm
 simp only [List.length_reverse, List.length_nil] at this ⊢
 omega
def norV (ms ts : Int) (l : List Ed) : List Ed × Int := if chk l ms ts = 0 then (nrm ms ts l, 0) else ([], chk l ms ts)
theorem Normal_f (l : List Ed) (ms ts : Int) : Ev (fun k => edit_Normal.f k l ms ts) (norV ms ts l) := by
 unfold norV
 by_cases h0 : chk l ms ts = 0
 ·obtain ⟨hc, hl, hV, hs⟩ := chk_ok.1 h0
  rw [if_pos h0]
  have hr : nrmV ms ts l = (nrm ms ts l, 0) := by
   have := nrmR_len ms ts l []
   simp only [List.length_nil] at this
   unfold nrmV fin nrm
   rw [if_neg (by omega), if_neg (by omega)]
  have h1 := check_f l ms ts
  rw [h0] at h1
  refine Ev.congr (fun k => rfl) (Ev.bind h1 ?_)
  refine Ev.congr (fun k => if_pos rfl) (Ev.bind (normal_f hc l hV (by omega)) ?_)
  rw [hr]
  exact Ev.now _
 ·rw [if_neg h0]
  refine Ev.congr (fun k => rfl) (Ev.bind (check_f l ms ts) ?_)
  refine Ev.congr (fun k => if_neg h0) (Ev.now _)
end Go.Proofs.Ytpbhepdgamoiaaa.Pf
namespace Go.Proofs.Ytpbhepdgamoiaaa.Pg
open Go.RowKit Go Go.Proofs.YtpbhepdgamoiaaaW.PrintWords Go.Proofs.YtpbhepdgamoiaaaW.PrintLast Go.Proofs.YtpbhepdgamoiaaaW.PrintMore Go.Proofs.Ytpbhepdgamoiaaa.Mn Go.Proofs.Ytpbhepdgamoiaaa.Rf Go.Proofs.Ytpbhepdgamoiaaa.Er Go.Proofs.Ytpbhepdgamoiaaa.Ek Go.Proofs.Ytpbhepdgamoiaaa.E Go.Proofs.Ytpbhepdgamoiaaa.Pe Go.Proofs.Ytpbhepdgamoiaaa.Pf
set_option linter.unusedVariables false
set_option linter.unusedSimpArgs false
instance : DecidableEq Ed := fun x y =>
 decidable_of_iff (x.f0 = y.f0 ∧ x.f1 = y.f1 ∧ x.f2 = y.f2 ∧ x.f3 = y.f3) ⟨fun h => by cases x; cases y; simp_all, fun h => by subst h; simp⟩
theorem ed_ne (x y : Ed) : (!x.f0 == y.f0 || (!x.f1 == y.f1 || (!x.f2 == y.f2 || !x.f3 == y.f3))) = !decide (x = y) := by
 cases x; cases y
 rw [Bool.eq_iff_iff]
 simp
def exL : List Ed := [⟨10, 0, 1, 1⟩, ⟨5, 10, 1, 1⟩]
theorem nrm_ex : nrm 10 10 exL = [⟨15, 0, 1, 1⟩] := by decide +kernel
theorem chk_ex : chk exL 10 10 = 0 := by decide +kernel
theorem awake_f : Ev (fun k => dioramalaw10_awake.f k) true := by
 have h := Normal_f exL 10 10
 unfold norV at h
 rw [if_pos chk_ex, nrm_ex] at h
 refine Ev.congr (fun k => rfl) (Ev.bind h ?_)
 refine Ev.congr (f := fun _ => some true) (fun k => ?_) (Ev.now _)
 rfl
theorem many_f (l : List Ed) : dioramalaw10_many.f l = some (decide (60 < l.length)) := by
 unfold dioramalaw10_many.f
 congr 1
 by_cases h : 60 < l.length
 ·rw [decide_eq_true h, decide_eq_true (by omega)]
 ·rw [decide_eq_false h, decide_eq_false (by omega)]
end Go.Proofs.Ytpbhepdgamoiaaa.Pg
namespace Go.Proofs.Ytpbhepdgamoiaaa.Ph
open Go.RowKit Go Go.Proofs.YtpbhepdgamoiaaaW.PrintWords Go.Proofs.YtpbhepdgamoiaaaW.PrintLast Go.Proofs.YtpbhepdgamoiaaaW.PrintMore Go.Proofs.Ytpbhepdgamoiaaa.Mn Go.Proofs.Ytpbhepdgamoiaaa.Rf Go.Proofs.Ytpbhepdgamoiaaa.Er Go.Proofs.Ytpbhepdgamoiaaa.Ek Go.Proofs.Ytpbhepdgamoiaaa.E Go.Proofs.Ytpbhepdgamoiaaa.Pe Go.Proofs.Ytpbhepdgamoiaaa.Pf Go.Proofs.Ytpbhepdgamoiaaa.Pg
set_option linter.unusedVariables false
set_option linter.unusedSimpArgs false
theorem equal_l (a b : List Ed) (hl : a.length ≤ 1000000) (ra : List Ed) : ∀ (pre rb : List Ed), a = pre ++ ra → b = pre ++ rb → ra.length = rb.length → Ev (fun k => api_Edit_90.l0 k a b (a.length : Int) (pre.length : Int)) (decide (ra = rb)) := by
 induction ra with
 | nil =>
  intro pre rb ha hb hr
  have : rb = [] := by cases rb with | nil => rfl | cons _ _ => simp at hr
  subst this
  refine Ev.step (f := fun _ => some (decide (([] : List Ed) = []))) (fun k => ?_) (Ev.now _)
  simp only [api_Edit_90.l0]
  rw [if_neg (by rw [ha]; simp)]
  simp
 | cons x t ih =>
  intro pre rb ha hb hr
  cases rb with
  | nil => simp at hr
  | cons y u =>
   have hx : rd_T77 a (pre.length : Int) = x := by rw [ha]; exact rd_at pre x t
   have hy : rd_T77 b (pre.length : Int) = y := by rw [hb]; exact rd_at pre y u
   have hla : a.length = pre.length + (t.length + 1) := by rw [ha]; simp
   have hlb : b.length = pre.length + (u.length + 1) := by rw [hb]; simp
   simp only [List.length_cons, Nat.add_right_cancel_iff] at hr
   by_cases hxy : x = y
   ·subst hxy
    have hi := ih (pre ++ [x]) u (by rw [ha]; simp) (by rw [hb]; simp) hr
    have e : decide (x :: t = x :: u) = decide (t = u) := by simp
    rw [e]
    refine Ev.step (fun k => ?_) hi
    simp only [api_Edit_90.l0]
    rw [if_pos (by omega), if_pos (by omega), if_pos (by omega), if_pos (by omega), hx, hy, ed_ne, if_neg (by simp), w64 (by omega) (by omega)]
    simp
   ·rw [decide_eq_false (by intro h; injection h with h _; exact hxy h)]
    refine Ev.step (f := fun _ => some false) (fun k => ?_) (Ev.now _)
    simp only [api_Edit_90.l0]
    rw [if_pos (by omega), if_pos (by omega), if_pos (by omega), if_pos (by omega), hx, hy, ed_ne, if_pos (by simpa using hxy)]
theorem equal_f (a b : List Ed) (hl : a.length ≤ 1000000) : Ev (fun k => api_Edit_90.f k a b) (decide (a = b)) := by
 by_cases h : a.length = b.length
 ·refine Ev.congr (fun k => ?_) (equal_l a b hl a [] b rfl rfl h)
  unfold api_Edit_90.f
  first | (rw [if_pos (by omega)]; rfl) | (rw [if_neg (by omega)]; rfl)
 ·rw [decide_eq_false (fun e => h (by rw [e]))]
  refine Ev.congr (fun k => ?_) (Ev.now _)
  unfold api_Edit_90.f
  first | (rw [if_neg (by omega)]; done) | (rw [if_pos (by omega)]; done) | (rw [if_neg (by omega)]; rfl)
def aliV (ms ts : Int) (a b : List Ed) : Bool × Int := if chk a ms ts = 0 then (if chk b ms ts = 0 then (decide (nrm ms ts a = nrm ms ts b), 0) else (false, chk b ms ts)) else (false, chk a ms ts)
theorem Alike_f (a b : List Ed) (ms ts : Int) : Ev (fun k => edit_Alike.f k a b ms ts) (aliV ms ts a b) := by
 unfold aliV
 have ha := Normal_f a ms ts
 have hb := Normal_f b ms ts
 unfold norV at ha hb
 by_cases h0 : chk a ms ts = 0
 ·rw [if_pos h0] at ha ⊢
  refine Ev.congr (fun k => rfl) (Ev.bind ha ?_)
  refine Ev.congr (fun k => if_pos rfl) ?_
  by_cases h1 : chk b ms ts = 0
  ·rw [if_pos h1] at hb ⊢
   refine Ev.bind hb ?_
   refine Ev.congr (fun k => if_pos rfl) ?_
   refine Ev.bind (equal_f _ _ ?_) (Ev.now _)
   have h2 := nrm_len ms ts a
   have h3 := (chk_ok.1 h0).2.1
   show (nrm ms ts a).length ≤ 1000000
   omega
  ·rw [if_neg h1] at hb ⊢
   refine Ev.bind hb ?_
   exact Ev.congr (fun k => if_neg h1) (Ev.now _)
 ·rw [if_neg h0] at ha ⊢
  refine Ev.congr (fun k => rfl) (Ev.bind ha ?_)
  exact Ev.congr (fun k => if_neg h0) (Ev.now _)
end Go.Proofs.Ytpbhepdgamoiaaa.Ph

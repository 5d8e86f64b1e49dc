/-
  EditChecks: for every input the law returns true. The reference's natural numbers, in digits of nine decimal places: what its printed functions compute. The reference's natural numbers: sums, differences, products, quotients, small ones. Lists of edits as plain values: the first error, the normal list, the length; and that the code tells them. The normal list of a list of edits as a plain value, and that the code tells it. The reference's rational numbers as rational numbers. Whether lists are equal, alike; the first example of the chapter. The reference's normal list is the same. What the reference tells of a list: its normal list, its first error, its length. The reference's first error and length; lists compared. Two lists of edits with their errors, compared. EditChecks: the first error of a list, its length and its normal list are as the reference says. EditChecks: for every input the law returns true.
-/
import Derived.Test.YtpbhepdgamoiaaaQREditChecksa
import Derived.Test.YtpbhepdgamoiaaaQREditChecksb
import Derived.Test.YtpbhepdgamoiaaaQREditChecksc
import Derived.Test.YtpbhepdgamoiaaaRows
import Derived.WalkKit
import Derived.ProofKit
import Derived.OpenShut
import Derived.ChangeOld
import Derived.Below
import Derived.SizedLaws
import Derived.Carry
namespace Go.Proofs.Ytpbhepdgamoiaaa.E
open Go.Proofs.Ytpbhepdgamoiaaa.Z Go.RowKit Go.Proofs.YtpbhepdgamoiaaaW.PrintWords Go.Proofs.YtpbhepdgamoiaaaW.PrintLast Go.Proofs.YtpbhepdgamoiaaaW.PrintMore
attribute [local go_sem] max2_int min2_int max_two min_two max_three min_three max_four min_four
set_option linter.unusedVariables false
set_option linter.unusedSimpArgs false
mutual
def dioramaref10_Length.l0 : Nat → List (S77) → Int → Bool → List Int → List Int → Option (Int)
  | 0, _, _, _, _, _ => none
  | k + 1, x0, x4, x405000, x405001, x405002 => if x4 < (x0.length : Int) then (if 0 ≤ x4 then (if ((rd_T77 x0 x4).f0) < 0 then ((dioramaref10_ratio.f k (-1) 1).bind fun bt406 => ((dioramaref10_plus.f k x405000 x405001 x405002 bt406.1 bt406.2.1 bt406.2.2).bind fun bt413 => ((dioramaref10_ratio.f k (wrap64 (((rd_T77 x0 x4).f0) + 1)) 1).bind fun bt420 => ((dioramaref10_plus.f k bt413.1 bt413.2.1 bt413.2.2 bt420.1 bt420.2.1 bt420.2.2).bind fun bt427 => (dioramaref10_Length.l0 k x0 (wrap64 (x4 + 1)) bt427.1 bt427.2.1 bt427.2.2))))) else ((dioramaref10_ratio.f k ((rd_T77 x0 x4).f0) 1).bind fun bt434 => ((dioramaref10_plus.f k x405000 x405001 x405002 bt434.1 bt434.2.1 bt434.2.2).bind fun bt441 => (dioramaref10_Length.l0 k x0 (wrap64 (x4 + 1)) bt441.1 bt441.2.1 bt441.2.2)))) else (none)) else (if x405000 = true then (dioramaref10_Length.j1 k (decide ((x405001.length : Int) > 0)) x405000 x405001 x405002) else (dioramaref10_Length.j1 k false x405000 x405001 x405002))
def dioramaref10_Length.j1 : Nat → Bool → Bool → List Int → List Int → Option (Int)
  | 0, _, _, _, _ => none
  | k + 1, x38, x405000, x405001, x405002 => if x38 = true then (some 0) else ((dioramaref02_Small.f k x405001 1099511627776).bind fun bt448 => (if bt448.2 = true then (some bt448.1) else (some 0)))
end
def dioramaref10_Length.f (k : Nat) (l0 : List (S77)) : Option (Int) := (dioramaref10_ratio.f k 0 1).bind fun bt397 => (dioramaref10_Length.l0 k l0 0 bt397.1 bt397.2.1 bt397.2.2)
theorem dioramaref10_Length.mono_l : ∀ k, (∀ y0 y1 y2 y3 y4, LeO (dioramaref10_Length.l0 k y0 y1 y2 y3 y4) (dioramaref10_Length.l0 (k + 1) y0 y1 y2 y3 y4)) ∧ (∀ y0 y1 y2 y3, LeO (dioramaref10_Length.j1 k y0 y1 y2 y3) (dioramaref10_Length.j1 (k + 1) y0 y1 y2 y3))
  | 0 => ⟨fun _ _ _ _ _ r h => by simp [dioramaref10_Length.l0] at h, fun _ _ _ _ r h => by simp [dioramaref10_Length.j1] at h⟩
  | k + 1 => by
    obtain ⟨ih0, ih1⟩ := dioramaref10_Length.mono_l k
    refine ⟨?_, ?_⟩
    · intro y0 y1 y2 y3 y4
      unfold dioramaref10_Length.l0
      repeat' first
      | (with_reducible exact ih0 _ _ _ _ _)
      | (with_reducible exact ih1 _ _ _ _)
      | (with_reducible exact dioramaref02_Small.mono _ _ _)
      | (with_reducible exact dioramaref10_plus.mono _ _ _ _ _ _ _)
      | (with_reducible exact dioramaref10_ratio.mono _ _ _)
      | (with_reducible exact LeO.refl _)
      | (with_reducible exact LeO.none _)
      | (with_reducible refine LeO.ite ?_ ?_)
      | (with_reducible refine LeO.bind ?_ (fun _ => ?_))
      | exact ih0 _ _ _ _ _
      | exact ih1 _ _ _ _
      | exact dioramaref02_Small.mono _ _ _
      | exact dioramaref10_plus.mono _ _ _ _ _ _ _
      | exact dioramaref10_ratio.mono _ _ _
      | exact LeO.none _
      | refine LeO.ite ?_ ?_
      | refine LeO.bind ?_ (fun _ => ?_)
    · intro y0 y1 y2 y3
      unfold dioramaref10_Length.j1
      repeat' first
      | (with_reducible exact ih0 _ _ _ _ _)
      | (with_reducible exact ih1 _ _ _ _)
      | (with_reducible exact dioramaref02_Small.mono _ _ _)
      | (with_reducible exact dioramaref10_plus.mono _ _ _ _ _ _ _)
      | (with_reducible exact dioramaref10_ratio.mono _ _ _)
      | (with_reducible exact LeO.refl _)
      | (with_reducible exact LeO.none _)
      | (with_reducible refine LeO.ite ?_ ?_)
      | (with_reducible refine LeO.bind ?_ (fun _ => ?_))
      | exact ih0 _ _ _ _ _
      | exact ih1 _ _ _ _
      | exact dioramaref02_Small.mono _ _ _
      | exact dioramaref10_plus.mono _ _ _ _ _ _ _
      | exact dioramaref10_ratio.mono _ _ _
      | exact LeO.none _
      | refine LeO.ite ?_ ?_
      | refine LeO.bind ?_ (fun _ => ?_)
theorem dioramaref10_Length.mono : ∀ a0 k, LeO (dioramaref10_Length.f k a0) (dioramaref10_Length.f (k + 1) a0) := by
  intro a0 k
  obtain ⟨ih0, ih1⟩ := dioramaref10_Length.mono_l k
  unfold dioramaref10_Length.f
  repeat' first
      | (with_reducible exact ih0 _ _ _ _ _)
      | (with_reducible exact ih1 _ _ _ _)
      | (with_reducible exact dioramaref02_Small.mono _ _ _)
      | (with_reducible exact dioramaref10_plus.mono _ _ _ _ _ _ _)
      | (with_reducible exact dioramaref10_ratio.mono _ _ _)
      | (with_reducible exact LeO.refl _)
      | (with_reducible exact LeO.none _)
      | (with_reducible refine LeO.ite ?_ ?_)
      | (with_reducible refine LeO.bind ?_ (fun _ => ?_))
      | exact ih0 _ _ _ _ _
      | exact ih1 _ _ _ _
      | exact dioramaref02_Small.mono _ _ _
      | exact dioramaref10_plus.mono _ _ _ _ _ _ _
      | exact dioramaref10_ratio.mono _ _ _
      | exact LeO.none _
      | refine LeO.ite ?_ ?_
      | refine LeO.bind ?_ (fun _ => ?_)
set_option maxHeartbeats 8000000 in
set_option maxRecDepth 100000 in
theorem dioramaref10_Length.calls (k : Nat) (A0 : Option Addr) (c0 : Nat) (l0 : List (S77)) (r : Int) (w : World) (hr0 : Kd.C k77 w A0 l0.length l0) (hc0 : l0.length ≤ c0) (h : dioramaref10_Length.f k l0 = some r) :
  Calls Try.prog 27 #[.slice A0 l0.length c0] w fun e w' => e = .returned (.int .i64 r) ∧ Below w.heap.size w w' := by
 have hu95 := Try.underlying95; have HR0 := Aside0.mk hr0; have HC0 := Aside0.mk hc0; clear hr0 hc0; have HB := Aside0.mk (Below.refl w.heap.size w); have H : ((dioramaref10_ratio.f k 0 1).bind fun bt397 => (dioramaref10_Length.l0 k l0 0 bt397.1 bt397.2.1 bt397.2.2)) = some r := h
 clear h; obtain ⟨⟨t397, t398, t401⟩, A2, H⟩ := ob H
 (try dsimp only at H)
 have H' := Aside0.mk H; clear H
 go_enter Try.func27, Try.ntmps27
 go_wp2_with (first | ((with_reducible refine gate_callee (f := 68) rfl ?_); refine zC 8 Try.func68 #[.int .i64 0, .int .i64 1] ?_; (with_reducible refine (dioramaref10_ratio.calls k 0 1 t397 t398 t401 _ A2.out).mono ?_); rintro e w3 ⟨v399, v402, rfl, ho0, ho1, hb⟩; refine ⟨_, rfl, ?_⟩; have HO400 := Aside0.mk (Kd.R_lower ho0 sz); have HO403 := Aside0.mk (Kd.R_lower ho1 sz); replace HB := bp hb; clear hb ho0 ho1) | ((with_reducible refine gate_dst (N := 3) rfl ?_); refine zB 3 95 #[.bool false, .slice none 0 0, .slice none 0 0] ?_; intro gb404 hg w4 hbox hb; replace HO400 := Aside0.mk (Kd.R_below (rz HO400) hb); replace HO403 := Aside0.mk (Kd.R_below (rz HO403) hb); have BK404 := Aside0.mk hbox; have GW404 := gz hg; have GE404 := gz hg; replace HB := bp hb; clear hb hbox hg; obtain ⟨hcz5_0, hcz5_1, hcz5_2, hfz5_0, hfz5_1, hfz5_2⟩ := xc3 BK404; obtain ⟨Ao6, co6, eo6⟩ := Kd.R_slice HO400.out; subst eo6; obtain ⟨Ao7, co7, eo7⟩ := Kd.R_slice HO403.out; subst eo7))
 go_loopg [4] k (fun kq v4 w' => ∃ (x4_1 : Int) (x405000_1 : Bool) (x405001_1 : List Int) (x405002_1 : List Int) (u405001 : Value) (u405002 : Value), v4 = .int .i64 x4_1 ∧ Aside0 (dioramaref10_Length.l0 kq l0 x4_1 x405000_1 x405001_1 x405002_1 = some r) ∧ Aside0 (kq ≤ k) ∧ Aside0 (Kd.R (Kd.int .i64) 3 w' w.heap.size (fun k_ => some k_ ≠ (u405002 : Value).ownBlock) u405001 x405001_1) ∧ Aside0 (Kd.R (Kd.int .i64) 3 w' w.heap.size (fun k_ => some k_ ≠ (u405001 : Value).ownBlock) u405002 x405002_1) ∧ Aside0 (w'.heap[gb404]? = some (.cells #[.bool x405000_1, u405001, u405002] 95 (0, 0))) ∧ Aside0 (Below w.heap.size w w'))
 case atStart => exact ⟨(0), (t397), (t398), (t401), (.slice Ao6 t398.length co6), (.slice Ao7 t401.length co7), jz, H', ⟨Nat.le_refl _⟩, ⟨by (with_reducible repeat (first | apply Kd.R_alloc | apply Kd.R_drewN | apply Kd.R_drew)); exact Kd.R_mono (Kd.R_far (p := ⟨gb404, 2, none⟩) (Kd.R_far (p := ⟨gb404, 1, none⟩) (Kd.R_far (p := ⟨gb404, 0, none⟩) (Kd.R_types HO400.out BK404.out (by decide)) (fun _ hk => hk.2) (.bool t397)) (fun _ hk => hk.2) (.slice Ao6 t398.length co6)) (fun _ hk => hk.2) (.slice Ao7 t401.length co7)) (fun _ hk => hk.1)⟩, ⟨by (with_reducible repeat (first | apply Kd.R_alloc | apply Kd.R_drewN | apply Kd.R_drew)); exact Kd.R_mono (Kd.R_far (p := ⟨gb404, 2, none⟩) (Kd.R_far (p := ⟨gb404, 1, none⟩) (Kd.R_far (p := ⟨gb404, 0, none⟩) (Kd.R_types HO403.out BK404.out (by decide)) (fun _ hk => hk.2) (.bool t397)) (fun _ hk => hk.2) (.slice Ao6 t398.length co6)) (fun _ hk => hk.2) (.slice Ao7 t401.length co7)) (fun _ hk => hk.1)⟩, ⟨by (with_reducible repeat (first | refine blk_drewN ?_ _ | refine blk_drew ?_ | refine blk_alloc ?_ _)); refine blk_put (cs := #[.bool t397, .slice Ao6 t398.length co6, .slice none 0 0]) ?_ 2 _ rfl; (with_reducible repeat (first | refine blk_drewN ?_ _ | refine blk_drew ?_ | refine blk_alloc ?_ _)); refine blk_put (cs := #[.bool t397, .slice none 0 0, .slice none 0 0]) ?_ 1 _ rfl; (with_reducible repeat (first | refine blk_drewN ?_ _ | refine blk_drew ?_ | refine blk_alloc ?_ _)); refine blk_put (cs := #[.bool false, .slice none 0 0, .slice none 0 0]) ?_ 0 _ rfl; (with_reducible repeat (first | refine blk_drewN ?_ _ | refine blk_drew ?_ | refine blk_alloc ?_ _)); exact BK404.out⟩, ⟨bz⟩⟩
 case round =>
  clear H'
  try clear c2
  try clear p2
  try clear c6
  try clear hcz5_0
  try clear hcz5_1
  try clear hcz5_2
  try clear hfz5_0
  try clear hfz5_1
  try clear hfz5_2
  obtain ⟨x4_1, x405000_1, x405001_1, x405002_1, u405001, u405002, rfl, HA, HK1, HO_405001, HO_405002, BK404, HB⟩ := hrel
  cases gk with
  | zero => exact absurd HA.out (by simp [dioramaref10_Length.l0])
  | succ k1 =>
   have H := HA.out; clear HA; simp only [dioramaref10_Length.l0] at H
   by_cases c8 : x4_1 < (l0.length : Int)
   ·rw [if_pos c8] at H; have c8b0 : decide (x4_1 < (l0.length : Int)) = true := decide_eq_true c8; clear c8
    by_cases c9 : 0 ≤ x4_1
    ·rw [if_pos c9] at H; have c9b0 : decide (0 ≤ x4_1) = true := decide_eq_true c9; clear c9
     by_cases c10 : ((rd_T77 l0 x4_1).f0) < 0
     ·rw [if_pos c10] at H; have c10b0 : decide (((rd_T77 l0 x4_1).f0) < 0) = true := decide_eq_true c10; clear c10; obtain ⟨⟨t406, t407, t410⟩, A11, H⟩ := ob H
      (try dsimp only at H)
      obtain ⟨⟨t413, t414, t417⟩, A12, H⟩ := ob H
      (try dsimp only at H)
      obtain ⟨⟨t420, t421, t424⟩, A13, H⟩ := ob H
      (try dsimp only at H)
      obtain ⟨⟨t427, t428, t431⟩, A14, H⟩ := ob H
      (try dsimp only at H)
      have H' := Aside0.mk H; clear H; have p405 : 0 ≤ (x4_1 : Int) := od; have q405 : x4_1 < (l0.length : Int) := od; obtain ⟨ad405, e405, hx405_0, hx405_1, hx405_2, hx405_3⟩ := at_T77 HR0.out x4_1 p405 q405
      cases e405
      replace hx405_0 := cl HB hx405_0; replace hx405_1 := cl HB hx405_1; replace hx405_2 := cl HB hx405_2; replace hx405_3 := cl HB hx405_3; replace p405 := eq_true p405; replace q405 := eq_true q405
      try go_wp2
      replace HO_405001 := Aside0.mk (Kd.R_drew HO_405001.out); replace HO_405002 := Aside0.mk (Kd.R_drew HO_405002.out); replace BK404 := Aside0.mk (blk_drew BK404.out); replace HB := Aside0.mk (below_drew1 HB.out); refine start_ (n := 4) (S := fun w' => w'.cell? ⟨gb404, 0, none⟩ = some (.bool x405000_1) ∧ w'.cell? ⟨gb404, 1, none⟩ = some (u405001) ∧ w'.cell? ⟨gb404, 2, none⟩ = some (u405002)) (ds := [3]) (bs 4 0) (by kernel_rfl) rfl rfl ⟨ct BK404 0, ct BK404 1, ct BK404 2⟩ (fun hHeld => ?_)
      generalize wr.drew = w15 at HO_405001 HO_405002 BK404 HB hHeld ⊢; refine take_ (i := 0) (N := some 24) (v := ?_) (a' := ?_) (bs 4 1) rfl rfl (by kernel_rfl) (fun _ _ _ h => h) (Or.inl ⟨by rfl, ?_⟩) hHeld ?_ ?_
      rotate_left
      ·rintro w' ⟨s0, s1, s2⟩
       go_simp
       with_reducible rfl
      rotate_left
      ·simp only [Act.put, List.setIfInBounds_toArray, List.set_cons_zero, List.set_cons_succ, i64_w, i32_w]
       rfl
      refine one_ (i := 1) (N := some 25) (bs 4 3) rfl rfl (by kernel_rfl) (by decide) (fun K hK => ?_); refine zG Try.func68 #[.int .i64 (-1), .int .i64 1] ?_
      with_reducible refine (dioramaref10_ratio.calls k1 (-1) 1 t406 t407 t410 _ A11.out).mono ?_
      rintro e w16 ⟨v408, v411, rfl, ho0, ho1, hb⟩; refine ⟨_, rfl, ?_⟩; have HO409 := Aside0.mk (Kd.R_lower (Kd.R_new' (Kd.R_new' ho0 (Kd.R_lt (rz HO_405001))) (Kd.R_lt (rz HO_405002))) sz); have HO412 := Aside0.mk (Kd.R_lower (Kd.R_new' (Kd.R_new' ho1 (Kd.R_lt (rz HO_405001))) (Kd.R_lt (rz HO_405002))) sz); replace HO_405001 := Aside0.mk (Kd.R_mono (Kd.R_told (Kd.R_told (Kd.R_old (rz HO_405001) hb) (Kd.R_base ho0)) (Kd.R_base ho1)) (fun _ h_ => h_.1)); replace HO_405002 := Aside0.mk (Kd.R_mono (Kd.R_told (Kd.R_told (Kd.R_old (rz HO_405002) hb) (Kd.R_base ho0)) (Kd.R_base ho1)) (fun _ h_ => h_.1)); replace BK404 := kb BK404 hb; replace HB := bp hb; clear hb ho0 ho1; obtain ⟨Ao17, co17, eo17⟩ := Kd.R_slice HO_405001.out
      (first | subst eo17 | (injection eo17 with f1_ f2_ f3_; have f4_ := f1_.symm; have f5_ := f3_.symm; clear f1_ f2_ f3_; subst f4_; subst f5_))
      obtain ⟨Ao18, co18, eo18⟩ := Kd.R_slice HO_405002.out
      (first | subst eo18 | (injection eo18 with f1_ f2_ f3_; have f4_ := f1_.symm; have f5_ := f3_.symm; clear f1_ f2_ f3_; subst f4_; subst f5_))
      obtain ⟨Ao19, co19, eo19⟩ := Kd.R_slice HO409.out
      (first | subst eo19 | (injection eo19 with f1_ f2_ f3_; have f4_ := f1_.symm; have f5_ := f3_.symm; clear f1_ f2_ f3_; subst f4_; subst f5_))
      obtain ⟨Ao20, co20, eo20⟩ := Kd.R_slice HO412.out
      (first | subst eo20 | (injection eo20 with f1_ f2_ f3_; have f4_ := f1_.symm; have f5_ := f3_.symm; clear f1_ f2_ f3_; subst f4_; subst f5_))
      refine hK.out _ _ ⟨ct BK404 0, ct BK404 1, ct BK404 2⟩ (fun hHeld => ?_); clear hK K; refine zM 25 ?_; refine one_ (i := 2) (N := some 26) (bs 4 7) rfl rfl (by kernel_rfl) (by decide) (fun K hK => ?_); refine zG Try.func69 #[.agg #[.bool x405000_1, .slice Ao17 x405001_1.length co17, .slice Ao18 x405002_1.length co18], .agg #[.bool t406, .slice Ao19 t407.length co19, .slice Ao20 t410.length co20]] ?_
      with_reducible refine (dioramaref10_plus.calls k1 x405000_1 _ _ x405001_1 _ _ x405002_1 t406 _ _ t407 _ _ t410 t413 t414 t417 _ ?side1 ?side2 ?side3 ?side4 ?side5 ?side6 ?side7 ?side8 A12.out).mono ?_
      (case side1 => exact cr HO_405001)
      (case side2 => exact (Kd.R_reads' HO_405001.out).2.1)
      (case side3 => exact cr HO_405002)
      (case side4 => exact (Kd.R_reads' HO_405002.out).2.1)
      (case side5 => exact cr HO409)
      (case side6 => exact (Kd.R_reads' HO409.out).2.1)
      (case side7 => exact cr HO412)
      (case side8 => exact (Kd.R_reads' HO412.out).2.1)
      rintro e w21 ⟨v415, v418, rfl, ho0, ho1, hb⟩; refine ⟨_, rfl, ?_⟩; have HO416 := Aside0.mk (Kd.R_lower (Kd.R_new' (Kd.R_new' (Kd.R_new' (Kd.R_new' ho0 (Kd.R_lt (rz HO_405001))) (Kd.R_lt (rz HO_405002))) (Kd.R_lt (rz HO409))) (Kd.R_lt (rz HO412))) sz); have HO419 := Aside0.mk (Kd.R_lower (Kd.R_new' (Kd.R_new' (Kd.R_new' (Kd.R_new' ho1 (Kd.R_lt (rz HO_405001))) (Kd.R_lt (rz HO_405002))) (Kd.R_lt (rz HO409))) (Kd.R_lt (rz HO412))) sz); replace HO_405001 := Aside0.mk (Kd.R_mono (Kd.R_told (Kd.R_told (Kd.R_old (rz HO_405001) hb) (Kd.R_base ho0)) (Kd.R_base ho1)) (fun _ h_ => h_.1)); replace HO_405002 := Aside0.mk (Kd.R_mono (Kd.R_told (Kd.R_told (Kd.R_old (rz HO_405002) hb) (Kd.R_base ho0)) (Kd.R_base ho1)) (fun _ h_ => h_.1)); replace HO409 := Aside0.mk (Kd.R_mono (Kd.R_told (Kd.R_told (Kd.R_old (rz HO409) hb) (Kd.R_base ho0)) (Kd.R_base ho1)) (fun _ h_ => h_.1)); replace HO412 := Aside0.mk (Kd.R_mono (Kd.R_told (Kd.R_told (Kd.R_old (rz HO412) hb) (Kd.R_base ho0)) (Kd.R_base ho1)) (fun _ h_ => h_.1)); replace BK404 := kb BK404 hb; replace HB := bp hb; clear hb ho0 ho1; obtain ⟨Ao23, co23, eo23⟩ := Kd.R_slice HO416.out
      (first | subst eo23 | (injection eo23 with f1_ f2_ f3_; have f4_ := f1_.symm; have f5_ := f3_.symm; clear f1_ f2_ f3_; subst f4_; subst f5_))
      obtain ⟨Ao25, co25, eo25⟩ := Kd.R_slice HO419.out
      (first | subst eo25 | (injection eo25 with f1_ f2_ f3_; have f4_ := f1_.symm; have f5_ := f3_.symm; clear f1_ f2_ f3_; subst f4_; subst f5_))
      refine hK.out _ _ ⟨ct BK404 0, ct BK404 1, ct BK404 2⟩ (fun hHeld => ?_); clear hK K; refine zM 26 ?_; refine last_ (i := 3) (N := none) (bs 4 15) rfl rfl (by kernel_rfl) (by decide) (fun K hK => ?_); have hs22 : w21.cell? ⟨gb404, 0, none⟩ = some (.bool x405000_1) := ct BK404 0; have hfs22 := blk_frozen BK404.out 0; have hs24 : w21.cell? ⟨gb404, 1, none⟩ = some (.slice Ao17 x405001_1.length co17) := ct BK404 1; have hfs24 := blk_frozen BK404.out 1; have hs26 : w21.cell? ⟨gb404, 2, none⟩ = some (.slice Ao18 x405002_1.length co18) := ct BK404 2; have hfs26 := blk_frozen BK404.out 2; refine skip_ (w1 := ?_) (by rfl) rfl ?_ ?_
      rotate_left
      ·go_simp
       rfl
      refine hK.out _ _ ?_; clear hK K; refine done_ (by kernel_rfl) ?_
      try go_wp2
      have n0_ : Aside0 (Kd.R (Kd.int .i64) 3 (((w21.setCell ⟨gb404, 0, none⟩ (.bool t413)).setCell ⟨gb404, 1, none⟩ (.slice Ao23 t414.length co23)).setCell ⟨gb404, 2, none⟩ (.slice Ao25 t417.length co25)) w.heap.size (fun k_ => some k_ ≠ (.slice Ao18 x405002_1.length co18 : Value).ownBlock ∧ some k_ ≠ (.slice Ao19 t407.length co19 : Value).ownBlock ∧ some k_ ≠ (.slice Ao20 t410.length co20 : Value).ownBlock ∧ some k_ ≠ (.slice Ao23 t414.length co23 : Value).ownBlock ∧ some k_ ≠ (.slice Ao25 t417.length co25 : Value).ownBlock) (.slice Ao17 x405001_1.length co17) x405001_1) := ⟨by (with_reducible repeat (first | apply Kd.R_alloc | apply Kd.R_drewN | apply Kd.R_drew)); exact Kd.R_mono (Kd.R_far (p := ⟨gb404, 2, none⟩) (Kd.R_far (p := ⟨gb404, 1, none⟩) (Kd.R_far (p := ⟨gb404, 0, none⟩) (Kd.R_types HO_405001.out BK404.out (by decide)) (fun _ hk => hk.2) (.bool t413)) (fun _ hk => hk.2) (.slice Ao23 t414.length co23)) (fun _ hk => hk.2) (.slice Ao25 t417.length co25)) (fun _ hk => ⟨hk.1.1.1.1.1, ⟨hk.1.1.1.1.2, ⟨hk.1.1.1.2, ⟨hk.1.1.2, hk.1.2⟩⟩⟩⟩)⟩
      have n1_ : Aside0 (Kd.R (Kd.int .i64) 3 (((w21.setCell ⟨gb404, 0, none⟩ (.bool t413)).setCell ⟨gb404, 1, none⟩ (.slice Ao23 t414.length co23)).setCell ⟨gb404, 2, none⟩ (.slice Ao25 t417.length co25)) w.heap.size (fun k_ => some k_ ≠ (.slice Ao17 x405001_1.length co17 : Value).ownBlock ∧ some k_ ≠ (.slice Ao19 t407.length co19 : Value).ownBlock ∧ some k_ ≠ (.slice Ao20 t410.length co20 : Value).ownBlock ∧ some k_ ≠ (.slice Ao23 t414.length co23 : Value).ownBlock ∧ some k_ ≠ (.slice Ao25 t417.length co25 : Value).ownBlock) (.slice Ao18 x405002_1.length co18) x405002_1) := ⟨by (with_reducible repeat (first | apply Kd.R_alloc | apply Kd.R_drewN | apply Kd.R_drew)); exact Kd.R_mono (Kd.R_far (p := ⟨gb404, 2, none⟩) (Kd.R_far (p := ⟨gb404, 1, none⟩) (Kd.R_far (p := ⟨gb404, 0, none⟩) (Kd.R_types HO_405002.out BK404.out (by decide)) (fun _ hk => hk.2) (.bool t413)) (fun _ hk => hk.2) (.slice Ao23 t414.length co23)) (fun _ hk => hk.2) (.slice Ao25 t417.length co25)) (fun _ hk => ⟨hk.1.1.1.1.1, ⟨hk.1.1.1.1.2, ⟨hk.1.1.1.2, ⟨hk.1.1.2, hk.1.2⟩⟩⟩⟩)⟩
      have n2_ : Aside0 (Kd.R (Kd.int .i64) 3 (((w21.setCell ⟨gb404, 0, none⟩ (.bool t413)).setCell ⟨gb404, 1, none⟩ (.slice Ao23 t414.length co23)).setCell ⟨gb404, 2, none⟩ (.slice Ao25 t417.length co25)) w.heap.size (fun k_ => some k_ ≠ (.slice Ao17 x405001_1.length co17 : Value).ownBlock ∧ some k_ ≠ (.slice Ao18 x405002_1.length co18 : Value).ownBlock ∧ some k_ ≠ (.slice Ao20 t410.length co20 : Value).ownBlock ∧ some k_ ≠ (.slice Ao23 t414.length co23 : Value).ownBlock ∧ some k_ ≠ (.slice Ao25 t417.length co25 : Value).ownBlock) (.slice Ao19 t407.length co19) t407) := ⟨by (with_reducible repeat (first | apply Kd.R_alloc | apply Kd.R_drewN | apply Kd.R_drew)); exact Kd.R_mono (Kd.R_far (p := ⟨gb404, 2, none⟩) (Kd.R_far (p := ⟨gb404, 1, none⟩) (Kd.R_far (p := ⟨gb404, 0, none⟩) (Kd.R_types HO409.out BK404.out (by decide)) (fun _ hk => hk.2) (.bool t413)) (fun _ hk => hk.2) (.slice Ao23 t414.length co23)) (fun _ hk => hk.2) (.slice Ao25 t417.length co25)) (fun _ hk => ⟨hk.1.1.1.1.2, ⟨hk.1.1.1.2, ⟨hk.1.1.1.1.1, ⟨hk.1.1.2, hk.1.2⟩⟩⟩⟩)⟩
      have n3_ : Aside0 (Kd.R (Kd.int .i64) 3 (((w21.setCell ⟨gb404, 0, none⟩ (.bool t413)).setCell ⟨gb404, 1, none⟩ (.slice Ao23 t414.length co23)).setCell ⟨gb404, 2, none⟩ (.slice Ao25 t417.length co25)) w.heap.size (fun k_ => some k_ ≠ (.slice Ao17 x405001_1.length co17 : Value).ownBlock ∧ some k_ ≠ (.slice Ao18 x405002_1.length co18 : Value).ownBlock ∧ some k_ ≠ (.slice Ao19 t407.length co19 : Value).ownBlock ∧ some k_ ≠ (.slice Ao23 t414.length co23 : Value).ownBlock ∧ some k_ ≠ (.slice Ao25 t417.length co25 : Value).ownBlock) (.slice Ao20 t410.length co20) t410) := ⟨by (with_reducible repeat (first | apply Kd.R_alloc | apply Kd.R_drewN | apply Kd.R_drew)); exact Kd.R_mono (Kd.R_far (p := ⟨gb404, 2, none⟩) (Kd.R_far (p := ⟨gb404, 1, none⟩) (Kd.R_far (p := ⟨gb404, 0, none⟩) (Kd.R_types HO412.out BK404.out (by decide)) (fun _ hk => hk.2) (.bool t413)) (fun _ hk => hk.2) (.slice Ao23 t414.length co23)) (fun _ hk => hk.2) (.slice Ao25 t417.length co25)) (fun _ hk => ⟨hk.1.1.1.1.2, ⟨hk.1.1.1.2, ⟨hk.1.1.1.1.1, ⟨hk.1.1.2, hk.1.2⟩⟩⟩⟩)⟩
      have n4_ : Aside0 (Kd.R (Kd.int .i64) 3 (((w21.setCell ⟨gb404, 0, none⟩ (.bool t413)).setCell ⟨gb404, 1, none⟩ (.slice Ao23 t414.length co23)).setCell ⟨gb404, 2, none⟩ (.slice Ao25 t417.length co25)) w.heap.size (fun k_ => some k_ ≠ (.slice Ao17 x405001_1.length co17 : Value).ownBlock ∧ some k_ ≠ (.slice Ao18 x405002_1.length co18 : Value).ownBlock ∧ some k_ ≠ (.slice Ao19 t407.length co19 : Value).ownBlock ∧ some k_ ≠ (.slice Ao20 t410.length co20 : Value).ownBlock ∧ some k_ ≠ (.slice Ao25 t417.length co25 : Value).ownBlock) (.slice Ao23 t414.length co23) t414) := ⟨by (with_reducible repeat (first | apply Kd.R_alloc | apply Kd.R_drewN | apply Kd.R_drew)); exact Kd.R_mono (Kd.R_far (p := ⟨gb404, 2, none⟩) (Kd.R_far (p := ⟨gb404, 1, none⟩) (Kd.R_far (p := ⟨gb404, 0, none⟩) (Kd.R_types HO416.out BK404.out (by decide)) (fun _ hk => hk.2) (.bool t413)) (fun _ hk => hk.2) (.slice Ao23 t414.length co23)) (fun _ hk => hk.2) (.slice Ao25 t417.length co25)) (fun _ hk => ⟨hk.1.1.1.1.2, ⟨hk.1.1.1.2, ⟨hk.1.1.2, ⟨hk.1.2, hk.1.1.1.1.1⟩⟩⟩⟩)⟩
      have n5_ : Aside0 (Kd.R (Kd.int .i64) 3 (((w21.setCell ⟨gb404, 0, none⟩ (.bool t413)).setCell ⟨gb404, 1, none⟩ (.slice Ao23 t414.length co23)).setCell ⟨gb404, 2, none⟩ (.slice Ao25 t417.length co25)) w.heap.size (fun k_ => some k_ ≠ (.slice Ao17 x405001_1.length co17 : Value).ownBlock ∧ some k_ ≠ (.slice Ao18 x405002_1.length co18 : Value).ownBlock ∧ some k_ ≠ (.slice Ao19 t407.length co19 : Value).ownBlock ∧ some k_ ≠ (.slice Ao20 t410.length co20 : Value).ownBlock ∧ some k_ ≠ (.slice Ao23 t414.length co23 : Value).ownBlock) (.slice Ao25 t417.length co25) t417) := ⟨by (with_reducible repeat (first | apply Kd.R_alloc | apply Kd.R_drewN | apply Kd.R_drew)); exact Kd.R_mono (Kd.R_far (p := ⟨gb404, 2, none⟩) (Kd.R_far (p := ⟨gb404, 1, none⟩) (Kd.R_far (p := ⟨gb404, 0, none⟩) (Kd.R_types HO419.out BK404.out (by decide)) (fun _ hk => hk.2) (.bool t413)) (fun _ hk => hk.2) (.slice Ao23 t414.length co23)) (fun _ hk => hk.2) (.slice Ao25 t417.length co25)) (fun _ hk => ⟨hk.1.1.1.1.2, ⟨hk.1.1.1.2, ⟨hk.1.1.2, ⟨hk.1.2, hk.1.1.1.1.1⟩⟩⟩⟩)⟩
      have n6_ : Aside0 ((((w21.setCell ⟨gb404, 0, none⟩ (.bool t413)).setCell ⟨gb404, 1, none⟩ (.slice Ao23 t414.length co23)).setCell ⟨gb404, 2, none⟩ (.slice Ao25 t417.length co25)).heap[gb404]? = some (.cells #[.bool t413, .slice Ao23 t414.length co23, .slice Ao25 t417.length co25] 95 (0, 0))) := ⟨by (with_reducible repeat (first | refine blk_drewN ?_ _ | refine blk_drew ?_ | refine blk_alloc ?_ _)); refine blk_put (cs := #[.bool t413, .slice Ao23 t414.length co23, .slice Ao18 x405002_1.length co18]) ?_ 2 _ rfl; (with_reducible repeat (first | refine blk_drewN ?_ _ | refine blk_drew ?_ | refine blk_alloc ?_ _)); refine blk_put (cs := #[.bool t413, .slice Ao17 x405001_1.length co17, .slice Ao18 x405002_1.length co18]) ?_ 1 _ rfl; (with_reducible repeat (first | refine blk_drewN ?_ _ | refine blk_drew ?_ | refine blk_alloc ?_ _)); refine blk_put (cs := #[.bool x405000_1, .slice Ao17 x405001_1.length co17, .slice Ao18 x405002_1.length co18]) ?_ 0 _ rfl; (with_reducible repeat (first | refine blk_drewN ?_ _ | refine blk_drew ?_ | refine blk_alloc ?_ _)); exact BK404.out⟩; have n7_ : Aside0 (Below w.heap.size w (((w21.setCell ⟨gb404, 0, none⟩ (.bool t413)).setCell ⟨gb404, 1, none⟩ (.slice Ao23 t414.length co23)).setCell ⟨gb404, 2, none⟩ (.slice Ao25 t417.length co25))) := ⟨bz⟩
      (try clear HO_405001)
      (try clear HO_405002)
      (try clear HO409)
      (try clear HO412)
      (try clear HO416)
      (try clear HO419)
      (try clear BK404)
      (try clear HB)
      generalize (((w21.setCell ⟨gb404, 0, none⟩ (.bool t413)).setCell ⟨gb404, 1, none⟩ (.slice Ao23 t414.length co23)).setCell ⟨gb404, 2, none⟩ (.slice Ao25 t417.length co25)) = w27 at n0_ n1_ n2_ n3_ n4_ n5_ n6_ n7_ ⊢; have HO_405001 := n0_; have HO_405002 := n1_; have HO409 := n2_; have HO412 := n3_; have HO416 := n4_; have HO419 := n5_; have BK404 := n6_; have HB := n7_; clear n0_ n1_ n2_ n3_ n4_ n5_ n6_ n7_; replace HO_405001 := Aside0.mk (Kd.R_drew HO_405001.out); replace HO_405002 := Aside0.mk (Kd.R_drew HO_405002.out); replace HO409 := Aside0.mk (Kd.R_drew HO409.out); replace HO412 := Aside0.mk (Kd.R_drew HO412.out); replace HO416 := Aside0.mk (Kd.R_drew HO416.out); replace HO419 := Aside0.mk (Kd.R_drew HO419.out); replace BK404 := Aside0.mk (blk_drew BK404.out); replace HB := Aside0.mk (below_drew1 HB.out); refine start_ (n := 5) (S := fun w' => w'.cell? ⟨gb404, 0, none⟩ = some (.bool t413) ∧ w'.cell? ⟨gb404, 1, none⟩ = some (.slice Ao23 t414.length co23) ∧ w'.cell? ⟨gb404, 2, none⟩ = some (.slice Ao25 t417.length co25)) (ds := [4]) (bs 5 0) (by kernel_rfl) rfl rfl ⟨ct BK404 0, ct BK404 1, ct BK404 2⟩ (fun hHeld => ?_)
      generalize w27.drew = w28 at HO_405001 HO_405002 HO409 HO412 HO416 HO419 BK404 HB hHeld ⊢; refine pure_ (i := 1) (N := some 28) (v := ?_) (a' := ?_) (bs 5 2) rfl rfl (by kernel_rfl) (fun _ _ _ h => h) (Or.inl ⟨by rfl, ?_⟩) ?_ ?_
      rotate_left
      ·intro w'
       go_simp
       with_reducible rfl
      rotate_left
      ·simp only [Act.put, List.setIfInBounds_toArray, List.set_cons_zero, List.set_cons_succ, i64_w, i32_w]
       rfl
      refine take_ (i := 0) (N := some 27) (v := ?_) (a' := ?_) (bs 5 3) rfl rfl (by kernel_rfl) (fun _ _ _ h => h) (Or.inl ⟨by rfl, ?_⟩) hHeld ?_ ?_
      rotate_left
      ·rintro w' ⟨s0, s1, s2⟩
       go_simp
       with_reducible rfl
      rotate_left
      ·simp only [Act.put, List.setIfInBounds_toArray, List.set_cons_zero, List.set_cons_succ, i64_w, i32_w]
       rfl
      refine one_ (i := 2) (N := some 29) (bs 5 7) rfl rfl (by kernel_rfl) (by decide) (fun K hK => ?_); refine zG Try.func68 #[.int .i64 (wrap64 (((rd_T77 l0 x4_1).f0) + 1)), .int .i64 1] ?_
      with_reducible refine (dioramaref10_ratio.calls k1 (wrap64 (((rd_T77 l0 x4_1).f0) + 1)) 1 t420 t421 t424 _ A13.out).mono ?_
      rintro e w29 ⟨v422, v425, rfl, ho0, ho1, hb⟩; refine ⟨_, rfl, ?_⟩; have HO423 := Aside0.mk (Kd.R_lower (Kd.R_new' (Kd.R_new' (Kd.R_new' (Kd.R_new' (Kd.R_new' (Kd.R_new' ho0 (Kd.R_lt (rz HO_405001))) (Kd.R_lt (rz HO_405002))) (Kd.R_lt (rz HO409))) (Kd.R_lt (rz HO412))) (Kd.R_lt (rz HO416))) (Kd.R_lt (rz HO419))) sz); have HO426 := Aside0.mk (Kd.R_lower (Kd.R_new' (Kd.R_new' (Kd.R_new' (Kd.R_new' (Kd.R_new' (Kd.R_new' ho1 (Kd.R_lt (rz HO_405001))) (Kd.R_lt (rz HO_405002))) (Kd.R_lt (rz HO409))) (Kd.R_lt (rz HO412))) (Kd.R_lt (rz HO416))) (Kd.R_lt (rz HO419))) sz); replace HO_405001 := Aside0.mk (Kd.R_mono (Kd.R_told (Kd.R_told (Kd.R_old (rz HO_405001) hb) (Kd.R_base ho0)) (Kd.R_base ho1)) (fun _ h_ => h_.1)); replace HO_405002 := Aside0.mk (Kd.R_mono (Kd.R_told (Kd.R_told (Kd.R_old (rz HO_405002) hb) (Kd.R_base ho0)) (Kd.R_base ho1)) (fun _ h_ => h_.1)); replace HO409 := Aside0.mk (Kd.R_mono (Kd.R_told (Kd.R_told (Kd.R_old (rz HO409) hb) (Kd.R_base ho0)) (Kd.R_base ho1)) (fun _ h_ => h_.1)); replace HO412 := Aside0.mk (Kd.R_mono (Kd.R_told (Kd.R_told (Kd.R_old (rz HO412) hb) (Kd.R_base ho0)) (Kd.R_base ho1)) (fun _ h_ => h_.1)); replace HO416 := Aside0.mk (Kd.R_mono (Kd.R_told (Kd.R_told (Kd.R_old (rz HO416) hb) (Kd.R_base ho0)) (Kd.R_base ho1)) (fun _ h_ => h_.1)); replace HO419 := Aside0.mk (Kd.R_mono (Kd.R_told (Kd.R_told (Kd.R_old (rz HO419) hb) (Kd.R_base ho0)) (Kd.R_base ho1)) (fun _ h_ => h_.1)); replace BK404 := kb BK404 hb; replace HB := bp hb; clear hb ho0 ho1; obtain ⟨Ao30, co30, eo30⟩ := Kd.R_slice HO423.out
      (first | subst eo30 | (injection eo30 with f1_ f2_ f3_; have f4_ := f1_.symm; have f5_ := f3_.symm; clear f1_ f2_ f3_; subst f4_; subst f5_))
      obtain ⟨Ao31, co31, eo31⟩ := Kd.R_slice HO426.out
      (first | subst eo31 | (injection eo31 with f1_ f2_ f3_; have f4_ := f1_.symm; have f5_ := f3_.symm; clear f1_ f2_ f3_; subst f4_; subst f5_))
      refine hK.out _ _ ⟨ct BK404 0, ct BK404 1, ct BK404 2⟩ (fun hHeld => ?_); clear hK K; refine zM 29 ?_; refine one_ (i := 3) (N := some 30) (bs 5 15) rfl rfl (by kernel_rfl) (by decide) (fun K hK => ?_); refine zG Try.func69 #[.agg #[.bool t413, .slice Ao23 t414.length co23, .slice Ao25 t417.length co25], .agg #[.bool t420, .slice Ao30 t421.length co30, .slice Ao31 t424.length co31]] ?_
      with_reducible refine (dioramaref10_plus.calls k1 t413 _ _ t414 _ _ t417 t420 _ _ t421 _ _ t424 t427 t428 t431 _ ?side1 ?side2 ?side3 ?side4 ?side5 ?side6 ?side7 ?side8 A14.out).mono ?_
      (case side1 => exact cr HO416)
      (case side2 => exact (Kd.R_reads' HO416.out).2.1)
      (case side3 => exact cr HO419)
      (case side4 => exact (Kd.R_reads' HO419.out).2.1)
      (case side5 => exact cr HO423)
      (case side6 => exact (Kd.R_reads' HO423.out).2.1)
      (case side7 => exact cr HO426)
      (case side8 => exact (Kd.R_reads' HO426.out).2.1)
      rintro e w32 ⟨v429, v432, rfl, ho0, ho1, hb⟩; refine ⟨_, rfl, ?_⟩; have HO430 := Aside0.mk (Kd.R_lower (Kd.R_new' (Kd.R_new' (Kd.R_new' (Kd.R_new' (Kd.R_new' (Kd.R_new' (Kd.R_new' (Kd.R_new' ho0 (Kd.R_lt (rz HO_405001))) (Kd.R_lt (rz HO_405002))) (Kd.R_lt (rz HO409))) (Kd.R_lt (rz HO412))) (Kd.R_lt (rz HO416))) (Kd.R_lt (rz HO419))) (Kd.R_lt (rz HO423))) (Kd.R_lt (rz HO426))) sz); have HO433 := Aside0.mk (Kd.R_lower (Kd.R_new' (Kd.R_new' (Kd.R_new' (Kd.R_new' (Kd.R_new' (Kd.R_new' (Kd.R_new' (Kd.R_new' ho1 (Kd.R_lt (rz HO_405001))) (Kd.R_lt (rz HO_405002))) (Kd.R_lt (rz HO409))) (Kd.R_lt (rz HO412))) (Kd.R_lt (rz HO416))) (Kd.R_lt (rz HO419))) (Kd.R_lt (rz HO423))) (Kd.R_lt (rz HO426))) sz); replace HO_405001 := Aside0.mk (Kd.R_mono (Kd.R_told (Kd.R_told (Kd.R_old (rz HO_405001) hb) (Kd.R_base ho0)) (Kd.R_base ho1)) (fun _ h_ => h_.1)); replace HO_405002 := Aside0.mk (Kd.R_mono (Kd.R_told (Kd.R_told (Kd.R_old (rz HO_405002) hb) (Kd.R_base ho0)) (Kd.R_base ho1)) (fun _ h_ => h_.1)); replace HO409 := Aside0.mk (Kd.R_mono (Kd.R_told (Kd.R_told (Kd.R_old (rz HO409) hb) (Kd.R_base ho0)) (Kd.R_base ho1)) (fun _ h_ => h_.1)); replace HO412 := Aside0.mk (Kd.R_mono (Kd.R_told (Kd.R_told (Kd.R_old (rz HO412) hb) (Kd.R_base ho0)) (Kd.R_base ho1)) (fun _ h_ => h_.1)); replace HO416 := Aside0.mk (Kd.R_mono (Kd.R_told (Kd.R_told (Kd.R_old (rz HO416) hb) (Kd.R_base ho0)) (Kd.R_base ho1)) (fun _ h_ => h_.1)); replace HO419 := Aside0.mk (Kd.R_mono (Kd.R_told (Kd.R_told (Kd.R_old (rz HO419) hb) (Kd.R_base ho0)) (Kd.R_base ho1)) (fun _ h_ => h_.1)); replace HO423 := Aside0.mk (Kd.R_mono (Kd.R_told (Kd.R_told (Kd.R_old (rz HO423) hb) (Kd.R_base ho0)) (Kd.R_base ho1)) (fun _ h_ => h_.1)); replace HO426 := Aside0.mk (Kd.R_mono (Kd.R_told (Kd.R_told (Kd.R_old (rz HO426) hb) (Kd.R_base ho0)) (Kd.R_base ho1)) (fun _ h_ => h_.1)); replace BK404 := kb BK404 hb; replace HB := bp hb; clear hb ho0 ho1; obtain ⟨Ao34, co34, eo34⟩ := Kd.R_slice HO430.out
      (first | subst eo34 | (injection eo34 with f1_ f2_ f3_; have f4_ := f1_.symm; have f5_ := f3_.symm; clear f1_ f2_ f3_; subst f4_; subst f5_))
      obtain ⟨Ao36, co36, eo36⟩ := Kd.R_slice HO433.out
      (first | subst eo36 | (injection eo36 with f1_ f2_ f3_; have f4_ := f1_.symm; have f5_ := f3_.symm; clear f1_ f2_ f3_; subst f4_; subst f5_))
      refine hK.out _ _ ⟨ct BK404 0, ct BK404 1, ct BK404 2⟩ (fun hHeld => ?_); clear hK K; refine zM 30 ?_; refine last_ (i := 4) (N := none) (bs 5 31) rfl rfl (by kernel_rfl) (by decide) (fun K hK => ?_); have hs33 : w32.cell? ⟨gb404, 0, none⟩ = some (.bool t413) := ct BK404 0; have hfs33 := blk_frozen BK404.out 0; have hs35 : w32.cell? ⟨gb404, 1, none⟩ = some (.slice Ao23 t414.length co23) := ct BK404 1; have hfs35 := blk_frozen BK404.out 1; have hs37 : w32.cell? ⟨gb404, 2, none⟩ = some (.slice Ao25 t417.length co25) := ct BK404 2; have hfs37 := blk_frozen BK404.out 2; refine skip_ (w1 := ?_) (by rfl) rfl ?_ ?_
      rotate_left
      ·go_simp
       rfl
      refine hK.out _ _ ?_; clear hK K; refine done_ (by kernel_rfl) ?_
      try go_wp2
      go_roundg k1
      case measure => have := HK1.out; omega
      case rel => exact ⟨(wrap64 (x4_1 + 1)), (t427), (t428), (t431), (.slice Ao34 t428.length co34), (.slice Ao36 t431.length co36), jz, H', ⟨by have := HK1.out; omega⟩, ⟨by (with_reducible repeat (first | apply Kd.R_alloc | apply Kd.R_drewN | apply Kd.R_drew)); exact Kd.R_mono (Kd.R_far (p := ⟨gb404, 2, none⟩) (Kd.R_far (p := ⟨gb404, 1, none⟩) (Kd.R_far (p := ⟨gb404, 0, none⟩) (Kd.R_types HO430.out BK404.out (by decide)) (fun _ hk => hk.2) (.bool t427)) (fun _ hk => hk.2) (.slice Ao34 t428.length co34)) (fun _ hk => hk.2) (.slice Ao36 t431.length co36)) (fun _ hk => hk.1.1.1.1.1.1.1.1.1)⟩, ⟨by (with_reducible repeat (first | apply Kd.R_alloc | apply Kd.R_drewN | apply Kd.R_drew)); exact Kd.R_mono (Kd.R_far (p := ⟨gb404, 2, none⟩) (Kd.R_far (p := ⟨gb404, 1, none⟩) (Kd.R_far (p := ⟨gb404, 0, none⟩) (Kd.R_types HO433.out BK404.out (by decide)) (fun _ hk => hk.2) (.bool t427)) (fun _ hk => hk.2) (.slice Ao34 t428.length co34)) (fun _ hk => hk.2) (.slice Ao36 t431.length co36)) (fun _ hk => hk.1.1.1.1.1.1.1.1.1)⟩, ⟨by (with_reducible repeat (first | refine blk_drewN ?_ _ | refine blk_drew ?_ | refine blk_alloc ?_ _)); refine blk_put (cs := #[.bool t427, .slice Ao34 t428.length co34, .slice Ao25 t417.length co25]) ?_ 2 _ rfl; (with_reducible repeat (first | refine blk_drewN ?_ _ | refine blk_drew ?_ | refine blk_alloc ?_ _)); refine blk_put (cs := #[.bool t427, .slice Ao23 t414.length co23, .slice Ao25 t417.length co25]) ?_ 1 _ rfl; (with_reducible repeat (first | refine blk_drewN ?_ _ | refine blk_drew ?_ | refine blk_alloc ?_ _)); refine blk_put (cs := #[.bool t413, .slice Ao23 t414.length co23, .slice Ao25 t417.length co25]) ?_ 0 _ rfl; (with_reducible repeat (first | refine blk_drewN ?_ _ | refine blk_drew ?_ | refine blk_alloc ?_ _)); exact BK404.out⟩, ⟨bz⟩⟩
     ·rw [if_neg c10] at H; have c10b0 : decide (((rd_T77 l0 x4_1).f0) < 0) = false := decide_eq_false c10; clear c10; obtain ⟨⟨t434, t435, t438⟩, A38, H⟩ := ob H
      (try dsimp only at H)
      obtain ⟨⟨t441, t442, t445⟩, A39, H⟩ := ob H
      (try dsimp only at H)
      have H' := Aside0.mk H; clear H; have p405 : 0 ≤ (x4_1 : Int) := od; have q405 : x4_1 < (l0.length : Int) := od; obtain ⟨ad405, e405, hx405_0, hx405_1, hx405_2, hx405_3⟩ := at_T77 HR0.out x4_1 p405 q405
      cases e405
      replace hx405_0 := cl HB hx405_0; replace hx405_1 := cl HB hx405_1; replace hx405_2 := cl HB hx405_2; replace hx405_3 := cl HB hx405_3; replace p405 := eq_true p405; replace q405 := eq_true q405
      try go_wp2
      replace HO_405001 := Aside0.mk (Kd.R_drew HO_405001.out); replace HO_405002 := Aside0.mk (Kd.R_drew HO_405002.out); replace BK404 := Aside0.mk (blk_drew BK404.out); replace HB := Aside0.mk (below_drew1 HB.out); refine start_ (n := 5) (S := fun w' => w'.cell? ⟨gb404, 0, none⟩ = some (.bool x405000_1) ∧ w'.cell? ⟨gb404, 1, none⟩ = some (u405001) ∧ w'.cell? ⟨gb404, 2, none⟩ = some (u405002)) (ds := [4]) (bs 5 0) (by kernel_rfl) rfl rfl ⟨ct BK404 0, ct BK404 1, ct BK404 2⟩ (fun hHeld => ?_)
      generalize wr.drew = w40 at HO_405001 HO_405002 BK404 HB hHeld ⊢; refine pure_ (i := 1) (N := some 28) (v := ?_) (a' := ?_) (bs 5 2) rfl rfl (by kernel_rfl) (fun _ _ _ h => h) (Or.inl ⟨by rfl, ?_⟩) ?_ ?_
      rotate_left
      ·intro w'
       go_simp
       with_reducible rfl
      rotate_left
      ·simp only [Act.put, List.setIfInBounds_toArray, List.set_cons_zero, List.set_cons_succ, i64_w, i32_w]
       rfl
      refine take_ (i := 0) (N := some 27) (v := ?_) (a' := ?_) (bs 5 3) rfl rfl (by kernel_rfl) (fun _ _ _ h => h) (Or.inl ⟨by rfl, ?_⟩) hHeld ?_ ?_
      rotate_left
      ·rintro w' ⟨s0, s1, s2⟩
       go_simp
       with_reducible rfl
      rotate_left
      ·simp only [Act.put, List.setIfInBounds_toArray, List.set_cons_zero, List.set_cons_succ, i64_w, i32_w]
       rfl
      refine one_ (i := 2) (N := some 29) (bs 5 7) rfl rfl (by kernel_rfl) (by decide) (fun K hK => ?_); refine zG Try.func68 #[.int .i64 ((rd_T77 l0 x4_1).f0), .int .i64 1] ?_
      with_reducible refine (dioramaref10_ratio.calls k1 ((rd_T77 l0 x4_1).f0) 1 t434 t435 t438 _ A38.out).mono ?_
      rintro e w41 ⟨v436, v439, rfl, ho0, ho1, hb⟩; refine ⟨_, rfl, ?_⟩; have HO437 := Aside0.mk (Kd.R_lower (Kd.R_new' (Kd.R_new' ho0 (Kd.R_lt (rz HO_405001))) (Kd.R_lt (rz HO_405002))) sz); have HO440 := Aside0.mk (Kd.R_lower (Kd.R_new' (Kd.R_new' ho1 (Kd.R_lt (rz HO_405001))) (Kd.R_lt (rz HO_405002))) sz); replace HO_405001 := Aside0.mk (Kd.R_mono (Kd.R_told (Kd.R_told (Kd.R_old (rz HO_405001) hb) (Kd.R_base ho0)) (Kd.R_base ho1)) (fun _ h_ => h_.1)); replace HO_405002 := Aside0.mk (Kd.R_mono (Kd.R_told (Kd.R_told (Kd.R_old (rz HO_405002) hb) (Kd.R_base ho0)) (Kd.R_base ho1)) (fun _ h_ => h_.1)); replace BK404 := kb BK404 hb; replace HB := bp hb; clear hb ho0 ho1; obtain ⟨Ao42, co42, eo42⟩ := Kd.R_slice HO_405001.out
      (first | subst eo42 | (injection eo42 with f1_ f2_ f3_; have f4_ := f1_.symm; have f5_ := f3_.symm; clear f1_ f2_ f3_; subst f4_; subst f5_))
      obtain ⟨Ao43, co43, eo43⟩ := Kd.R_slice HO_405002.out
      (first | subst eo43 | (injection eo43 with f1_ f2_ f3_; have f4_ := f1_.symm; have f5_ := f3_.symm; clear f1_ f2_ f3_; subst f4_; subst f5_))
      obtain ⟨Ao44, co44, eo44⟩ := Kd.R_slice HO437.out
      (first | subst eo44 | (injection eo44 with f1_ f2_ f3_; have f4_ := f1_.symm; have f5_ := f3_.symm; clear f1_ f2_ f3_; subst f4_; subst f5_))
      obtain ⟨Ao45, co45, eo45⟩ := Kd.R_slice HO440.out
      (first | subst eo45 | (injection eo45 with f1_ f2_ f3_; have f4_ := f1_.symm; have f5_ := f3_.symm; clear f1_ f2_ f3_; subst f4_; subst f5_))
      refine hK.out _ _ ⟨ct BK404 0, ct BK404 1, ct BK404 2⟩ (fun hHeld => ?_); clear hK K; refine zM 29 ?_; refine one_ (i := 3) (N := some 30) (bs 5 15) rfl rfl (by kernel_rfl) (by decide) (fun K hK => ?_); refine zG Try.func69 #[.agg #[.bool x405000_1, .slice Ao42 x405001_1.length co42, .slice Ao43 x405002_1.length co43], .agg #[.bool t434, .slice Ao44 t435.length co44, .slice Ao45 t438.length co45]] ?_
      with_reducible refine (dioramaref10_plus.calls k1 x405000_1 _ _ x405001_1 _ _ x405002_1 t434 _ _ t435 _ _ t438 t441 t442 t445 _ ?side1 ?side2 ?side3 ?side4 ?side5 ?side6 ?side7 ?side8 A39.out).mono ?_
      (case side1 => exact cr HO_405001)
      (case side2 => exact (Kd.R_reads' HO_405001.out).2.1)
      (case side3 => exact cr HO_405002)
      (case side4 => exact (Kd.R_reads' HO_405002.out).2.1)
      (case side5 => exact cr HO437)
      (case side6 => exact (Kd.R_reads' HO437.out).2.1)
      (case side7 => exact cr HO440)
      (case side8 => exact (Kd.R_reads' HO440.out).2.1)
      rintro e w46 ⟨v443, v446, rfl, ho0, ho1, hb⟩; refine ⟨_, rfl, ?_⟩; have HO444 := Aside0.mk (Kd.R_lower (Kd.R_new' (Kd.R_new' (Kd.R_new' (Kd.R_new' ho0 (Kd.R_lt (rz HO_405001))) (Kd.R_lt (rz HO_405002))) (Kd.R_lt (rz HO437))) (Kd.R_lt (rz HO440))) sz); have HO447 := Aside0.mk (Kd.R_lower (Kd.R_new' (Kd.R_new' (Kd.R_new' (Kd.R_new' ho1 (Kd.R_lt (rz HO_405001))) (Kd.R_lt (rz HO_405002))) (Kd.R_lt (rz HO437))) (Kd.R_lt (rz HO440))) sz); replace HO_405001 := Aside0.mk (Kd.R_mono (Kd.R_told (Kd.R_told (Kd.R_old (rz HO_405001) hb) (Kd.R_base ho0)) (Kd.R_base ho1)) (fun _ h_ => h_.1)); replace HO_405002 := Aside0.mk (Kd.R_mono (Kd.R_told (Kd.R_told (Kd.R_old (rz HO_405002) hb) (Kd.R_base ho0)) (Kd.R_base ho1)) (fun _ h_ => h_.1)); replace HO437 := Aside0.mk (Kd.R_mono (Kd.R_told (Kd.R_told (Kd.R_old (rz HO437) hb) (Kd.R_base ho0)) (Kd.R_base ho1)) (fun _ h_ => h_.1)); replace HO440 := Aside0.mk (Kd.R_mono (Kd.R_told (Kd.R_told (Kd.R_old (rz HO440) hb) (Kd.R_base ho0)) (Kd.R_base ho1)) (fun _ h_ => h_.1)); replace BK404 := kb BK404 hb; replace HB := bp hb; clear hb ho0 ho1; obtain ⟨Ao48, co48, eo48⟩ := Kd.R_slice HO444.out
      (first | subst eo48 | (injection eo48 with f1_ f2_ f3_; have f4_ := f1_.symm; have f5_ := f3_.symm; clear f1_ f2_ f3_; subst f4_; subst f5_))
      obtain ⟨Ao50, co50, eo50⟩ := Kd.R_slice HO447.out
      (first | subst eo50 | (injection eo50 with f1_ f2_ f3_; have f4_ := f1_.symm; have f5_ := f3_.symm; clear f1_ f2_ f3_; subst f4_; subst f5_))
      refine hK.out _ _ ⟨ct BK404 0, ct BK404 1, ct BK404 2⟩ (fun hHeld => ?_); clear hK K; refine zM 30 ?_; refine last_ (i := 4) (N := none) (bs 5 31) rfl rfl (by kernel_rfl) (by decide) (fun K hK => ?_); have hs47 : w46.cell? ⟨gb404, 0, none⟩ = some (.bool x405000_1) := ct BK404 0; have hfs47 := blk_frozen BK404.out 0; have hs49 : w46.cell? ⟨gb404, 1, none⟩ = some (.slice Ao42 x405001_1.length co42) := ct BK404 1; have hfs49 := blk_frozen BK404.out 1; have hs51 : w46.cell? ⟨gb404, 2, none⟩ = some (.slice Ao43 x405002_1.length co43) := ct BK404 2; have hfs51 := blk_frozen BK404.out 2; refine skip_ (w1 := ?_) (by rfl) rfl ?_ ?_
      rotate_left
      ·go_simp
       rfl
      refine hK.out _ _ ?_; clear hK K; refine done_ (by kernel_rfl) ?_
      try go_wp2
      go_roundg k1
      case measure => have := HK1.out; omega
      case rel => exact ⟨(wrap64 (x4_1 + 1)), (t441), (t442), (t445), (.slice Ao48 t442.length co48), (.slice Ao50 t445.length co50), jz, H', ⟨by have := HK1.out; omega⟩, ⟨by (with_reducible repeat (first | apply Kd.R_alloc | apply Kd.R_drewN | apply Kd.R_drew)); exact Kd.R_mono (Kd.R_far (p := ⟨gb404, 2, none⟩) (Kd.R_far (p := ⟨gb404, 1, none⟩) (Kd.R_far (p := ⟨gb404, 0, none⟩) (Kd.R_types HO444.out BK404.out (by decide)) (fun _ hk => hk.2) (.bool t441)) (fun _ hk => hk.2) (.slice Ao48 t442.length co48)) (fun _ hk => hk.2) (.slice Ao50 t445.length co50)) (fun _ hk => hk.1.1.1.1.1)⟩, ⟨by (with_reducible repeat (first | apply Kd.R_alloc | apply Kd.R_drewN | apply Kd.R_drew)); exact Kd.R_mono (Kd.R_far (p := ⟨gb404, 2, none⟩) (Kd.R_far (p := ⟨gb404, 1, none⟩) (Kd.R_far (p := ⟨gb404, 0, none⟩) (Kd.R_types HO447.out BK404.out (by decide)) (fun _ hk => hk.2) (.bool t441)) (fun _ hk => hk.2) (.slice Ao48 t442.length co48)) (fun _ hk => hk.2) (.slice Ao50 t445.length co50)) (fun _ hk => hk.1.1.1.1.1)⟩, ⟨by (with_reducible repeat (first | refine blk_drewN ?_ _ | refine blk_drew ?_ | refine blk_alloc ?_ _)); refine blk_put (cs := #[.bool t441, .slice Ao48 t442.length co48, .slice Ao43 x405002_1.length co43]) ?_ 2 _ rfl; (with_reducible repeat (first | refine blk_drewN ?_ _ | refine blk_drew ?_ | refine blk_alloc ?_ _)); refine blk_put (cs := #[.bool t441, .slice Ao42 x405001_1.length co42, .slice Ao43 x405002_1.length co43]) ?_ 1 _ rfl; (with_reducible repeat (first | refine blk_drewN ?_ _ | refine blk_drew ?_ | refine blk_alloc ?_ _)); refine blk_put (cs := #[.bool x405000_1, .slice Ao42 x405001_1.length co42, .slice Ao43 x405002_1.length co43]) ?_ 0 _ rfl; (with_reducible repeat (first | refine blk_drewN ?_ _ | refine blk_drew ?_ | refine blk_alloc ?_ _)); exact BK404.out⟩, ⟨bz⟩⟩
    ·rw [if_neg c9] at H
     exact absurd H (by simp)
   ·rw [if_neg c8] at H; have c8b0 : decide (x4_1 < (l0.length : Int)) = false := decide_eq_false c8; clear c8; have HC52 := Aside0.mk H; clear H
    go_upto_region 10 with (fail)
    go_cut [38] (fun v38 wc => ∃ (kq : Nat) (x38_51 : Bool), v38 = .bool x38_51 ∧ Aside0 (dioramaref10_Length.j1 kq x38_51 x405000_1 x405001_1 x405002_1 = some r) ∧ Aside0 (kq ≤ k1) ∧ Aside0 (Kd.R (Kd.int .i64) 3 wc w.heap.size (fun k_ => some k_ ≠ (u405002 : Value).ownBlock) u405001 x405001_1) ∧ Aside0 (Kd.R (Kd.int .i64) 3 wc w.heap.size (fun k_ => some k_ ≠ (u405001 : Value).ownBlock) u405002 x405002_1) ∧ Aside0 (wc.heap[gb404]? = some (.cells #[.bool x405000_1, u405001, u405002] 95 (0, 0))) ∧ Aside0 (Below w.heap.size w wc))
    case first =>
     have H := HC52.out; clear HC52
     by_cases c53 : x405000_1 = true
     ·subst c53; rw [if_pos rfl] at H; have H' := Aside0.mk H; clear H; obtain ⟨hcz54_0, hcz54_1, hcz54_2, hfz54_0, hfz54_1, hfz54_2⟩ := xc3 BK404; obtain ⟨Ao55, co55, eo55⟩ := Kd.R_slice HO_405001.out; subst eo55
      go_wp2
      go_meet
      case rel => exact ⟨_, (decide ((x405001_1.length : Int) > 0)), jz, H', ⟨by have := HK1.out; first | omega | exact Nat.le_refl _⟩, ⟨rz HO_405001⟩, ⟨rz HO_405002⟩, ⟨kz⟩, ⟨bz⟩⟩
     ·obtain rfl := bf c53; rw [if_neg (show ¬ (false = true) by decide)] at H; have H' := Aside0.mk H; clear H; obtain ⟨hcz56_0, hcz56_1, hcz56_2, hfz56_0, hfz56_1, hfz56_2⟩ := xc3 BK404
      go_wp2
      go_meet
      case rel => exact ⟨_, (false), jz, H', ⟨by have := HK1.out; first | omega | exact Nat.le_refl _⟩, ⟨rz HO_405001⟩, ⟨rz HO_405002⟩, ⟨kz⟩, ⟨bz⟩⟩
    case rest =>
     clear HC52
     try clear c1
     try clear p2
     try clear p4
     try clear q4
     try clear hx4
     try clear c5
     try clear c6
     try clear p6
     try clear c8
     try clear c8b0
     try clear c9
     try clear c9b0
     try clear c10
     try clear c10b0
     try clear p40
     try clear q40
     try clear hx40
     try clear c53
     try clear hcz54_0
     try clear hcz54_1
     try clear hcz54_2
     try clear hcz56_0
     try clear hcz56_1
     try clear hcz56_2
     try clear hfz54_0
     try clear hfz54_1
     try clear hfz54_2
     try clear hfz56_0
     try clear hfz56_1
     try clear hfz56_2
     try clear hx405_0
     try clear hx405_1
     try clear hx405_2
     try clear hx405_3
     try clear p405
     try clear q405
     obtain ⟨kq, x38_51, rfl, HA, HJ51, HO_405001, HO_405002, BK404, HB⟩ := hcut
     cases kq with
     | zero => exact absurd HA.out (by simp [dioramaref10_Length.j1])
     | succ kj51 =>
      have H := HA.out; clear HA; simp only [dioramaref10_Length.j1] at H
      by_cases c57 : x38_51 = true
      ·subst c57; rw [if_pos rfl] at H; obtain rfl := Option.some.inj H
       go_wp2
       go_ret
       exact ⟨ez, bz⟩
      ·obtain rfl := bf c57; rw [if_neg (show ¬ (false = true) by decide)] at H; obtain ⟨⟨t448, t449⟩, A58, H⟩ := ob H
       (try dsimp only at H)
       by_cases c59 : t449 = true
       ·subst c59; rw [if_pos rfl] at H; obtain rfl := Option.some.inj H; obtain ⟨hcz60_0, hcz60_1, hcz60_2, hfz60_0, hfz60_1, hfz60_2⟩ := xc3 BK404; obtain ⟨Ao61, co61, eo61⟩ := Kd.R_slice HO_405001.out; subst eo61
        go_wp2_with (first | ((with_reducible refine gate_callee (f := 70) rfl ?_); refine zC 42 Try.func70 #[.slice Ao61 x405001_1.length co61, .int .i64 1099511627776] ?_; (with_reducible refine (dioramaref02_Small.calls kj51 _ _ x405001_1 1099511627776 t448 true _ ?side1 ?side2 A58.out).mono ?_); (case side1 => exact cr HO_405001); (case side2 => exact (Kd.R_reads' HO_405001.out).2.1); rintro e w62 ⟨rfl, hb⟩; refine ⟨_, rfl, ?_⟩; replace HO_405001 := Aside0.mk (Kd.R_below (rz HO_405001) hb); replace HO_405002 := Aside0.mk (Kd.R_below (rz HO_405002) hb); replace BK404 := kb BK404 hb; replace HB := bp hb; clear hb))
        go_ret
        exact ⟨ez, bz⟩
       ·obtain rfl := bf c59; rw [if_neg (show ¬ (false = true) by decide)] at H; obtain rfl := Option.some.inj H; obtain ⟨hcz63_0, hcz63_1, hcz63_2, hfz63_0, hfz63_1, hfz63_2⟩ := xc3 BK404; obtain ⟨Ao64, co64, eo64⟩ := Kd.R_slice HO_405001.out; subst eo64
        go_wp2_with (first | ((with_reducible refine gate_callee (f := 70) rfl ?_); refine zC 42 Try.func70 #[.slice Ao64 x405001_1.length co64, .int .i64 1099511627776] ?_; (with_reducible refine (dioramaref02_Small.calls kj51 _ _ x405001_1 1099511627776 t448 false _ ?side1 ?side2 A58.out).mono ?_); (case side1 => exact cr HO_405001); (case side2 => exact (Kd.R_reads' HO_405001.out).2.1); rintro e w65 ⟨rfl, hb⟩; refine ⟨_, rfl, ?_⟩; replace HO_405001 := Aside0.mk (Kd.R_below (rz HO_405001) hb); replace HO_405002 := Aside0.mk (Kd.R_below (rz HO_405002) hb); replace BK404 := kb BK404 hb; replace HB := bp hb; clear hb))
        go_ret
        exact ⟨ez, bz⟩
def dioramalaw10_EditChecks.f (k : Nat) (l0_0 : List (S77)) (a0_1 : Int) (a0_2 : Int) : Option (Bool) := (dioramalaw10_many.f l0_0).bind fun t451 => (if t451 = true then ((dioramalaw10_awake.f k).bind fun t452 => (some t452)) else ((edit_Normal.f k l0_0 a0_1 a0_2).bind fun bt453 => ((dioramaref10_Normal.f k l0_0 a0_1 a0_2).bind fun bt457 => ((dioramalaw10_eq.f k bt453.1 bt453.2 bt457.1 bt457.2).bind fun t461 => (if t461 = true then ((edit_Check.f k l0_0 a0_1 a0_2).bind fun t462 => ((dioramaref10_Check.f k l0_0 a0_1 a0_2).bind fun t463 => (if t462 = t463 then ((edit_Length.f l0_0).bind fun t464 => ((dioramaref10_Length.f k l0_0).bind fun t465 => (if t464 = t465 then ((dioramalaw10_awake.f k).bind fun t466 => (some t466)) else (some false)))) else (some false)))) else (some false))))))
theorem dioramalaw10_EditChecks.mono : ∀ a0 a1 a2 k, LeO (dioramalaw10_EditChecks.f k a0 a1 a2) (dioramalaw10_EditChecks.f (k + 1) a0 a1 a2) := by
  intro a0 a1 a2 k
  unfold dioramalaw10_EditChecks.f
  repeat' first
      | (with_reducible exact dioramalaw10_awake.mono _)
      | (with_reducible exact dioramalaw10_eq.mono _ _ _ _ _)
      | (with_reducible exact dioramaref10_Check.mono _ _ _ _)
      | (with_reducible exact dioramaref10_Length.mono _ _)
      | (with_reducible exact dioramaref10_Normal.mono _ _ _ _)
      | (with_reducible exact edit_Check.mono _ _ _ _)
      | (with_reducible exact edit_Normal.mono _ _ _ _)
      | (with_reducible exact LeO.refl _)
      | (with_reducible exact LeO.none _)
      | (with_reducible refine LeO.ite ?_ ?_)
      | (with_reducible refine LeO.bind ?_ (fun _ => ?_))
      | exact dioramalaw10_awake.mono _
      | exact dioramalaw10_eq.mono _ _ _ _ _
      | exact dioramaref10_Check.mono _ _ _ _
      | exact dioramaref10_Length.mono _ _
      | exact dioramaref10_Normal.mono _ _ _ _
      | exact edit_Check.mono _ _ _ _
      | exact edit_Normal.mono _ _ _ _
      | exact LeO.none _
      | refine LeO.ite ?_ ?_
      | refine LeO.bind ?_ (fun _ => ?_)
set_option maxHeartbeats 8000000 in
set_option maxRecDepth 100000 in
theorem dioramalaw10_EditChecks.calls (k : Nat) (A0_0 : Option Addr) (c0_0 : Nat) (l0_0 : List (S77)) (a0_1 : Int) (a0_2 : Int) (r : Bool) (w : World) (hr0_0 : Kd.C k77 w A0_0 l0_0.length l0_0) (hc0_0 : l0_0.length ≤ c0_0) (h : dioramalaw10_EditChecks.f k l0_0 a0_1 a0_2 = some r) :
  Calls Try.prog 3 #[.agg #[.slice A0_0 l0_0.length c0_0, .int .i64 a0_1, .int .i64 a0_2]] w fun e w' => e = .returned (.bool r) ∧ Below w.heap.size w w' := by
 have hu24 := Try.underlying24; have HR0_0 := Aside0.mk hr0_0; have HC0_0 := Aside0.mk hc0_0; clear hr0_0 hc0_0; have HB := Aside0.mk (Below.refl w.heap.size w); have H : ((dioramalaw10_many.f l0_0).bind fun t451 => (if t451 = true then ((dioramalaw10_awake.f k).bind fun t452 => (some t452)) else ((edit_Normal.f k l0_0 a0_1 a0_2).bind fun bt453 => ((dioramaref10_Normal.f k l0_0 a0_1 a0_2).bind fun bt457 => ((dioramalaw10_eq.f k bt453.1 bt453.2 bt457.1 bt457.2).bind fun t461 => (if t461 = true then ((edit_Check.f k l0_0 a0_1 a0_2).bind fun t462 => ((dioramaref10_Check.f k l0_0 a0_1 a0_2).bind fun t463 => (if t462 = t463 then ((edit_Length.f l0_0).bind fun t464 => ((dioramaref10_Length.f k l0_0).bind fun t465 => (if t464 = t465 then ((dioramalaw10_awake.f k).bind fun t466 => (some t466)) else (some false)))) else (some false)))) else (some false))))))) = some r := h
 clear h; obtain ⟨t451, A2, H⟩ := ob H
 by_cases c3 : t451 = true
 ·subst c3; rw [if_pos rfl] at H; obtain ⟨t452, A4, H⟩ := ob H; obtain rfl := Option.some.inj H
  go_enter Try.func3, Try.ntmps3
  go_wp2_with (first | ((with_reducible refine gate_dst (N := 1) rfl ?_); refine zB 1 24 #[.slice A0_0 l0_0.length c0_0, .int .i64 a0_1, .int .i64 a0_2] ?_; intro gb450 hg w5 hbox hb; have BK450 := Aside0.mk hbox; have GW450 := gz hg; have GE450 := gz hg; replace HB := bp hb; clear hb hbox hg; obtain ⟨hcz6_0, hcz6_1, hcz6_2, hfz6_0, hfz6_1, hfz6_2⟩ := xc3 BK450) | ((with_reducible refine gate_callee (f := 19) rfl ?_); refine zC 9 Try.func19 #[.slice A0_0 l0_0.length c0_0] ?_; (with_reducible refine (dioramalaw10_many.calls _ _ l0_0 true _ ?side1 ?side2 A2.out).mono ?_); (case side1 => exact cz HR0_0); (case side2 => exact HC0_0.out); rintro e w' ⟨rfl, ⟨nd, rfl⟩⟩; refine ⟨_, rfl, ?_⟩) | ((with_reducible refine gate_callee (f := 20) rfl ?_); refine zC 10 Try.func20 #[] ?_; (with_reducible refine (dioramalaw10_awake.calls k  t452 _ A4.out).mono ?_); rintro e w7 ⟨rfl, hb⟩; refine ⟨_, rfl, ?_⟩; replace BK450 := kb BK450 hb; replace HB := bp hb; clear hb))
  go_ret
  exact ⟨ez, bz⟩
 ·obtain rfl := bf c3; rw [if_neg (show ¬ (false = true) by decide)] at H; obtain ⟨⟨t453, t454⟩, A8, H⟩ := ob H
  (try dsimp only at H)
  obtain ⟨⟨t457, t458⟩, A9, H⟩ := ob H
  (try dsimp only at H)
  obtain ⟨t461, A10, H⟩ := ob H
  by_cases c11 : t461 = true
  ·subst c11; rw [if_pos rfl] at H; obtain ⟨t462, A12, H⟩ := ob H; obtain ⟨t463, A13, H⟩ := ob H
   by_cases c14 : t462 = t463
   ·rw [if_pos c14] at H; have c14b0 : (t462 == t463) = true := beq_iff_eq.mpr c14; have c14b1 : (t462 != t463) = false := bne_eq_false_iff_eq.mpr c14; clear c14; obtain ⟨t464, A15, H⟩ := ob H; obtain ⟨t465, A16, H⟩ := ob H
    by_cases c17 : t464 = t465
    ·rw [if_pos c17] at H; have c17b0 : (t464 == t465) = true := beq_iff_eq.mpr c17; have c17b1 : (t464 != t465) = false := bne_eq_false_iff_eq.mpr c17; clear c17; obtain ⟨t466, A18, H⟩ := ob H; obtain rfl := Option.some.inj H
     go_enter Try.func3, Try.ntmps3
     try go_wp2_with (first | ((with_reducible refine gate_dst (N := 1) rfl ?_); refine zB 1 24 #[.slice A0_0 l0_0.length c0_0, .int .i64 a0_1, .int .i64 a0_2] ?_; intro gb450 hg w19 hbox hb; have BK450 := Aside0.mk hbox; have GW450 := gz hg; have GE450 := gz hg; replace HB := bp hb; clear hb hbox hg; obtain ⟨hcz20_0, hcz20_1, hcz20_2, hfz20_0, hfz20_1, hfz20_2⟩ := xc3 BK450) | ((with_reducible refine gate_callee (f := 19) rfl ?_); refine zC 9 Try.func19 #[.slice A0_0 l0_0.length c0_0] ?_; (with_reducible refine (dioramalaw10_many.calls _ _ l0_0 false _ ?side1 ?side2 A2.out).mono ?_); (case side1 => exact cz HR0_0); (case side2 => exact HC0_0.out); rintro e w' ⟨rfl, ⟨nd, rfl⟩⟩; refine ⟨_, rfl, ?_⟩) | ((with_reducible refine gate_callee (f := 21) rfl ?_); refine zC 18 Try.func21 #[.slice A0_0 l0_0.length c0_0, .int .i64 a0_1, .int .i64 a0_2] ?_; (with_reducible refine (edit_Normal.calls k _ _ l0_0 a0_1 a0_2 t453 t454 _ ?side1 ?side2 A8.out).mono ?_); (case side1 => repeat (first | exact (Kd.C_below HR0_0.out bz) | (with_reducible refine Kd.C_alloc ?_ _) | (with_reducible refine Kd.C_drewN ?_ _) | (with_reducible refine Kd.C_drew ?_))); (case side2 => exact HC0_0.out); rintro e w21 ⟨v455, rfl, ho0, hb⟩; refine ⟨_, rfl, ?_⟩; have HO456 := Aside0.mk (Kd.R_lower ho0 sz); replace BK450 := kb BK450 hb; replace HB := bp hb; clear hb ho0; obtain ⟨hcz22_0, hcz22_1, hcz22_2, hfz22_0, hfz22_1, hfz22_2⟩ := xc3 BK450) | ((with_reducible refine gate_callee (f := 22) rfl ?_); refine zC 28 Try.func22 #[.slice A0_0 l0_0.length c0_0, .int .i64 a0_1, .int .i64 a0_2] ?_; (with_reducible refine (dioramaref10_Normal.calls k _ _ l0_0 a0_1 a0_2 t457 t458 _ ?side1 ?side2 A9.out).mono ?_); (case side1 => exact cz HR0_0); (case side2 => exact HC0_0.out); rintro e w23 ⟨v459, rfl, ho0, hb⟩; refine ⟨_, rfl, ?_⟩; have HO460 := Aside0.mk (Kd.R_lower (Kd.R_new' ho0 (Kd.R_lt (rz HO456))) sz); replace HO456 := Aside0.mk (Kd.R_elder' (rz HO456) (Kd.R_base ho0) hb); replace BK450 := kb BK450 hb; replace HB := bp hb; clear hb ho0))
     replace HO456 := Aside0.mk (Kd.R_drew HO456.out); replace HO460 := Aside0.mk (Kd.R_drew HO460.out); replace BK450 := Aside0.mk (blk_drew BK450.out); replace HB := Aside0.mk (below_drew1 HB.out); obtain ⟨Ao25, co25, eo25⟩ := Kd.R_slice HO456.out
     (first | subst eo25 | (injection eo25 with f1_ f2_ f3_; have f4_ := f1_.symm; have f5_ := f3_.symm; clear f1_ f2_ f3_; subst f4_; subst f5_))
     obtain ⟨Ao26, co26, eo26⟩ := Kd.R_slice HO460.out
     (first | subst eo26 | (injection eo26 with f1_ f2_ f3_; have f4_ := f1_.symm; have f5_ := f3_.symm; clear f1_ f2_ f3_; subst f4_; subst f5_))
     refine start_ (n := 35) (S := fun w' => w'.cell? ⟨gb450, 0, none⟩ = some (.slice A0_0 l0_0.length c0_0) ∧ w'.cell? ⟨gb450, 1, none⟩ = some (.int .i64 a0_1) ∧ w'.cell? ⟨gb450, 2, none⟩ = some (.int .i64 a0_2)) (ds := []) (bs 35 0) (by kernel_rfl) rfl rfl ⟨ct BK450 0, ct BK450 1, ct BK450 2⟩ (fun hHeld => ?_)
     generalize w23.drew = w24 at HO456 HO460 BK450 HB hHeld ⊢; refine zP 0 31 35 1 ?_; refine zP 1 32 35 3 ?_; refine zP 2 33 35 7 ?_; refine zP 3 34 35 15 ?_; refine zN 4 (some 35) 35 31 (fun K hK => ?_); refine zG Try.func23 #[.slice Ao25 t453.length co25, .int .i64 t454, .slice Ao26 t457.length co26, .int .i64 t458] ?_
     with_reducible refine (dioramalaw10_eq.calls k _ _ t453 t454 _ _ t457 t458 true _ ?side1 ?side2 ?side3 ?side4 A10.out).mono ?_
     (case side1 => exact cr HO456)
     (case side2 => exact (Kd.R_reads' HO456.out).2.1)
     (case side3 => exact cr HO460)
     (case side4 => exact (Kd.R_reads' HO460.out).2.1)
     rintro e w' ⟨rfl, ⟨nd, rfl⟩⟩; refine ⟨_, rfl, ?_⟩; refine hK.out _ _ ⟨ct BK450 0, ct BK450 1, ct BK450 2⟩ (fun hHeld => ?_); clear hK K; refine zM 35 ?_; refine zP 5 36 35 63 ?_; refine zP 6 37 35 127 ?_; refine zP 8 39 35 383 ?_; refine zP 10 41 35 1407 ?_; refine zP 13 44 35 9599 ?_; refine zP 15 46 35 42367 ?_; refine zP 17 48 35 173439 ?_; refine zT 7 38 35 173567 hHeld ?_; refine zT 9 40 35 174079 hHeld ?_; refine zT 11 42 35 176127 hHeld ?_; refine zT 14 45 35 192511 hHeld ?_; refine zT 16 47 35 258047 hHeld ?_; refine zT 18 49 35 520191 hHeld ?_; refine zN 12 (some 43) 35 524287 (fun K hK => ?_); refine zG Try.func24 #[.slice A0_0 l0_0.length c0_0, .int .i64 a0_1, .int .i64 a0_2] ?_
     with_reducible refine (edit_Check.calls k _ _ l0_0 a0_1 a0_2 t462 _ ?side1 ?side2 A12.out).mono ?_
     (case side1 => repeat (first | exact (Kd.C_below HR0_0.out bz) | (with_reducible refine Kd.C_alloc ?_ _) | (with_reducible refine Kd.C_drewN ?_ _) | (with_reducible refine Kd.C_drew ?_)))
     (case side2 => exact HC0_0.out)
     rintro e w27 ⟨rfl, hb⟩; refine ⟨_, rfl, ?_⟩; replace HO456 := Aside0.mk (Kd.R_below (rz HO456) hb); replace HO460 := Aside0.mk (Kd.R_below (rz HO460) hb); replace BK450 := kb BK450 hb; replace HB := bp hb; clear hb; refine hK.out _ _ ⟨ct BK450 0, ct BK450 1, ct BK450 2⟩ (fun hHeld => ?_); clear hK K; refine zM 43 ?_; refine zN 19 (some 50) 35 1048575 (fun K hK => ?_); refine zG Try.func25 #[.slice A0_0 l0_0.length c0_0, .int .i64 a0_1, .int .i64 a0_2] ?_
     with_reducible refine (dioramaref10_Check.calls k _ _ l0_0 a0_1 a0_2 t463 _ ?side1 ?side2 A13.out).mono ?_
     (case side1 => exact cz HR0_0)
     (case side2 => exact HC0_0.out)
     rintro e w28 ⟨rfl, hb⟩; refine ⟨_, rfl, ?_⟩; replace HO456 := Aside0.mk (Kd.R_below (rz HO456) hb); replace HO460 := Aside0.mk (Kd.R_below (rz HO460) hb); replace BK450 := kb BK450 hb; replace HB := bp hb; clear hb; refine hK.out _ _ ⟨ct BK450 0, ct BK450 1, ct BK450 2⟩ (fun hHeld => ?_); clear hK K; refine zM 50 ?_; refine zP 20 51 35 2097151 ?_; refine zP 21 52 35 4194303 ?_; refine zP 22 53 35 8388607 ?_; refine zP 23 54 35 16777215 ?_; refine zP 26 57 35 83886079 ?_; refine zT 24 55 35 100663295 hHeld ?_; refine zT 27 58 35 234881023 hHeld ?_; refine zN 25 (some 56) 35 268435455 (fun K hK => ?_); refine zG Try.func26 #[.slice A0_0 l0_0.length c0_0] ?_
     with_reducible refine (edit_Length.calls _ _ l0_0 t464 _ ?side1 ?side2 A15.out).mono ?_
     (case side1 => exact cz HR0_0)
     (case side2 => exact HC0_0.out)
     rintro e w29 ⟨rfl, hb⟩; refine ⟨_, rfl, ?_⟩; replace HO456 := Aside0.mk (Kd.R_below (rz HO456) hb); replace HO460 := Aside0.mk (Kd.R_below (rz HO460) hb); replace BK450 := kb BK450 hb; replace HB := bp hb; clear hb; refine hK.out _ _ ⟨ct BK450 0, ct BK450 1, ct BK450 2⟩ (fun hHeld => ?_); clear hK K; refine zM 56 ?_; refine zN 28 (some 59) 35 536870911 (fun K hK => ?_); refine zG Try.func27 #[.slice A0_0 l0_0.length c0_0] ?_
     with_reducible refine (dioramaref10_Length.calls k _ _ l0_0 t465 _ ?side1 ?side2 A16.out).mono ?_
     (case side1 => exact cz HR0_0)
     (case side2 => exact HC0_0.out)
     rintro e w30 ⟨rfl, hb⟩; refine ⟨_, rfl, ?_⟩; replace HO456 := Aside0.mk (Kd.R_below (rz HO456) hb); replace HO460 := Aside0.mk (Kd.R_below (rz HO460) hb); replace BK450 := kb BK450 hb; replace HB := bp hb; clear hb; refine hK.out _ _ ⟨ct BK450 0, ct BK450 1, ct BK450 2⟩ (fun hHeld => ?_); clear hK K; refine zM 59 ?_; refine zP 29 60 35 1073741823 ?_; refine zP 30 61 35 2147483647 ?_; refine zP 31 62 35 4294967295 ?_; refine zN 32 (some 63) 35 8589934591 (fun K hK => ?_); refine zG Try.func20 #[] ?_
     with_reducible refine (dioramalaw10_awake.calls k  t466 _ A18.out).mono ?_
     rintro e w31 ⟨rfl, hb⟩; refine ⟨_, rfl, ?_⟩; replace HO456 := Aside0.mk (Kd.R_below (rz HO456) hb); replace HO460 := Aside0.mk (Kd.R_below (rz HO460) hb); replace BK450 := kb BK450 hb; replace HB := bp hb; clear hb; refine hK.out _ _ ⟨ct BK450 0, ct BK450 1, ct BK450 2⟩ (fun hHeld => ?_); clear hK K; refine zM 63 ?_; refine zP 33 64 35 17179869183 ?_; refine zP 34 2 35 34359738367 ?_; refine done_ (by kernel_rfl) ?_
     try go_wp2
     go_ret
     exact ⟨ez, bz⟩
    ·rw [if_neg c17] at H; have c17b0 : (t464 == t465) = false := beq_eq_false_iff_ne.mpr c17; have c17b1 : (t464 != t465) = true := bne_iff_ne.mpr c17; obtain rfl := Option.some.inj H
     go_enter Try.func3, Try.ntmps3
     try go_wp2_with (first | ((with_reducible refine gate_dst (N := 1) rfl ?_); refine zB 1 24 #[.slice A0_0 l0_0.length c0_0, .int .i64 a0_1, .int .i64 a0_2] ?_; intro gb450 hg w32 hbox hb; have BK450 := Aside0.mk hbox; have GW450 := gz hg; have GE450 := gz hg; replace HB := bp hb; clear hb hbox hg; obtain ⟨hcz33_0, hcz33_1, hcz33_2, hfz33_0, hfz33_1, hfz33_2⟩ := xc3 BK450) | ((with_reducible refine gate_callee (f := 19) rfl ?_); refine zC 9 Try.func19 #[.slice A0_0 l0_0.length c0_0] ?_; (with_reducible refine (dioramalaw10_many.calls _ _ l0_0 false _ ?side1 ?side2 A2.out).mono ?_); (case side1 => exact cz HR0_0); (case side2 => exact HC0_0.out); rintro e w' ⟨rfl, ⟨nd, rfl⟩⟩; refine ⟨_, rfl, ?_⟩) | ((with_reducible refine gate_callee (f := 21) rfl ?_); refine zC 18 Try.func21 #[.slice A0_0 l0_0.length c0_0, .int .i64 a0_1, .int .i64 a0_2] ?_; (with_reducible refine (edit_Normal.calls k _ _ l0_0 a0_1 a0_2 t453 t454 _ ?side1 ?side2 A8.out).mono ?_); (case side1 => repeat (first | exact (Kd.C_below HR0_0.out bz) | (with_reducible refine Kd.C_alloc ?_ _) | (with_reducible refine Kd.C_drewN ?_ _) | (with_reducible refine Kd.C_drew ?_))); (case side2 => exact HC0_0.out); rintro e w34 ⟨v455, rfl, ho0, hb⟩; refine ⟨_, rfl, ?_⟩; have HO456 := Aside0.mk (Kd.R_lower ho0 sz); replace BK450 := kb BK450 hb; replace HB := bp hb; clear hb ho0; obtain ⟨hcz35_0, hcz35_1, hcz35_2, hfz35_0, hfz35_1, hfz35_2⟩ := xc3 BK450) | ((with_reducible refine gate_callee (f := 22) rfl ?_); refine zC 28 Try.func22 #[.slice A0_0 l0_0.length c0_0, .int .i64 a0_1, .int .i64 a0_2] ?_; (with_reducible refine (dioramaref10_Normal.calls k _ _ l0_0 a0_1 a0_2 t457 t458 _ ?side1 ?side2 A9.out).mono ?_); (case side1 => exact cz HR0_0); (case side2 => exact HC0_0.out); rintro e w36 ⟨v459, rfl, ho0, hb⟩; refine ⟨_, rfl, ?_⟩; have HO460 := Aside0.mk (Kd.R_lower (Kd.R_new' ho0 (Kd.R_lt (rz HO456))) sz); replace HO456 := Aside0.mk (Kd.R_elder' (rz HO456) (Kd.R_base ho0) hb); replace BK450 := kb BK450 hb; replace HB := bp hb; clear hb ho0))
     replace HO456 := Aside0.mk (Kd.R_drew HO456.out); replace HO460 := Aside0.mk (Kd.R_drew HO460.out); replace BK450 := Aside0.mk (blk_drew BK450.out); replace HB := Aside0.mk (below_drew1 HB.out); obtain ⟨Ao38, co38, eo38⟩ := Kd.R_slice HO456.out
     (first | subst eo38 | (injection eo38 with f1_ f2_ f3_; have f4_ := f1_.symm; have f5_ := f3_.symm; clear f1_ f2_ f3_; subst f4_; subst f5_))
     obtain ⟨Ao39, co39, eo39⟩ := Kd.R_slice HO460.out
     (first | subst eo39 | (injection eo39 with f1_ f2_ f3_; have f4_ := f1_.symm; have f5_ := f3_.symm; clear f1_ f2_ f3_; subst f4_; subst f5_))
     refine start_ (n := 35) (S := fun w' => w'.cell? ⟨gb450, 0, none⟩ = some (.slice A0_0 l0_0.length c0_0) ∧ w'.cell? ⟨gb450, 1, none⟩ = some (.int .i64 a0_1) ∧ w'.cell? ⟨gb450, 2, none⟩ = some (.int .i64 a0_2)) (ds := []) (bs 35 0) (by kernel_rfl) rfl rfl ⟨ct BK450 0, ct BK450 1, ct BK450 2⟩ (fun hHeld => ?_)
     generalize w36.drew = w37 at HO456 HO460 BK450 HB hHeld ⊢; refine zP 0 31 35 1 ?_; refine zP 1 32 35 3 ?_; refine zP 2 33 35 7 ?_; refine zP 3 34 35 15 ?_; refine zN 4 (some 35) 35 31 (fun K hK => ?_); refine zG Try.func23 #[.slice Ao38 t453.length co38, .int .i64 t454, .slice Ao39 t457.length co39, .int .i64 t458] ?_
     with_reducible refine (dioramalaw10_eq.calls k _ _ t453 t454 _ _ t457 t458 true _ ?side1 ?side2 ?side3 ?side4 A10.out).mono ?_
     (case side1 => exact cr HO456)
     (case side2 => exact (Kd.R_reads' HO456.out).2.1)
     (case side3 => exact cr HO460)
     (case side4 => exact (Kd.R_reads' HO460.out).2.1)
     rintro e w' ⟨rfl, ⟨nd, rfl⟩⟩; refine ⟨_, rfl, ?_⟩; refine hK.out _ _ ⟨ct BK450 0, ct BK450 1, ct BK450 2⟩ (fun hHeld => ?_); clear hK K; refine zM 35 ?_; refine zP 5 36 35 63 ?_; refine zP 6 37 35 127 ?_; refine zP 8 39 35 383 ?_; refine zP 10 41 35 1407 ?_; refine zP 13 44 35 9599 ?_; refine zP 15 46 35 42367 ?_; refine zP 17 48 35 173439 ?_; refine zT 7 38 35 173567 hHeld ?_; refine zT 9 40 35 174079 hHeld ?_; refine zT 11 42 35 176127 hHeld ?_; refine zT 14 45 35 192511 hHeld ?_; refine zT 16 47 35 258047 hHeld ?_; refine zT 18 49 35 520191 hHeld ?_; refine zN 12 (some 43) 35 524287 (fun K hK => ?_); refine zG Try.func24 #[.slice A0_0 l0_0.length c0_0, .int .i64 a0_1, .int .i64 a0_2] ?_
     with_reducible refine (edit_Check.calls k _ _ l0_0 a0_1 a0_2 t462 _ ?side1 ?side2 A12.out).mono ?_
     (case side1 => repeat (first | exact (Kd.C_below HR0_0.out bz) | (with_reducible refine Kd.C_alloc ?_ _) | (with_reducible refine Kd.C_drewN ?_ _) | (with_reducible refine Kd.C_drew ?_)))
     (case side2 => exact HC0_0.out)
     rintro e w40 ⟨rfl, hb⟩; refine ⟨_, rfl, ?_⟩; replace HO456 := Aside0.mk (Kd.R_below (rz HO456) hb); replace HO460 := Aside0.mk (Kd.R_below (rz HO460) hb); replace BK450 := kb BK450 hb; replace HB := bp hb; clear hb; refine hK.out _ _ ⟨ct BK450 0, ct BK450 1, ct BK450 2⟩ (fun hHeld => ?_); clear hK K; refine zM 43 ?_; refine zN 19 (some 50) 35 1048575 (fun K hK => ?_); refine zG Try.func25 #[.slice A0_0 l0_0.length c0_0, .int .i64 a0_1, .int .i64 a0_2] ?_
     with_reducible refine (dioramaref10_Check.calls k _ _ l0_0 a0_1 a0_2 t463 _ ?side1 ?side2 A13.out).mono ?_
     (case side1 => exact cz HR0_0)
     (case side2 => exact HC0_0.out)
     rintro e w41 ⟨rfl, hb⟩; refine ⟨_, rfl, ?_⟩; replace HO456 := Aside0.mk (Kd.R_below (rz HO456) hb); replace HO460 := Aside0.mk (Kd.R_below (rz HO460) hb); replace BK450 := kb BK450 hb; replace HB := bp hb; clear hb; refine hK.out _ _ ⟨ct BK450 0, ct BK450 1, ct BK450 2⟩ (fun hHeld => ?_); clear hK K; refine zM 50 ?_; refine zP 20 51 35 2097151 ?_; refine zP 21 52 35 4194303 ?_; refine zP 22 53 35 8388607 ?_; refine zP 23 54 35 16777215 ?_; refine zP 26 57 35 83886079 ?_; refine zT 24 55 35 100663295 hHeld ?_; refine zT 27 58 35 234881023 hHeld ?_; refine zN 25 (some 56) 35 268435455 (fun K hK => ?_); refine zG Try.func26 #[.slice A0_0 l0_0.length c0_0] ?_
     with_reducible refine (edit_Length.calls _ _ l0_0 t464 _ ?side1 ?side2 A15.out).mono ?_
     (case side1 => exact cz HR0_0)
     (case side2 => exact HC0_0.out)
     rintro e w42 ⟨rfl, hb⟩; refine ⟨_, rfl, ?_⟩; replace HO456 := Aside0.mk (Kd.R_below (rz HO456) hb); replace HO460 := Aside0.mk (Kd.R_below (rz HO460) hb); replace BK450 := kb BK450 hb; replace HB := bp hb; clear hb; refine hK.out _ _ ⟨ct BK450 0, ct BK450 1, ct BK450 2⟩ (fun hHeld => ?_); clear hK K; refine zM 56 ?_; refine zN 28 (some 59) 35 536870911 (fun K hK => ?_); refine zG Try.func27 #[.slice A0_0 l0_0.length c0_0] ?_
     with_reducible refine (dioramaref10_Length.calls k _ _ l0_0 t465 _ ?side1 ?side2 A16.out).mono ?_
     (case side1 => exact cz HR0_0)
     (case side2 => exact HC0_0.out)
     rintro e w43 ⟨rfl, hb⟩; refine ⟨_, rfl, ?_⟩; replace HO456 := Aside0.mk (Kd.R_below (rz HO456) hb); replace HO460 := Aside0.mk (Kd.R_below (rz HO460) hb); replace BK450 := kb BK450 hb; replace HB := bp hb; clear hb; refine hK.out _ _ ⟨ct BK450 0, ct BK450 1, ct BK450 2⟩ (fun hHeld => ?_); clear hK K; refine zM 59 ?_; refine zP 29 60 35 1073741823 ?_; refine zP 30 61 35 2147483647 ?_; refine zP 31 62 35 4294967295 ?_; refine zO 32 63 35 8589934591 ?_; refine zP 33 64 35 17179869183 ?_; refine zP 34 2 35 34359738367 ?_; refine done_ (by kernel_rfl) ?_
     try go_wp2
     go_ret
     exact ⟨ez, bz⟩
   ·rw [if_neg c14] at H; have c14b0 : (t462 == t463) = false := beq_eq_false_iff_ne.mpr c14; have c14b1 : (t462 != t463) = true := bne_iff_ne.mpr c14; obtain rfl := Option.some.inj H
    go_enter Try.func3, Try.ntmps3
    try go_wp2_with (first | ((with_reducible refine gate_dst (N := 1) rfl ?_); refine zB 1 24 #[.slice A0_0 l0_0.length c0_0, .int .i64 a0_1, .int .i64 a0_2] ?_; intro gb450 hg w44 hbox hb; have BK450 := Aside0.mk hbox; have GW450 := gz hg; have GE450 := gz hg; replace HB := bp hb; clear hb hbox hg; obtain ⟨hcz45_0, hcz45_1, hcz45_2, hfz45_0, hfz45_1, hfz45_2⟩ := xc3 BK450) | ((with_reducible refine gate_callee (f := 19) rfl ?_); refine zC 9 Try.func19 #[.slice A0_0 l0_0.length c0_0] ?_; (with_reducible refine (dioramalaw10_many.calls _ _ l0_0 false _ ?side1 ?side2 A2.out).mono ?_); (case side1 => exact cz HR0_0); (case side2 => exact HC0_0.out); rintro e w' ⟨rfl, ⟨nd, rfl⟩⟩; refine ⟨_, rfl, ?_⟩) | ((with_reducible refine gate_callee (f := 21) rfl ?_); refine zC 18 Try.func21 #[.slice A0_0 l0_0.length c0_0, .int .i64 a0_1, .int .i64 a0_2] ?_; (with_reducible refine (edit_Normal.calls k _ _ l0_0 a0_1 a0_2 t453 t454 _ ?side1 ?side2 A8.out).mono ?_); (case side1 => repeat (first | exact (Kd.C_below HR0_0.out bz) | (with_reducible refine Kd.C_alloc ?_ _) | (with_reducible refine Kd.C_drewN ?_ _) | (with_reducible refine Kd.C_drew ?_))); (case side2 => exact HC0_0.out); rintro e w46 ⟨v455, rfl, ho0, hb⟩; refine ⟨_, rfl, ?_⟩; have HO456 := Aside0.mk (Kd.R_lower ho0 sz); replace BK450 := kb BK450 hb; replace HB := bp hb; clear hb ho0; obtain ⟨hcz47_0, hcz47_1, hcz47_2, hfz47_0, hfz47_1, hfz47_2⟩ := xc3 BK450) | ((with_reducible refine gate_callee (f := 22) rfl ?_); refine zC 28 Try.func22 #[.slice A0_0 l0_0.length c0_0, .int .i64 a0_1, .int .i64 a0_2] ?_; (with_reducible refine (dioramaref10_Normal.calls k _ _ l0_0 a0_1 a0_2 t457 t458 _ ?side1 ?side2 A9.out).mono ?_); (case side1 => exact cz HR0_0); (case side2 => exact HC0_0.out); rintro e w48 ⟨v459, rfl, ho0, hb⟩; refine ⟨_, rfl, ?_⟩; have HO460 := Aside0.mk (Kd.R_lower (Kd.R_new' ho0 (Kd.R_lt (rz HO456))) sz); replace HO456 := Aside0.mk (Kd.R_elder' (rz HO456) (Kd.R_base ho0) hb); replace BK450 := kb BK450 hb; replace HB := bp hb; clear hb ho0))
    replace HO456 := Aside0.mk (Kd.R_drew HO456.out); replace HO460 := Aside0.mk (Kd.R_drew HO460.out); replace BK450 := Aside0.mk (blk_drew BK450.out); replace HB := Aside0.mk (below_drew1 HB.out); obtain ⟨Ao50, co50, eo50⟩ := Kd.R_slice HO456.out
    (first | subst eo50 | (injection eo50 with f1_ f2_ f3_; have f4_ := f1_.symm; have f5_ := f3_.symm; clear f1_ f2_ f3_; subst f4_; subst f5_))
    obtain ⟨Ao51, co51, eo51⟩ := Kd.R_slice HO460.out
    (first | subst eo51 | (injection eo51 with f1_ f2_ f3_; have f4_ := f1_.symm; have f5_ := f3_.symm; clear f1_ f2_ f3_; subst f4_; subst f5_))
    refine start_ (n := 35) (S := fun w' => w'.cell? ⟨gb450, 0, none⟩ = some (.slice A0_0 l0_0.length c0_0) ∧ w'.cell? ⟨gb450, 1, none⟩ = some (.int .i64 a0_1) ∧ w'.cell? ⟨gb450, 2, none⟩ = some (.int .i64 a0_2)) (ds := []) (bs 35 0) (by kernel_rfl) rfl rfl ⟨ct BK450 0, ct BK450 1, ct BK450 2⟩ (fun hHeld => ?_)
    generalize w48.drew = w49 at HO456 HO460 BK450 HB hHeld ⊢; refine zP 0 31 35 1 ?_; refine zP 1 32 35 3 ?_; refine zP 2 33 35 7 ?_; refine zP 3 34 35 15 ?_; refine zN 4 (some 35) 35 31 (fun K hK => ?_); refine zG Try.func23 #[.slice Ao50 t453.length co50, .int .i64 t454, .slice Ao51 t457.length co51, .int .i64 t458] ?_
    with_reducible refine (dioramalaw10_eq.calls k _ _ t453 t454 _ _ t457 t458 true _ ?side1 ?side2 ?side3 ?side4 A10.out).mono ?_
    (case side1 => exact cr HO456)
    (case side2 => exact (Kd.R_reads' HO456.out).2.1)
    (case side3 => exact cr HO460)
    (case side4 => exact (Kd.R_reads' HO460.out).2.1)
    rintro e w' ⟨rfl, ⟨nd, rfl⟩⟩; refine ⟨_, rfl, ?_⟩; refine hK.out _ _ ⟨ct BK450 0, ct BK450 1, ct BK450 2⟩ (fun hHeld => ?_); clear hK K; refine zM 35 ?_; refine zP 5 36 35 63 ?_; refine zP 6 37 35 127 ?_; refine zP 8 39 35 383 ?_; refine zP 10 41 35 1407 ?_; refine zP 13 44 35 9599 ?_; refine zP 15 46 35 42367 ?_; refine zP 17 48 35 173439 ?_; refine zT 7 38 35 173567 hHeld ?_; refine zT 9 40 35 174079 hHeld ?_; refine zT 11 42 35 176127 hHeld ?_; refine zT 14 45 35 192511 hHeld ?_; refine zT 16 47 35 258047 hHeld ?_; refine zT 18 49 35 520191 hHeld ?_; refine zN 12 (some 43) 35 524287 (fun K hK => ?_); refine zG Try.func24 #[.slice A0_0 l0_0.length c0_0, .int .i64 a0_1, .int .i64 a0_2] ?_
    with_reducible refine (edit_Check.calls k _ _ l0_0 a0_1 a0_2 t462 _ ?side1 ?side2 A12.out).mono ?_
    (case side1 => repeat (first | exact (Kd.C_below HR0_0.out bz) | (with_reducible refine Kd.C_alloc ?_ _) | (with_reducible refine Kd.C_drewN ?_ _) | (with_reducible refine Kd.C_drew ?_)))
    (case side2 => exact HC0_0.out)
    rintro e w52 ⟨rfl, hb⟩; refine ⟨_, rfl, ?_⟩; replace HO456 := Aside0.mk (Kd.R_below (rz HO456) hb); replace HO460 := Aside0.mk (Kd.R_below (rz HO460) hb); replace BK450 := kb BK450 hb; replace HB := bp hb; clear hb; refine hK.out _ _ ⟨ct BK450 0, ct BK450 1, ct BK450 2⟩ (fun hHeld => ?_); clear hK K; refine zM 43 ?_; refine zN 19 (some 50) 35 1048575 (fun K hK => ?_); refine zG Try.func25 #[.slice A0_0 l0_0.length c0_0, .int .i64 a0_1, .int .i64 a0_2] ?_
    with_reducible refine (dioramaref10_Check.calls k _ _ l0_0 a0_1 a0_2 t463 _ ?side1 ?side2 A13.out).mono ?_
    (case side1 => exact cz HR0_0)
    (case side2 => exact HC0_0.out)
    rintro e w53 ⟨rfl, hb⟩; refine ⟨_, rfl, ?_⟩; replace HO456 := Aside0.mk (Kd.R_below (rz HO456) hb); replace HO460 := Aside0.mk (Kd.R_below (rz HO460) hb); replace BK450 := kb BK450 hb; replace HB := bp hb; clear hb; refine hK.out _ _ ⟨ct BK450 0, ct BK450 1, ct BK450 2⟩ (fun hHeld => ?_); clear hK K; refine zM 50 ?_; refine zP 20 51 35 2097151 ?_; refine zP 21 52 35 4194303 ?_; refine zP 22 53 35 8388607 ?_; refine zO 23 54 35 16777215 ?_; refine zO 24 55 35 33554431 ?_; refine zO 25 56 35 67108863 ?_; refine zO 26 57 35 134217727 ?_; refine zO 27 58 35 268435455 ?_; refine zO 28 59 35 536870911 ?_; refine zO 29 60 35 1073741823 ?_; refine zP 30 61 35 2147483647 ?_; refine zP 31 62 35 4294967295 ?_; refine zO 32 63 35 8589934591 ?_; refine zP 33 64 35 17179869183 ?_; refine zP 34 2 35 34359738367 ?_; refine done_ (by kernel_rfl) ?_
    try go_wp2
    go_ret
    exact ⟨ez, bz⟩
  ·obtain rfl := bf c11; rw [if_neg (show ¬ (false = true) by decide)] at H; obtain rfl := Option.some.inj H
   go_enter Try.func3, Try.ntmps3
   try go_wp2_with (first | ((with_reducible refine gate_dst (N := 1) rfl ?_); refine zB 1 24 #[.slice A0_0 l0_0.length c0_0, .int .i64 a0_1, .int .i64 a0_2] ?_; intro gb450 hg w54 hbox hb; have BK450 := Aside0.mk hbox; have GW450 := gz hg; have GE450 := gz hg; replace HB := bp hb; clear hb hbox hg; obtain ⟨hcz55_0, hcz55_1, hcz55_2, hfz55_0, hfz55_1, hfz55_2⟩ := xc3 BK450) | ((with_reducible refine gate_callee (f := 19) rfl ?_); refine zC 9 Try.func19 #[.slice A0_0 l0_0.length c0_0] ?_; (with_reducible refine (dioramalaw10_many.calls _ _ l0_0 false _ ?side1 ?side2 A2.out).mono ?_); (case side1 => exact cz HR0_0); (case side2 => exact HC0_0.out); rintro e w' ⟨rfl, ⟨nd, rfl⟩⟩; refine ⟨_, rfl, ?_⟩) | ((with_reducible refine gate_callee (f := 21) rfl ?_); refine zC 18 Try.func21 #[.slice A0_0 l0_0.length c0_0, .int .i64 a0_1, .int .i64 a0_2] ?_; (with_reducible refine (edit_Normal.calls k _ _ l0_0 a0_1 a0_2 t453 t454 _ ?side1 ?side2 A8.out).mono ?_); (case side1 => repeat (first | exact (Kd.C_below HR0_0.out bz) | (with_reducible refine Kd.C_alloc ?_ _) | (with_reducible refine Kd.C_drewN ?_ _) | (with_reducible refine Kd.C_drew ?_))); (case side2 => exact HC0_0.out); rintro e w56 ⟨v455, rfl, ho0, hb⟩; refine ⟨_, rfl, ?_⟩; have HO456 := Aside0.mk (Kd.R_lower ho0 sz); replace BK450 := kb BK450 hb; replace HB := bp hb; clear hb ho0; obtain ⟨hcz57_0, hcz57_1, hcz57_2, hfz57_0, hfz57_1, hfz57_2⟩ := xc3 BK450) | ((with_reducible refine gate_callee (f := 22) rfl ?_); refine zC 28 Try.func22 #[.slice A0_0 l0_0.length c0_0, .int .i64 a0_1, .int .i64 a0_2] ?_; (with_reducible refine (dioramaref10_Normal.calls k _ _ l0_0 a0_1 a0_2 t457 t458 _ ?side1 ?side2 A9.out).mono ?_); (case side1 => exact cz HR0_0); (case side2 => exact HC0_0.out); rintro e w58 ⟨v459, rfl, ho0, hb⟩; refine ⟨_, rfl, ?_⟩; have HO460 := Aside0.mk (Kd.R_lower (Kd.R_new' ho0 (Kd.R_lt (rz HO456))) sz); replace HO456 := Aside0.mk (Kd.R_elder' (rz HO456) (Kd.R_base ho0) hb); replace BK450 := kb BK450 hb; replace HB := bp hb; clear hb ho0))
   replace HO456 := Aside0.mk (Kd.R_drew HO456.out); replace HO460 := Aside0.mk (Kd.R_drew HO460.out); replace BK450 := Aside0.mk (blk_drew BK450.out); replace HB := Aside0.mk (below_drew1 HB.out); obtain ⟨Ao60, co60, eo60⟩ := Kd.R_slice HO456.out
   (first | subst eo60 | (injection eo60 with f1_ f2_ f3_; have f4_ := f1_.symm; have f5_ := f3_.symm; clear f1_ f2_ f3_; subst f4_; subst f5_))
   obtain ⟨Ao61, co61, eo61⟩ := Kd.R_slice HO460.out
   (first | subst eo61 | (injection eo61 with f1_ f2_ f3_; have f4_ := f1_.symm; have f5_ := f3_.symm; clear f1_ f2_ f3_; subst f4_; subst f5_))
   refine start_ (n := 35) (S := fun w' => True) (ds := []) (bs 35 0) (by kernel_rfl) rfl rfl trivial (fun hHeld => ?_); generalize w58.drew = w59 at HO456 HO460 BK450 HB hHeld ⊢; refine zP 0 31 35 1 ?_; refine zP 1 32 35 3 ?_; refine zP 2 33 35 7 ?_; refine zP 3 34 35 15 ?_; refine zN 4 (some 35) 35 31 (fun K hK => ?_); refine zG Try.func23 #[.slice Ao60 t453.length co60, .int .i64 t454, .slice Ao61 t457.length co61, .int .i64 t458] ?_
   with_reducible refine (dioramalaw10_eq.calls k _ _ t453 t454 _ _ t457 t458 false _ ?side1 ?side2 ?side3 ?side4 A10.out).mono ?_
   (case side1 => exact cr HO456)
   (case side2 => exact (Kd.R_reads' HO456.out).2.1)
   (case side3 => exact cr HO460)
   (case side4 => exact (Kd.R_reads' HO460.out).2.1)
   rintro e w' ⟨rfl, ⟨nd, rfl⟩⟩; refine ⟨_, rfl, ?_⟩; refine hK.out _ _ trivial (fun hHeld => ?_); clear hK K; refine zM 35 ?_; refine zP 5 36 35 63 ?_; refine zO 6 37 35 127 ?_; refine zO 7 38 35 255 ?_; refine zO 8 39 35 511 ?_; refine zO 9 40 35 1023 ?_; refine zO 10 41 35 2047 ?_; refine zO 11 42 35 4095 ?_; refine zO 12 43 35 8191 ?_; refine zO 13 44 35 16383 ?_; refine zO 14 45 35 32767 ?_; refine zO 15 46 35 65535 ?_; refine zO 16 47 35 131071 ?_; refine zO 17 48 35 262143 ?_; refine zO 18 49 35 524287 ?_; refine zO 19 50 35 1048575 ?_; refine zO 20 51 35 2097151 ?_; refine zP 21 52 35 4194303 ?_; refine zP 22 53 35 8388607 ?_; refine zO 23 54 35 16777215 ?_; refine zO 24 55 35 33554431 ?_; refine zO 25 56 35 67108863 ?_; refine zO 26 57 35 134217727 ?_; refine zO 27 58 35 268435455 ?_; refine zO 28 59 35 536870911 ?_; refine zO 29 60 35 1073741823 ?_; refine zP 30 61 35 2147483647 ?_; refine zP 31 62 35 4294967295 ?_; refine zO 32 63 35 8589934591 ?_; refine zP 33 64 35 17179869183 ?_; refine zP 34 2 35 34359738367 ?_; refine done_ (by kernel_rfl) ?_
   try go_wp2
   go_ret
   exact ⟨ez, bz⟩
end Go.Proofs.Ytpbhepdgamoiaaa.E
namespace Go.Proofs.Ytpbhepdgamoiaaa.Pa
open Go.RowKit Go.Proofs.Ytpbhepdgamoiaaa.P Go.Proofs.Ytpbhepdgamoiaaa.E Go.Proofs.YtpbhepdgamoiaaaW.PrintWords Go.Proofs.YtpbhepdgamoiaaaW.PrintLast Go.Proofs.Ytpbhepdgamoiaaa.Ml Go.Proofs.Ytpbhepdgamoiaaa.Mn
set_option linter.unusedVariables false
set_option linter.unusedSimpArgs false
abbrev Bd : Int := 1000000000
abbrev Nn (l : List Int) : Prop := Cn 1000000000 l
theorem top_cons {x : Int} {l : List Int} (h : Top l) (hx : l = [] → x ≠ 0) : Top (x :: l) := by
 intro hne
 cases l with
 | nil => simpa using hx rfl
 | cons y t =>
  rw [List.getLast_cons (by simp)]
  exact h (by simp)
theorem digit_f (l : List Int) (i : Nat) : dioramaref02_digit.f l (i : Int) = some (l.getD i 0) := by
 unfold dioramaref02_digit.f
 by_cases h : i < l.length
 ·rw [if_pos (by omega), if_pos (by omega), rd_nat]
 ·rw [if_neg (by omega), getD_ge (by omega)]
theorem tmodB {x : Int} (h : 0 ≤ x) : Int.tmod x 1000000000 = x % 1000000000 := Int.tmod_eq_emod_of_nonneg h
theorem tdivB {x : Int} (h : 0 ≤ x) : Int.tdiv x 1000000000 = x / 1000000000 := Int.tdiv_eq_ediv_of_nonneg h
theorem of_l (m : Nat) : ∀ (x : Int) (acc : List Int), 0 ≤ x → x < pw 1000000000 m → x ≤ 9223372036854775807 → acc.length + m ≤ 1000 → ∃ r, Ev (fun k => dioramaref02_Of.l0 k x acc) (acc ++ r) ∧ Nn r ∧ dv 1000000000 r = x ∧ r.length ≤ m := by
 induction m with
 | zero =>
  intro x acc h0 h1 _ _
  have hx : x = 0 := by simp [pw] at h1; omega
  subst hx
  exact ⟨[], Ev.step (f := fun _ => some (acc ++ [])) (fun k => by simp [dioramaref02_Of.l0]) (Ev.now _), Cn.nil _, rfl, Nat.le_refl _⟩
 | succ m ih =>
  intro x acc h0 h1 h2 hl
  by_cases hx : x = 0
  ·subst hx
   exact ⟨[], Ev.step (f := fun _ => some (acc ++ [])) (fun k => by simp [dioramaref02_Of.l0]) (Ev.now _), Cn.nil _, rfl, Nat.zero_le _⟩
  ·have hd : x / 1000000000 < pw 1000000000 m := by
    rw [pw_succ] at h1
    omega
   obtain ⟨r, he, hc, hv, hr⟩ := ih (x / 1000000000) (acc ++ [x % 1000000000]) (by omega) hd (by omega) (by simp; omega)
   refine ⟨x % 1000000000 :: r, ?_, ⟨Dg.cons (by omega) (by omega) hc.dg, top_cons hc.top (fun h => ?_)⟩, ?_, by simp; omega⟩
   ·rw [List.append_assoc, List.singleton_append] at he
    refine Ev.step (fun k => ?_) he
    simp only [dioramaref02_Of.l0]
    rw [if_pos (by omega), if_pos (by omega), tdivB h0, tmodB h0, w64 (by omega) (by omega)]
   ·subst h
    simp only [dv] at hv
    omega
   ·simp only [dv] at hv ⊢
    rw [hv]
    omega
theorem of_f (x : Int) (h0 : 0 ≤ x) (h1 : x ≤ 9223372036854775807) : ∃ r, Ev (fun k => dioramaref02_Of.f k x) r ∧ Nn r ∧ dv 1000000000 r = x ∧ r.length ≤ 3 := by
 obtain ⟨r, he, h⟩ := of_l 3 x [] h0 (by simp [pw]; omega) h1 (by simp)
 exact ⟨r, he, h⟩
theorem trimmed_l (l : List Int) (hd : Dg 1000000000 l) (hl : l.length ≤ 1000000) : ∀ n : Nat, n ≤ l.length → dv 1000000000 (l.take n) = dv 1000000000 l → ∃ r, Ev (fun k => dioramaref02_trimmed.l0 k l (n : Int)) r ∧ Nn r ∧ dv 1000000000 r = dv 1000000000 l ∧ r.length ≤ n := by
 intro n
 induction n with
 | zero =>
  intro _ hv
  refine ⟨[], Ev.step (f := fun _ => some []) (fun k => ?_) (Ev.now _), Cn.nil _, by rw [← hv]; rfl, Nat.le_refl _⟩
  simp [dioramaref02_trimmed.l0]
 | succ n ih =>
  intro hn hv
  have hw : wrap64 (((n + 1 : Nat) : Int) - 1) = (n : Int) := by rw [w64 (by omega) (by omega)]; omega
  by_cases hz : l.getD n 0 = 0
  ·obtain ⟨r, he, hc, hr, hlr⟩ := ih (by omega) (by rw [← hv] ; rw [dv_take_succ', hz]; omega)
   refine ⟨r, Ev.step (fun k => ?_) he, hc, hr, by omega⟩
   simp only [dioramaref02_trimmed.l0, hw, rd_nat]
   rw [if_pos (by omega), if_pos (by omega), if_pos (by omega), if_pos hz]
  ·refine ⟨l.take (n + 1), Ev.step (f := fun _ => some (l.take (n + 1))) (fun k => ?_) (Ev.now _), ⟨hd.take _, top_of_getD ?_⟩, hv, by simp; omega⟩
   ·simp only [dioramaref02_trimmed.l0, hw, rd_nat]
    rw [if_pos (by omega), if_pos (by omega), if_pos (by omega), if_neg hz, if_pos (by omega), if_pos (by omega), Int.toNat_natCast]
   ·rw [List.length_take, Nat.min_eq_left (by omega)]
    simp only [Nat.add_sub_cancel]
    rw [List.getD_eq_getElem?_getD, List.getElem?_take_of_lt (by omega), ← List.getD_eq_getElem?_getD]
    exact hz
theorem trimmed_f (l : List Int) (hd : Dg 1000000000 l) (hl : l.length ≤ 1000000) : ∃ r, Ev (fun k => dioramaref02_trimmed.f k l) r ∧ Nn r ∧ dv 1000000000 r = dv 1000000000 l ∧ r.length ≤ l.length :=
 trimmed_l l hd hl l.length (Nat.le_refl _) (by rw [List.take_length])
/-! ### comparison -/
theorem cmp1 {x y : Int} (h : x < y) : Nd.cmpI x y = -1 := by unfold Nd.cmpI; rw [if_pos h]
theorem cmp2 {x y : Int} (h : y < x) : Nd.cmpI x y = 1 := by unfold Nd.cmpI; rw [if_neg (by omega), if_pos h]
theorem cmp0 {x y : Int} (h : x = y) : Nd.cmpI x y = 0 := by unfold Nd.cmpI; rw [if_neg (by omega), if_neg (by omega)]
theorem compare_l (a b : List Int) (ha : Dg 1000000000 a) (hb : Dg 1000000000 b) (hl : a.length = b.length) (hn : a.length ≤ 1000000) : ∀ i : Nat, i ≤ a.length → dv 1000000000 (a.drop i) = dv 1000000000 (b.drop i) →
  Ev (fun k => dioramaref02_Compare.l0 k a b ((i : Int) - 1)) (Nd.cmpI (dv 1000000000 a) (dv 1000000000 b)) := by
 intro i
 induction i with
 | zero =>
  intro _ h
  refine Ev.step (f := fun _ => some 0) (fun k => ?_) (by rw [cmp0 (by simpa using h)]; exact Ev.now _)
  simp [dioramaref02_Compare.l0]
 | succ i ih =>
  intro hi h
  have e : (((i + 1 : Nat) : Int) - 1) = (i : Int) := by omega
  have hw : wrap64 ((i : Int) - 1) = (i : Int) - 1 := w64 (by omega) (by omega)
  rw [e]
  rcases Int.lt_trichotomy (a.getD i 0) (b.getD i 0) with h1 | h1 | h1
  ·rw [cmp1 (dv_less (by decide) ha hb hl i (by omega) h h1)]
   refine Ev.step (f := fun _ => some (-1)) (fun k => ?_) (Ev.now _)
   simp only [dioramaref02_Compare.l0, rd_nat]
   rw [if_pos (by omega), if_pos (by omega), if_pos (by omega), if_pos (by omega), if_pos h1]
  ·refine Ev.step (fun k => ?_) (ih (by omega) (by rw [dv_drop _ a i (by omega), dv_drop _ b i (by omega), h1, h]))
   simp only [dioramaref02_Compare.l0, rd_nat, hw]
   rw [if_pos (by omega), if_pos (by omega), if_pos (by omega), if_pos (by omega), if_neg (by omega), if_neg (by omega)]
  ·rw [cmp2 (dv_less (by decide) hb ha hl.symm i (by omega) h.symm h1)]
   refine Ev.step (f := fun _ => some 1) (fun k => ?_) (Ev.now _)
   simp only [dioramaref02_Compare.l0, rd_nat]
   rw [if_pos (by omega), if_pos (by omega), if_pos (by omega), if_pos (by omega), if_neg (by omega), if_pos h1]
theorem compare_f (a b : List Int) (ha : Nn a) (hb : Nn b) (hn : a.length ≤ 1000000) (hm : b.length ≤ 1000000) : Ev (fun k => dioramaref02_Compare.f k a b) (Nd.cmpI (dv 1000000000 a) (dv 1000000000 b)) := by
 by_cases hl : a.length = b.length
 ·have h := compare_l a b ha.dg hb.dg hl hn a.length (Nat.le_refl _) (by rw [List.drop_of_length_le (Nat.le_refl _), List.drop_of_length_le (by omega)])
  refine Ev.congr (fun k => ?_) h
  simp only [dioramaref02_Compare.f]
  rw [if_pos (by omega), w64 (by omega) (by omega)]
 ·by_cases h1 : a.length < b.length
  ·rw [cmp1 (dv_len (by decide) ha.dg hb h1)]
   refine Ev.congr (f := fun _ => some (-1)) (fun k => ?_) (Ev.now _)
   simp only [dioramaref02_Compare.f]
   rw [if_neg (by omega), if_pos (by omega)]
  ·rw [cmp2 (dv_len (by decide) hb.dg ha (by omega))]
   refine Ev.congr (f := fun _ => some 1) (fun k => ?_) (Ev.now _)
   simp only [dioramaref02_Compare.f]
   rw [if_neg (by omega), if_neg (by omega)]
end Go.Proofs.Ytpbhepdgamoiaaa.Pa
namespace Go.Proofs.Ytpbhepdgamoiaaa.Pb
open Go.RowKit Go.Proofs.Ytpbhepdgamoiaaa.P Go.Proofs.Ytpbhepdgamoiaaa.E Go.Proofs.YtpbhepdgamoiaaaW.PrintWords Go.Proofs.YtpbhepdgamoiaaaW.PrintLast Go.Proofs.Ytpbhepdgamoiaaa.Ml Go.Proofs.Ytpbhepdgamoiaaa.Mn Go.Proofs.Ytpbhepdgamoiaaa.Pa
set_option linter.unusedVariables false
set_option linter.unusedSimpArgs false
theorem nv_take_all {l : List Int} {n : Nat} (h : l.length ≤ n) : dv 1000000000 (l.take n) = dv 1000000000 l := by rw [List.take_of_length_le h]
theorem dg_snoc {l : List Int} {x : Int} (h : Dg 1000000000 l) (h0 : 0 ≤ x) (h1 : x < 1000000000) : Dg 1000000000 (l ++ [x]) := h.append (Dg.cons h0 h1 (Dg.nil _))
theorem w1 {i : Nat} (h : i ≤ 10000000) : wrap64 ((i : Int) + 1) = ((i + 1 : Nat) : Int) := by rw [w64 (by omega) (by omega)]; omega
/-! ### differences -/
theorem minus_l (a b : List Int) (ha : Dg 1000000000 a) (hb : Dg 1000000000 b) (hn : a.length ≤ 1000000) (hlb : b.length ≤ a.length) (hle : dv 1000000000 b ≤ dv 1000000000 a) :
  ∀ (d i : Nat) (out : List Int) (c : Int), i + d = a.length → out.length = i → Dg 1000000000 out → 0 ≤ c → c ≤ 1 → dv 1000000000 out = dv 1000000000 (a.take i) - dv 1000000000 (b.take i) + c * pw 1000000000 i →
  ∃ r, Ev (fun k => dioramaref02_Minus.l0 k a b out c (i : Int)) r ∧ Nn r ∧ dv 1000000000 r = dv 1000000000 a - dv 1000000000 b ∧ r.length ≤ a.length := by
 intro d
 induction d with
 | zero =>
  intro i out c hi hl hd h0 h1 hv
  obtain ⟨r, he, hc, hr, hlr⟩ := trimmed_f out hd (by omega)
  have hlt := dv_lt (by decide) hd
  rw [hl] at hlt
  rw [nv_take_all (by omega), nv_take_all (by omega)] at hv
  have c0 : c = 0 := by
   rcases (show c = 0 ∨ c = 1 by omega) with h | h
   ·exact h
   ·rw [h] at hv
    omega
  refine ⟨r, Ev.step (f := fun k => (dioramaref02_trimmed.f k out).bind fun t => some t) (fun k => ?_) (Ev.bind he (Ev.now _)), hc, by rw [hr, hv, c0]; omega, by omega⟩
  simp only [dioramaref02_Minus.l0]
  rw [if_neg (by omega)]
 | succ d ih =>
  intro i out c hi hl hd h0 h1 hv
  have hx := ha.getD (by decide) i
  have hy := hb.getD (by decide) i
  have e1 := dv_take_succ' 1000000000 a i
  have e2 := dv_take_succ' 1000000000 b i
  have e3 := pw_succ 1000000000 i
  generalize hxv : a.getD i 0 = x at *
  generalize hyv : b.getD i 0 = y at *
  have hw : wrap64 (wrap64 (x - y) - c) = x - y - c := by rw [w64 (x := x - y) (by omega) (by omega), w64 (by omega) (by omega)]
  have hw2 : wrap64 (x - y - c + 1000000000) = x - y - c + 1000000000 := w64 (by omega) (by omega)
  by_cases hneg : x - y - c < 0
  ·obtain ⟨r, he, h⟩ := ih (i + 1) (out ++ [x - y - c + 1000000000]) 1 (by omega) (by simp [hl]) (dg_snoc hd (by omega) (by omega)) (by decide) (by decide) (by
    rw [dv_snoc, hl, hv, e1, e2, e3]
    grind)
   refine ⟨r, Ev.step (fun k => ?_) he, h⟩
   simp only [dioramaref02_Minus.l0]
   rw [if_pos (by omega), digit_f, digit_f, hxv, hyv]
   simp only [Option.bind_some, hw, hw2]
   rw [if_pos hneg, if_pos (by omega), w1 (by omega)]
  ·obtain ⟨r, he, h⟩ := ih (i + 1) (out ++ [x - y - c]) 0 (by omega) (by simp [hl]) (dg_snoc hd (by omega) (by omega)) (by decide) (by decide) (by
    rw [dv_snoc, hl, hv, e1, e2]
    grind)
   refine ⟨r, Ev.step (fun k => ?_) he, h⟩
   simp only [dioramaref02_Minus.l0]
   rw [if_pos (by omega), digit_f, digit_f, hxv, hyv]
   simp only [Option.bind_some, hw, hw2]
   rw [if_neg hneg, if_pos (by omega), w1 (by omega)]
theorem len_le {a b : List Int} (ha : Nn a) (hb : Nn b) (h : dv 1000000000 b ≤ dv 1000000000 a) : b.length ≤ a.length := by
 refine Nat.le_of_not_lt fun hl => ?_
 have := dv_len (by decide) ha.dg hb hl
 omega
theorem minus_f (a b : List Int) (ha : Nn a) (hb : Nn b) (hn : a.length ≤ 1000000) (hle : dv 1000000000 b ≤ dv 1000000000 a) : ∃ r, Ev (fun k => dioramaref02_Minus.f k a b) r ∧ Nn r ∧ dv 1000000000 r = dv 1000000000 a - dv 1000000000 b ∧ r.length ≤ a.length :=
 minus_l a b ha.dg hb.dg hn (len_le ha hb hle) hle a.length 0 [] 0 (by omega) rfl (Dg.nil _) (by decide) (by decide) (by simp [dv])
/-! ### sums -/
theorem plus_l (a b : List Int) (ha : Nn a) (hb : Nn b) (hn : a.length ≤ 1000000) (hm : b.length ≤ 1000000) :
  ∀ (d i : Nat) (out : List Int) (c : Int), i + d = max a.length b.length + 1 → out.length = i → Dg 1000000000 out → 0 ≤ c → c ≤ 1 → (i ≤ max a.length b.length ∨ c = 0) → (i < a.length ∨ i < b.length ∨ 0 < c ∨ Top out) → dv 1000000000 out = dv 1000000000 (a.take i) + dv 1000000000 (b.take i) - c * pw 1000000000 i →
  ∃ r, Ev (fun k => dioramaref02_Plus.l0 k a b out c (i : Int)) r ∧ Nn r ∧ dv 1000000000 r = dv 1000000000 a + dv 1000000000 b ∧ r.length ≤ max a.length b.length + 1 := by
 intro d
 induction d with
 | zero =>
  intro i out c hi hl hd h0 h1 hic ht hv
  have c0 : c = 0 := by omega
  subst c0
  rw [nv_take_all (by omega), nv_take_all (by omega)] at hv
  refine ⟨out, Ev.step (f := fun k => dioramaref02_Plus.j1 k a b out 0 (i : Int) (decide ((0 : Int) > 0))) (fun k => ?_) (Ev.step (f := fun _ => some out) (fun k => ?_) (Ev.now _)), ⟨hd, ?_⟩, by rw [hv]; omega, by omega⟩
  ·simp only [dioramaref02_Plus.l0]
   rw [if_neg (by omega), if_neg (by omega)]
  ·simp [dioramaref02_Plus.j1]
  ·rcases ht with h | h | h | h
   ·omega
   ·omega
   ·omega
   ·exact h
 | succ d ih =>
  intro i out c hi hl hd h0 h1 hic ht hv
  by_cases hgo : i < a.length ∨ i < b.length ∨ 0 < c
  ·have hx := ha.dg.getD (by decide) i
   have hy := hb.dg.getD (by decide) i
   have e1 := dv_take_succ' 1000000000 a i
   have e2 := dv_take_succ' 1000000000 b i
   have e3 := pw_succ 1000000000 i
   have zx : a.length ≤ i → a.getD i 0 = 0 := fun h => getD_ge h
   have zy : b.length ≤ i → b.getD i 0 = 0 := fun h => getD_ge h
   have tx : i + 1 = a.length → a.getD i 0 ≠ 0 := fun h => by have := top_getD ha.top (by omega); rwa [← h, Nat.add_sub_cancel] at this
   have ty : i + 1 = b.length → b.getD i 0 ≠ 0 := fun h => by have := top_getD hb.top (by omega); rwa [← h, Nat.add_sub_cancel] at this
   generalize hxv : a.getD i 0 = x at *
   generalize hyv : b.getD i 0 = y at *
   have hw : wrap64 (wrap64 (x + y) + c) = x + y + c := by rw [w64 (x := x + y) (by omega) (by omega), w64 (by omega) (by omega)]
   have hw2 : wrap64 ((x + y + c) / 1000000000) = (x + y + c) / 1000000000 := w64 (by omega) (by omega)
   obtain ⟨r, he, h⟩ := ih (i + 1) (out ++ [(x + y + c) % 1000000000]) ((x + y + c) / 1000000000) (by omega) (by simp [hl]) (dg_snoc hd (by omega) (by omega)) (by omega) (by omega)
    (by
     by_cases hmx : i < max a.length b.length
     ·left; omega
     ·right
      rw [zx (by omega), zy (by omega)]
      omega)
    (by
     by_cases g1 : i + 1 < a.length
     ·exact .inl g1
     ·by_cases g2 : i + 1 < b.length
      ·exact .inr (.inl g2)
      ·by_cases g3 : 0 < (x + y + c) / 1000000000
       ·exact .inr (.inr (.inl g3))
       ·refine .inr (.inr (.inr (top_of_getD ?_)))
        have hne : (x + y + c) % 1000000000 ≠ 0 := by
         rcases hgo with g | g | g
         ·have := tx (by omega); omega
         ·have := ty (by omega); omega
         ·omega
        simp only [List.length_append, List.length_singleton, Nat.add_sub_cancel]
        rw [List.getD_eq_getElem?_getD, List.getElem?_append_right (Nat.le_refl _)]
        simpa using hne)
    (by
     rw [dv_snoc, hl, hv, e1, e2, e3]
     have hdm := Int.mul_ediv_add_emod (x + y + c) 1000000000
     generalize (x + y + c) / 1000000000 = Q at *
     generalize (x + y + c) % 1000000000 = R at *
     have : R = x + y + c - 1000000000 * Q := by omega
     subst this
     grind)
   refine ⟨r, ?_, h⟩
   have hj : Ev (fun k => dioramaref02_Plus.j1 k a b out c (i : Int) true) r := by
    refine Ev.step (fun k => ?_) he
    simp only [dioramaref02_Plus.j1, if_true]
    rw [digit_f, digit_f, hxv, hyv]
    simp only [Option.bind_some, hw]
    rw [if_pos (by omega), tmodB (by omega), tdivB (by omega), hw2, w1 (by omega)]
   refine Ev.step (fun k => ?_) hj
   simp only [dioramaref02_Plus.l0]
   by_cases g1 : i < a.length
   ·rw [if_pos (by omega)]
   ·rw [if_neg (by omega)]
    by_cases g2 : i < b.length
    ·rw [if_pos (by omega)]
    ·rw [if_neg (by omega), decide_eq_true (show c > 0 by omega)]
  ·have c0 : c = 0 := by omega
   subst c0
   rw [nv_take_all (by omega), nv_take_all (by omega)] at hv
   refine ⟨out, Ev.step (f := fun k => dioramaref02_Plus.j1 k a b out 0 (i : Int) (decide ((0 : Int) > 0))) (fun k => ?_) (Ev.step (f := fun _ => some out) (fun k => ?_) (Ev.now _)), ⟨hd, ?_⟩, by rw [hv]; omega, by omega⟩
   ·simp only [dioramaref02_Plus.l0]
    rw [if_neg (by omega), if_neg (by omega)]
   ·simp [dioramaref02_Plus.j1]
   ·rcases ht with h | h | h | h
    ·omega
    ·omega
    ·omega
    ·exact h
theorem plus_f (a b : List Int) (ha : Nn a) (hb : Nn b) (hn : a.length ≤ 1000000) (hm : b.length ≤ 1000000) : ∃ r, Ev (fun k => dioramaref02_Plus.f k a b) r ∧ Nn r ∧ dv 1000000000 r = dv 1000000000 a + dv 1000000000 b ∧ r.length ≤ max a.length b.length + 1 :=
 plus_l a b ha hb hn hm (max a.length b.length + 1) 0 [] 0 (by omega) rfl (Dg.nil _) (by decide) (by decide) (.inr rfl) (.inr (.inr (.inr (fun h => absurd rfl h)))) (by simp [dv])
/-! ### products -/
theorem mulB {c x y o : Int} (hc0 : 0 ≤ c) (hc1 : c < 1000000000) (hx0 : 0 ≤ x) (hx1 : x < 1000000000) (hy0 : 0 ≤ y) (hy1 : y < 1000000000) (ho0 : 0 ≤ o) (ho1 : o < 1000000000) :
  wrap64 (wrap64 (o + wrap64 (x * y)) + c) = o + x * y + c ∧ 0 ≤ o + x * y + c ∧ wrap64 (Int.tdiv (o + x * y + c) 1000000000) = (o + x * y + c) / 1000000000 ∧ (o + x * y + c) / 1000000000 < 1000000000 := by
 obtain ⟨h1, h2⟩ := mul_lt_sq hx0 hx1 hy0 hy1
 have h2' : x * y ≤ 999999998000000001 := h2
 rw [w64 (x := x * y) (by omega) (by omega), w64 (x := o + x * y) (by omega) (by omega), w64 (x := o + x * y + c) (by omega) (by omega), tdivB (by omega), w64 (by omega) (by omega)]
 refine ⟨rfl, by omega, rfl, by omega⟩
set_option maxHeartbeats 1000000 in
theorem times_l1 (a b : List Int) (i : Nat) (x : Int) (hx : a.getD i 0 = x) (hi : i < a.length) (hb : Dg 1000000000 b) (hx0 : 0 ≤ x) (hx1 : x < 1000000000) (hn : a.length + b.length ≤ 1000000) :
  ∀ (d j : Nat) (out : List Int) (c : Int), j + d = b.length → Dg 1000000000 out → out.length = a.length + b.length → 0 ≤ c → c < 1000000000 → (∀ m, i + b.length ≤ m → out.getD m 0 = 0) →
  ∃ out', (∀ r, Ev (fun k => dioramaref02_Times.l0 k a b out' ((i + 1 : Nat) : Int)) r → Ev (fun k => dioramaref02_Times.l1 k a b out (i : Int) c (j : Int)) r) ∧ out'.length = a.length + b.length ∧ Dg 1000000000 out' ∧
   dv 1000000000 out' = dv 1000000000 out + c * pw 1000000000 (i + j) + x * dv 1000000000 (b.drop j) * pw 1000000000 (i + j) ∧ ∀ m, i + 1 + b.length ≤ m → out'.getD m 0 = 0 := by
 intro d
 induction d with
 | zero =>
  intro j out c hj hd hl h0 h1 hz
  obtain rfl : j = b.length := by omega
  have hend : ∀ (out : List Int) (j : Nat) r, b.length ≤ j → Ev (fun k => dioramaref02_Times.l0 k a b out ((i + 1 : Nat) : Int)) r → Ev (fun k => dioramaref02_Times.l1 k a b out (i : Int) 0 (j : Int)) r := by
   intro out j r hj he
   refine Ev.step (fun k => ?_) he
   simp only [dioramaref02_Times.l1]
   rw [if_neg (by omega), if_neg (by omega), w1 (by omega)]
  rw [List.drop_of_length_le (Nat.le_refl _)]
  by_cases hc : c = 0
  ·subst hc
   exact ⟨out, fun r he => hend out _ r (Nat.le_refl _) he, hl, hd, by simp [dv], fun m hm => hz m (by omega)⟩
  ·refine ⟨out.set (i + b.length) c, fun r he => ?_, by simp [hl], hd.set _ h0 h1, ?_, fun m hm => by rw [getD_set (by omega)]; exact hz m (by omega)⟩
   ·have h2 := hend (out.set (i + b.length) c) (b.length + 1) r (by omega) he
    refine Ev.step (fun k => ?_) h2
    have hw : wrap64 ((i : Int) + (b.length : Int)) = ((i + b.length : Nat) : Int) := by rw [w64 (by omega) (by omega)]; omega
    obtain ⟨g1, g2, g3, g4⟩ := mulB (o := 0) (y := 0) h0 h1 hx0 hx1 (by decide) (by decide) (by decide) (by decide)
    have e0 : (0 : Int) + x * 0 + c = c := by omega
    rw [e0] at g1 g3
    simp only [dioramaref02_Times.l1, hw, rd_nat, hx, Int.toNat_natCast]
    rw [if_neg (by omega), if_pos (by omega), if_pos (by omega), if_pos (by omega), if_pos (by omega), if_pos (by omega), digit_f, getD_ge (Nat.le_refl _), hz _ (Nat.le_refl _)]
    simp only [Option.bind_some, g1, g3]
    rw [tmodB h0, Int.emod_eq_of_lt h0 h1, Int.ediv_eq_zero_of_lt h0 h1, w1 (by omega)]
   ·rw [dv_set _ _ _ _ (by omega), hz _ (Nat.le_refl _)]
    simp [dv]
 | succ d ih =>
  intro j out c hj hd hl h0 h1 hz
  have hy := hb.getD (by decide) j
  have ho := hd.getD (by decide) (i + j)
  have c1 : (j : Int) < (b.length : Int) := by omega
  have c2 : 0 ≤ ((i + j : Nat) : Int) := by omega
  have c3 : ((i + j : Nat) : Int) < (out.length : Int) := by omega
  have c4 : 0 ≤ (i : Int) := by omega
  have c5 : (i : Int) < (a.length : Int) := by omega
  have c6 : i + j < out.length := by omega
  have c7 : j < b.length := by omega
  have hw : wrap64 ((i : Int) + (j : Int)) = ((i + j : Nat) : Int) := by rw [w64 (by omega) (by omega)]; omega
  have hw1 := w1 (i := j) (by omega)
  have HW := Aside0.mk (And.intro hw hw1)
  clear hw hw1
  generalize hyv : b.getD j 0 = y at *
  generalize hov : out.getD (i + j) 0 = o at *
  obtain ⟨g1, g2, g3, g4⟩ := mulB h0 h1 hx0 hx1 hy.1 hy.2 ho.1 ho.2
  have gm := Int.mul_ediv_add_emod (o + x * y + c) 1000000000
  have gr0 := Int.emod_nonneg (o + x * y + c) (show (1000000000 : Int) ≠ 0 by decide)
  have gr1 := Int.emod_lt_of_pos (o + x * y + c) (show (0 : Int) < 1000000000 by decide)
  have gq0 : 0 ≤ (o + x * y + c) / 1000000000 := Int.ediv_nonneg g2 (by decide)
  have gt := tmodB g2
  generalize (o + x * y + c) / 1000000000 = q at *
  generalize (o + x * y + c) % 1000000000 = r' at *
  have hs : r' + 1000000000 * q = c + (x * y + o) := by clear g1 g3 gt; omega
  have HG := Aside0.mk (And.intro g1 (And.intro g3 gt))
  clear g1 g3 gt gm
  obtain ⟨out', k1, k2, k3, k4, k5⟩ := ih (j + 1) (out.set (i + j) r') q (by omega) (hd.set _ gr0 gr1) (by simp [hl]) gq0 g4 (fun m hm => by rw [getD_set (by omega)]; exact hz m hm)
  refine ⟨out', fun r he => ?_, k2, k3, ?_, k5⟩
  ·refine Ev.step (fun k => ?_) (k1 r he)
   simp only [dioramaref02_Times.l1, HW.out.1, rd_nat, hx, Int.toNat_natCast]
   rw [if_pos c1, if_pos c2, if_pos c3, if_pos c4, if_pos c5, digit_f, hyv, hov]
   simp only [Option.bind_some, HG.out.1, HG.out.2.1, HG.out.2.2, HW.out.2]
  ·rw [k4, dv_set _ _ _ _ c6, hov, dv_drop 1000000000 b j c7, hyv, ← Nat.add_assoc, pw_succ]
   exact (mul_step hs).symm
theorem times_l0 (a b : List Int) (ha : Dg 1000000000 a) (hb : Dg 1000000000 b) (hn : a.length + b.length ≤ 1000000) :
  ∀ (d i : Nat) (out : List Int), i + d = a.length → Dg 1000000000 out → out.length = a.length + b.length → dv 1000000000 out = dv 1000000000 (a.take i) * dv 1000000000 b → (∀ m, i + b.length ≤ m → out.getD m 0 = 0) →
  ∃ r, Ev (fun k => dioramaref02_Times.l0 k a b out (i : Int)) r ∧ Nn r ∧ dv 1000000000 r = dv 1000000000 a * dv 1000000000 b ∧ r.length ≤ a.length + b.length := by
 intro d
 induction d with
 | zero =>
  intro i out hi hd hl hv hz
  obtain ⟨r, he, hc, hr, hlr⟩ := trimmed_f out hd (by omega)
  refine ⟨r, Ev.step (f := fun k => (dioramaref02_trimmed.f k out).bind fun t => some t) (fun k => ?_) (Ev.bind he (Ev.now _)), hc, by rw [hr, hv, nv_take_all (by omega)], by omega⟩
  simp only [dioramaref02_Times.l0]
  rw [if_neg (by omega)]
 | succ d ih =>
  intro i out hi hd hl hv hz
  have hx := ha.getD (by decide) i
  obtain ⟨out', k1, k2, k3, k4, k5⟩ := times_l1 a b i (a.getD i 0) rfl (by omega) hb hx.1 hx.2 hn b.length 0 out 0 (by omega) hd hl (by decide) (by decide) hz
  obtain ⟨r, he, h⟩ := ih (i + 1) out' (by omega) k3 k2 (by
   rw [k4, hv, dv_take_succ' _ a i]
   simp only [List.drop_zero, Nat.add_zero]
   grind) (fun m hm => k5 m (by omega))
  refine ⟨r, Ev.step (fun k => ?_) (k1 r he), h⟩
  simp only [dioramaref02_Times.l0]
  rw [if_pos (by omega)]
  rfl
theorem times_f (a b : List Int) (ha : Nn a) (hb : Nn b) (hn : a.length + b.length ≤ 1000000) : ∃ r, Ev (fun k => dioramaref02_Times.f k a b) r ∧ Nn r ∧ dv 1000000000 r = dv 1000000000 a * dv 1000000000 b ∧ r.length ≤ a.length + b.length := by
 have e1 : wrap64 ((a.length : Int) + (b.length : Int)) = ((a.length + b.length : Nat) : Int) := by rw [w64 (by omega) (by omega)]; omega
 obtain ⟨r, he, h⟩ := times_l0 a b ha.dg hb.dg hn a.length 0 (List.replicate (a.length + b.length) 0) (by omega) (Dg.replicate (by decide) _) (by simp) (by rw [dv_replicate]; simp [dv]) (fun m _ => by
  rw [List.getD_eq_getElem?_getD, List.getElem?_replicate]
  split <;> rfl)
 refine ⟨r, Ev.congr (fun k => ?_) he, h⟩
 simp only [dioramaref02_Times.f, e1, Int.toNat_natCast]
 rw [if_pos (by omega), if_pos (by omega)]
 rfl
/-! ### small numbers -/
theorem drop_le (l : List Int) (hd : Dg 1000000000 l) (i : Nat) : dv 1000000000 (l.drop i) ≤ dv 1000000000 l ∧ 0 ≤ dv 1000000000 (l.drop i) := by
 have h0 := dv_nonneg (by decide) (hd.drop i)
 refine ⟨?_, h0⟩
 by_cases hi : i ≤ l.length
 ·have h1 := dv_split 1000000000 l i hi
  have h2 := dv_nonneg (by decide) (hd.take i)
  have h3 : 0 < pw 1000000000 i := pow_pos (by decide) i
  have h4 : 1 * dv 1000000000 (l.drop i) ≤ pw 1000000000 i * dv 1000000000 (l.drop i) := Int.mul_le_mul_of_nonneg_right (by omega) h0
  omega
 ·rw [List.drop_of_length_le (by omega)]
  exact dv_nonneg (by decide) hd
theorem small_l (l : List Int) (hd : Dg 1000000000 l) (hn : l.length ≤ 1000000) (hs : dv 1000000000 l ≤ 9223372036854775807) : ∀ i : Nat, i ≤ l.length → Ev (fun k => dioramaref02_Small.l0 k l (dv 1000000000 (l.drop i)) ((i : Int) - 1)) (dv 1000000000 l, true) := by
 intro i
 induction i with
 | zero =>
  intro _
  refine Ev.step (f := fun _ => some (dv 1000000000 l, true)) (fun k => ?_) (Ev.now _)
  simp [dioramaref02_Small.l0]
 | succ i ih =>
  intro hi
  have e : (((i + 1 : Nat) : Int) - 1) = (i : Int) := by omega
  have h1 := dv_drop 1000000000 l i (by omega)
  have h2 := drop_le l hd i
  have h3 := drop_le l hd (i + 1)
  have hx := hd.getD (by decide) i
  rw [e]
  refine Ev.step (fun k => ?_) (ih (by omega))
  simp only [dioramaref02_Small.l0, rd_nat]
  rw [if_pos (by omega), if_pos (by omega), if_pos (by omega), w64 (x := _ * 1000000000) (by omega) (by omega), w64 (x := _ + _) (by omega) (by omega), w64 (x := (i : Int) - 1) (by omega) (by omega), h1]
  congr 1
  omega
theorem small_f (l : List Int) (most : Int) (hl : Nn l) (hn : l.length ≤ 1000000) (h0 : 0 ≤ most) (h1 : most ≤ 9223372036854775807) : Ev (fun k => dioramaref02_Small.f k l most) (if most < dv 1000000000 l then (0, false) else (dv 1000000000 l, true)) := by
 obtain ⟨r, he, hr, hv, hlr⟩ := of_f most h0 h1
 have hc := compare_f l r hl hr hn (by omega)
 rw [hv] at hc
 by_cases hb : most < dv 1000000000 l
 ·rw [if_pos hb]
  rw [cmp2 hb] at hc
  exact Ev.bind he (Ev.bind hc (Ev.congr (f := fun _ => some (0, false)) (fun k => by simp) (Ev.now _)))
 ·rw [if_neg hb]
  have hle : ¬ (Nd.cmpI (dv 1000000000 l) most > 0) := by
   unfold Nd.cmpI
   by_cases h2 : dv 1000000000 l < most
   ·rw [if_pos h2]; decide
   ·rw [if_neg h2, if_neg hb]; decide
  have h2 := small_l l hl.dg hn (by omega) l.length (Nat.le_refl _)
  rw [List.drop_of_length_le (Nat.le_refl _)] at h2
  refine Ev.bind he (Ev.bind hc (Ev.congr (fun k => ?_) h2))
  rw [if_neg hle, w64 (by omega) (by omega)]
  rfl
end Go.Proofs.Ytpbhepdgamoiaaa.Pb
namespace Go.Proofs.Ytpbhepdgamoiaaa.Pe
open Go.RowKit Go Go.Proofs.YtpbhepdgamoiaaaW.PrintWords Go.Proofs.YtpbhepdgamoiaaaW.PrintLast Go.Proofs.YtpbhepdgamoiaaaW.PrintMore Go.Proofs.Ytpbhepdgamoiaaa.Mn Go.Proofs.Ytpbhepdgamoiaaa.Rf Go.Proofs.Ytpbhepdgamoiaaa.Er Go.Proofs.Ytpbhepdgamoiaaa.Ek Go.Proofs.Ytpbhepdgamoiaaa.E
set_option linter.unusedVariables false
set_option linter.unusedSimpArgs false
abbrev Ed := S77
structure Vd (x : Ed) : Prop where
 d0 : 1 ≤ x.f0
 d1 : x.f0 ≤ 1099511627776
 m0 : -1 ≤ x.f1
 m1 : x.f1 ≤ 1099511627776
 n0 : 0 ≤ x.f2
 n1 : x.f2 ≤ 1000
 e0 : 1 ≤ x.f3
 e1 : x.f3 ≤ 1000
 em : x.f1 < 0 → x.f2 = 1 ∧ x.f3 = 1
instance (x : Ed) : Decidable (Vd x) :=
 decidable_of_iff (1 ≤ x.f0 ∧ x.f0 ≤ 1099511627776 ∧ -1 ≤ x.f1 ∧ x.f1 ≤ 1099511627776 ∧ 0 ≤ x.f2 ∧ x.f2 ≤ 1000 ∧ 1 ≤ x.f3 ∧ x.f3 ≤ 1000 ∧ (x.f1 < 0 → x.f2 = 1 ∧ x.f3 = 1))
  ⟨fun ⟨a, b, c, d, e, f, g, h, i⟩ => ⟨a, b, c, d, e, f, g, h, i⟩, fun h => ⟨h.d0, h.d1, h.m0, h.m1, h.n0, h.n1, h.e0, h.e1, h.em⟩⟩
structure Ck (ms ts : Int) : Prop where
 m0 : 1 ≤ ms
 m1 : ms ≤ 1000000
 t0 : 1 ≤ ts
 t1 : ts ≤ 1000000
instance (ms ts : Int) : Decidable (Ck ms ts) :=
 decidable_of_iff (1 ≤ ms ∧ ms ≤ 1000000 ∧ 1 ≤ ts ∧ ts ≤ 1000000) ⟨fun ⟨a, b, c, d⟩ => ⟨a, b, c, d⟩, fun h => ⟨h.m0, h.m1, h.t0, h.t1⟩⟩
theorem valid_f (x : Ed) : edit_valid.f x.f0 x.f1 x.f2 x.f3 = some true ∧ Vd x ∨ edit_valid.f x.f0 x.f1 x.f2 x.f3 = some false ∧ ¬ Vd x := by
 unfold edit_valid.f
 by_cases h1 : x.f0 < 1
 ·rw [if_pos h1]; exact .inr ⟨rfl, fun h => by have := h.d0; omega⟩
 rw [if_neg h1]
 by_cases h2 : x.f0 > 1099511627776
 ·rw [if_pos h2]; exact .inr ⟨rfl, fun h => by have := h.d1; omega⟩
 rw [if_neg h2]
 by_cases h3 : x.f1 < -1
 ·rw [if_pos h3]; exact .inr ⟨rfl, fun h => by have := h.m0; omega⟩
 rw [if_neg h3]
 by_cases h4 : x.f1 > 1099511627776
 ·rw [if_pos h4]; exact .inr ⟨rfl, fun h => by have := h.m1; omega⟩
 rw [if_neg h4]
 by_cases h5 : x.f2 < 0
 ·rw [if_pos h5]; exact .inr ⟨rfl, fun h => by have := h.n0; omega⟩
 rw [if_neg h5]
 by_cases h6 : x.f2 > 1000
 ·rw [if_pos h6]; exact .inr ⟨rfl, fun h => by have := h.n1; omega⟩
 rw [if_neg h6]
 by_cases h7 : x.f3 < 1
 ·rw [if_pos h7]; exact .inr ⟨rfl, fun h => by have := h.e0; omega⟩
 rw [if_neg h7]
 by_cases h8 : x.f3 > 1000
 ·rw [if_pos h8]; exact .inr ⟨rfl, fun h => by have := h.e1; omega⟩
 rw [if_neg h8]
 by_cases h9 : x.f1 ≥ 0
 ·rw [if_pos h9]; exact .inl ⟨rfl, ⟨by omega, by omega, by omega, by omega, by omega, by omega, by omega, by omega, fun h => by omega⟩⟩
 rw [if_neg h9]
 by_cases h10 : x.f2 = 1
 ·rw [if_pos h10]
  by_cases h11 : x.f3 = 1
  ·rw [h11]; exact .inl ⟨rfl, ⟨by omega, by omega, by omega, by omega, by omega, by omega, by omega, by omega, fun h => by omega⟩⟩
  ·exact .inr ⟨by simp [h11], fun h => by have := h.em (by omega); omega⟩
 ·rw [if_neg h10]; exact .inr ⟨rfl, fun h => by have := h.em (by omega); omega⟩
def chk (l : List Ed) (ms ts : Int) : Int := if ¬ Ck ms ts then 1 else if 20 < l.length then 2 else if (∀ x ∈ l, Vd x) ∧ sumD l ≤ 1099511627776 then 0 else 33
theorem chk_ok {l : List Ed} {ms ts : Int} : chk l ms ts = 0 ↔ Ck ms ts ∧ l.length ≤ 20 ∧ (∀ x ∈ l, Vd x) ∧ sumD l ≤ 1099511627776 := by
 unfold chk
 constructor
 ·intro h
  by_cases h1 : Ck ms ts
  ·rw [if_neg (not_not_intro h1)] at h
   by_cases h2 : 20 < l.length
   ·rw [if_pos h2] at h; cases h
   ·rw [if_neg h2] at h
    by_cases h3 : (∀ x ∈ l, Vd x) ∧ sumD l ≤ 1099511627776
    ·exact ⟨h1, by omega, h3.1, h3.2⟩
    ·rw [if_neg h3] at h; cases h
  ·rw [if_pos h1] at h; cases h
 ·rintro ⟨h1, h2, h3, h4⟩
  rw [if_neg (not_not_intro h1), if_neg (by omega), if_pos ⟨h3, h4⟩]
theorem rd_at (pre : List Ed) (x : Ed) (rest : List Ed) : rd_T77 (pre ++ x :: rest) (pre.length : Int) = x := by
 unfold rd_T77
 simp [List.getD_eq_getElem?_getD]
theorem sumD_nonneg {l : List Ed} (h : ∀ x ∈ l, Vd x) : 0 ≤ sumD l := by
 induction l with
 | nil => simp [sumD]
 | cons x t ih =>
  have h1 := (h x (by simp)).d0
  have h2 := ih (fun y hy => h y (by simp [hy]))
  simp only [sumD]
  omega
theorem sumD_le {l : List Ed} (h : ∀ x ∈ l, Vd x) : sumD l ≤ 1099511627776 * l.length := by
 induction l with
 | nil => simp [sumD]
 | cons x t ih =>
  have h1 := (h x (by simp)).d1
  have h2 := ih (fun y hy => h y (by simp [hy]))
  simp only [sumD, List.length_cons]
  omega
theorem check_l (l : List Ed) (hl : l.length ≤ 20) (rest : List Ed) : ∀ pre, l = pre ++ rest → (∀ x ∈ pre, Vd x) → Ev (fun k => edit_Check.l0 k (sumD pre) l (l.length : Int) (pre.length : Int)) (if (∀ x ∈ rest, Vd x) ∧ sumD l ≤ 1099511627776 then 0 else 33) := by
 induction rest with
 | nil =>
  intro pre he hp
  subst he
  refine Ev.step (f := fun _ => some (if (∀ x ∈ ([] : List Ed), Vd x) ∧ sumD (pre ++ []) ≤ 1099511627776 then 0 else 33)) (fun k => ?_) (Ev.now _)
  simp only [edit_Check.l0, List.append_nil]
  rw [if_neg (by omega)]
  by_cases h : sumD pre > 1099511627776
  ·rw [if_pos h, if_neg (by intro hh; omega)]
  ·rw [if_neg h, if_pos ⟨by simp, by omega⟩]
 | cons x t ih =>
  intro pre he hp
  have hlen : l.length = pre.length + (t.length + 1) := by rw [he]; simp
  have hx : rd_T77 l (pre.length : Int) = x := by rw [he]; exact rd_at pre x t
  rcases valid_f x with ⟨hv, hV⟩ | ⟨hv, hV⟩
  ·have hs : sumD (pre ++ [x]) = sumD pre + x.f0 := by rw [sumD_app]; simp [sumD]
   have hb := sumD_le hp
   have h0 := sumD_nonneg hp
   have hr := ih (pre ++ [x]) (by rw [he]; simp) (by intro y hy; simp only [List.mem_append, List.mem_singleton] at hy; rcases hy with hy | rfl; exact hp y hy; exact hV)
   refine Ev.step (fun k => ?_) (Ev.congr (f := fun k => edit_Check.l0 k (sumD (pre ++ [x])) l (l.length : Int) ((pre ++ [x]).length : Int)) (fun k => rfl) ?_)
   ·simp only [edit_Check.l0]
    rw [if_pos (by omega), if_pos (by omega), if_pos (by omega), hx, hv]
    simp only [Option.bind_some, if_true]
    rw [w64 (by have := hV.d0; omega) (by have := hV.d1; omega), w64 (by omega) (by omega), hs]
    simp
   ·have e : ((∀ y ∈ x :: t, Vd y) ∧ sumD l ≤ 1099511627776) = ((∀ y ∈ t, Vd y) ∧ sumD l ≤ 1099511627776) := by
     apply propext
     constructor
     ·rintro ⟨h1, h2⟩; exact ⟨fun y hy => h1 y (by simp [hy]), h2⟩
     ·rintro ⟨h1, h2⟩; exact ⟨fun y hy => by simp only [List.mem_cons] at hy; rcases hy with rfl | hy; exact hV; exact h1 y hy, h2⟩
    simp only [e]
    exact hr
  ·refine Ev.step (f := fun _ => some 33) (fun k => ?_) ?_
   ·simp only [edit_Check.l0]
    rw [if_pos (by omega), if_pos (by omega), if_pos (by omega), hx, hv]
    simp
   ·rw [if_neg (fun h => hV (h.1 x (by simp)))]
    exact Ev.now _
theorem scale_f (n : Int) : edit_isScale.f n = some (decide (1 ≤ n ∧ n ≤ 1000000)) := by
 unfold edit_isScale.f
 by_cases h : n ≥ 1
 ·rw [if_pos h]; simp; omega
 ·rw [if_neg h]; simp; omega
theorem check_f (l : List Ed) (ms ts : Int) : Ev (fun k => edit_Check.f k l ms ts) (chk l ms ts) := by
 have h0 : ∀ b, Ev (fun k => edit_Check.j0 k l b) (if b = true then 1 else if 20 < l.length then 2 else if (∀ x ∈ l, Vd x) ∧ sumD l ≤ 1099511627776 then 0 else 33) := by
  intro b
  by_cases hb : b = true
  ·rw [if_pos hb]
   refine Ev.step (f := fun _ => some 1) (fun k => ?_) (Ev.now _)
   simp only [edit_Check.j0]
   rw [if_pos hb]
  ·rw [if_neg hb]
   by_cases hl : 20 < l.length
   ·rw [if_pos hl]
    refine Ev.step (f := fun _ => some 2) (fun k => ?_) (Ev.now _)
    simp only [edit_Check.j0]
    rw [if_neg hb, if_pos (by omega)]
   ·rw [if_neg hl]
    refine Ev.step (fun k => ?_) (check_l l (by omega) l [] rfl (by simp))
    simp only [edit_Check.j0]
    rw [if_neg hb, if_neg (by omega)]
    rfl
 unfold chk
 by_cases h1 : 1 ≤ ms ∧ ms ≤ 1000000
 ·by_cases h2 : 1 ≤ ts ∧ ts ≤ 1000000
  ·rw [if_neg (not_not_intro ⟨h1.1, h1.2, h2.1, h2.2⟩)]
   refine Ev.congr (fun k => ?_) (h0 false)
   unfold edit_Check.f
   rw [scale_f, scale_f, decide_eq_true h1, decide_eq_true h2]
   rfl
  ·rw [if_pos (fun h => h2 ⟨h.t0, h.t1⟩)]
   refine Ev.congr (fun k => ?_) (h0 true)
   unfold edit_Check.f
   rw [scale_f, scale_f, decide_eq_true h1, decide_eq_false h2]
   rfl
 ·rw [if_pos (fun h => h1 ⟨h.m0, h.m1⟩)]
  refine Ev.congr (fun k => ?_) (h0 true)
  unfold edit_Check.f
  rw [scale_f, decide_eq_false h1]
  rfl
end Go.Proofs.Ytpbhepdgamoiaaa.Pe
namespace Go.Proofs.Ytpbhepdgamoiaaa.Pf
open Go.RowKit Go Go.Proofs.YtpbhepdgamoiaaaW.PrintWords Go.Proofs.YtpbhepdgamoiaaaW.PrintLast Go.Proofs.YtpbhepdgamoiaaaW.PrintMore Go.Proofs.Ytpbhepdgamoiaaa.Mn Go.Proofs.Ytpbhepdgamoiaaa.Rf Go.Proofs.Ytpbhepdgamoiaaa.Er Go.Proofs.Ytpbhepdgamoiaaa.Ek Go.Proofs.Ytpbhepdgamoiaaa.E Go.Proofs.Ytpbhepdgamoiaaa.Pe
set_option linter.unusedVariables false
set_option linter.unusedSimpArgs false
def lowV (x : Ed) : Ed := ⟨x.f0, x.f1, (qq x.f2 x.f3).num, ((qq x.f2 x.f3).den : Int)⟩
def ovV (ms ts : Int) (a b : Ed) : Bool := overB ms ts a.f0 a.f1 a.f2 a.f3 b.f1 b.f2 b.f3
def push (ms ts : Int) : List Ed → Ed → List Ed
 | [], e => [e]
 | a :: t, e => if ovV ms ts a e = true then ⟨a.f0 + e.f0, a.f1, a.f2, a.f3⟩ :: t else e :: a :: t
def nrmR (ms ts : Int) (out l : List Ed) : List Ed := (l.map lowV).foldl (push ms ts) out
def nrm (ms ts : Int) (l : List Ed) : List Ed := (nrmR ms ts [] l).reverse
def fin (out : List Ed) : List Ed × Int := if 20 < out.length then ([], 2) else (out.reverse, 0)
def nrmV (ms ts : Int) (l : List Ed) : List Ed × Int := if 1099511627776 < sumD l then ([], 2) else fin (nrmR ms ts [] l)
structure Wd (x : Ed) : Prop where
 d0 : 1 ≤ x.f0
 m0 : -1 ≤ x.f1
 m1 : x.f1 ≤ 1099511627776
 n0 : 0 ≤ x.f2
 n1 : x.f2 ≤ 1000
 e0 : 1 ≤ x.f3
 e1 : x.f3 ≤ 1000
theorem wd_low {x : Ed} (h : Vd x) : Wd (lowV x) := by
 have hq := qq_low h.n0 h.e0
 have h1 := h.n1
 have h2 := h.e1
 exact ⟨h.d0, h.m0, h.m1, hq.1, by unfold lowV; simp only; omega, hq.2.2.1, by unfold lowV; simp only; omega⟩
theorem low_f {x : Ed} (h : Vd x) : edit_lowest.f x.f0 x.f1 x.f2 x.f3 = some ((lowV x).f0, (lowV x).f1, (lowV x).f2, (lowV x).f3) := by
 unfold edit_lowest.f rateOk
 have h0 := h.n0
 have h1 := h.n1
 have h2 := h.e0
 have h3 := h.e1
 rw [decide_eq_true h0, decide_eq_true (show x.f2 ≤ 1000000 by omega), decide_eq_true h2, decide_eq_true (show x.f3 ≤ 1000000 by omega)]
 rfl
theorem over_f {ms ts : Int} {a b : Ed} (hc : Ck ms ts) (ha : Wd a) (hd : a.f0 ≤ 1099511627776) (hb : Wd b) : edit_clocks_over.f ms ts a.f0 a.f1 a.f2 a.f3 b.f0 b.f1 b.f2 b.f3 = some (ovV ms ts a b) := by
 unfold edit_clocks_over.f overOk in64
 have c0 := hc.m0
 have c1 := hc.m1
 have c2 := hc.t0
 have c3 := hc.t1
 have a0 := ha.d0
 have a1 := ha.m0
 have a2 := ha.m1
 have a3 := ha.n0
 have a4 := ha.n1
 have a5 := ha.e0
 have a6 := ha.e1
 have b1 := hb.m0
 have b2 := hb.m1
 rw [if_pos (by simp only [Bool.and_eq_true, decide_eq_true_eq]; omega)]
 rfl
theorem sumD_rev (l : List Ed) : sumD l.reverse = sumD l := by
 induction l with
 | nil => rfl
 | cons x t ih => rw [List.reverse_cons, sumD_app, ih]; simp only [sumD]; omega
theorem push_sum (ms ts : Int) (out : List Ed) (e : Ed) : sumD (push ms ts out e) = sumD out + e.f0 := by
 cases out with
 | nil => simp [push, sumD]
 | cons a t =>
  simp only [push]
  split
  ·simp only [sumD]; omega
  ·simp only [sumD]; omega
theorem push_wd {ms ts : Int} {out : List Ed} {e : Ed} (h : ∀ x ∈ out, Wd x) (he : Wd e) : ∀ x ∈ push ms ts out e, Wd x := by
 cases out with
 | nil => simpa [push] using he
 | cons a t =>
  have ha := h a (by simp)
  simp only [push]
  split
  ·intro x hx
   simp only [List.mem_cons] at hx
   rcases hx with rfl | hx
   ·have a0 := ha.d0
    have e0 := he.d0
    exact ⟨by simp only; omega, ha.m0, ha.m1, ha.n0, ha.n1, ha.e0, ha.e1⟩
   ·exact h x (by simp [hx])
  ·intro x hx
   simp only [List.mem_cons] at hx
   rcases hx with rfl | hx
   ·exact he
   ·exact h x (by simpa using hx)
theorem push_len (ms ts : Int) (out : List Ed) (e : Ed) : (push ms ts out e).length ≤ out.length + 1 := by
 cases out with
 | nil => simp [push]
 | cons a t =>
  simp only [push]
  split <;> simp
theorem wd_sum {l : List Ed} (h : ∀ x ∈ l, Wd x) : 0 ≤ sumD l := by
 induction l with
 | nil => simp [sumD]
 | cons x t ih =>
  have h1 := (h x (by simp)).d0
  have h2 := ih (fun y hy => h y (by simp [hy]))
  simp only [sumD]
  omega
theorem normal_l {ms ts : Int} (hc : Ck ms ts) (l : List Ed) (hV : ∀ x ∈ l, Vd x) (hl : l.length ≤ 1000000000) (rest : List Ed) :
  ∀ pre out, l = pre ++ rest → sumD out = sumD pre → sumD pre ≤ 1099511627776 → (∀ x ∈ out, Wd x) → out.length ≤ pre.length →
   Ev (fun k => edit_clocks_normal.l0 k out.reverse (sumD pre) l (l.length : Int) (pre.length : Int) ms ts) (if 1099511627776 < sumD l then ([], 2) else fin (nrmR ms ts out rest)) := by
 induction rest with
 | nil =>
  intro pre out he hs hp hw ho
  subst he
  rw [if_neg (by simp only [List.append_nil]; omega)]
  refine Ev.step (f := fun _ => some (fin (nrmR ms ts out []))) (fun k => ?_) (Ev.now _)
  simp only [edit_clocks_normal.l0, List.append_nil]
  rw [if_neg (by omega)]
  unfold fin nrmR
  simp only [List.map_nil, List.foldl_nil, List.length_reverse]
  by_cases h : 20 < out.length
  ·rw [if_pos h, if_pos (by omega)]
  ·rw [if_neg h, if_neg (by omega)]
 | cons x t ih =>
  intro pre out he hs hp hw ho
  have hlen : l.length = pre.length + (t.length + 1) := by rw [he]; simp
  have hx : rd_T77 l (pre.length : Int) = x := by rw [he]; exact rd_at pre x t
  have hvx : Vd x := hV x (by rw [he]; simp)
  have hst : 0 ≤ sumD t := sumD_nonneg (fun y hy => hV y (by rw [he]; simp [hy]))
  have hsl : sumD l = sumD pre + x.f0 + sumD t := by rw [he, sumD_app]; simp only [sumD]; omega
  have hs0 : 0 ≤ sumD pre := by rw [← hs]; exact wd_sum hw
  have hd0 := hvx.d0
  have hd1 := hvx.d1
  have hsp : sumD (pre ++ [x]) = sumD pre + x.f0 := by rw [sumD_app]; simp [sumD]
  by_cases hbig : sumD pre + x.f0 > 1099511627776
  ·rw [if_pos (by omega)]
   refine Ev.step (f := fun _ => some ([], 2)) (fun k => ?_) (Ev.now _)
   simp only [edit_clocks_normal.l0]
   rw [if_pos (by omega), if_pos (by omega), if_pos (by omega), hx, low_f hvx]
   simp only [Option.bind_some]
   rw [show (lowV x).f0 = x.f0 from rfl, w64 (by omega) (by omega), if_pos hbig]
  ·have hwl := wd_low hvx
   have hr := ih (pre ++ [x]) (push ms ts out (lowV x)) (by rw [he]; simp) (by rw [push_sum, hs, hsp]; rfl) (by omega) (push_wd hw hwl) (by have := push_len ms ts out (lowV x); simp only [List.length_append, List.length_cons, List.length_nil]; omega)
   have hn : nrmR ms ts out (x :: t) = nrmR ms ts (push ms ts out (lowV x)) t := rfl
   rw [hn]
   refine Ev.step (f := fun k => edit_clocks_normal.l1 k out.reverse (sumD (pre ++ [x])) (out.reverse.length : Int) l (l.length : Int) (pre.length : Int) ms ts (lowV x).f0 (lowV x).f1 (lowV x).f2 (lowV x).f3) (fun k => ?_) ?_
   ·simp only [edit_clocks_normal.l0]
    rw [if_pos (by omega), if_pos (by omega), if_pos (by omega), hx, low_f hvx]
    simp only [Option.bind_some]
    rw [show (lowV x).f0 = x.f0 from rfl, w64 (by omega) (by omega), if_neg hbig, hsp]
   ·refine Ev.step (f := fun k => edit_clocks_normal.l0 k (push ms ts out (lowV x)).reverse (sumD (pre ++ [x])) l (l.length : Int) ((pre ++ [x]).length : Int) ms ts) (fun k => ?_) hr
    simp only [edit_clocks_normal.l1]
    have hpl : wrap64 ((pre.length : Int) + 1) = ((pre ++ [x]).length : Int) := by rw [w64 (by omega) (by omega)]; simp
    rw [hpl]
    cases out with
    | nil =>
     rw [if_neg (show ¬ (([] : List Ed).reverse.length : Int) > 0 by simp), if_pos (show ([] : List Ed).reverse.length < 4398046511104 by simp)]
     rfl
    | cons a o =>
     have hla : (a :: o).reverse.length = o.length + 1 := by simp
     have hra : rd_T77 (a :: o).reverse (o.length : Int) = a := by
      rw [List.reverse_cons]
      have := rd_at o.reverse a []
      rw [List.length_reverse] at this
      exact this
     have hol : o.length + 1 ≤ pre.length := ho
     have hsa := wd_sum (l := o) (fun y hy => hw y (by simp [hy]))
     have hda : a.f0 ≤ 1099511627776 := by simp only [sumD] at hs; omega
     rw [hla, if_pos (by omega), w64 (by omega) (by omega), show ((o.length + 1 : Nat) : Int) - 1 = (o.length : Int) by omega, if_pos (by omega), if_pos (by omega), hra]
     have ha0 := (hw a (by simp)).d0
     have hov : edit_clocks_over.f ms ts a.f0 a.f1 a.f2 a.f3 (lowV x).f0 (lowV x).f1 (lowV x).f2 (lowV x).f3 = some (ovV ms ts a (lowV x)) := over_f hc (hw a (by simp)) hda hwl
     rw [hov]
     simp only [Option.bind_some, push]
     by_cases hb : ovV ms ts a (lowV x) = true
     ·rw [if_pos hb, if_pos hb]
      have hf : (lowV x).f0 = x.f0 := rfl
      simp only [sumD] at hs
      rw [w64 (by rw [hf]; omega) (by rw [hf]; omega)]
      congr 1
      rw [List.reverse_cons, List.reverse_cons, Int.toNat_natCast]
      have : o.length = o.reverse.length := by simp
      rw [this, List.set_append_right _ _ (Nat.le_refl _)]
      simp
     ·rw [if_neg hb, if_neg hb, if_pos (by omega)]
      congr 1
      simp
theorem normal_f {ms ts : Int} (hc : Ck ms ts) (l : List Ed) (hV : ∀ x ∈ l, Vd x) (hl : l.length ≤ 1000000000) : Ev (fun k => edit_clocks_normal.f k ms ts l) (nrmV ms ts l) :=
 normal_l hc l hV hl l [] [] rfl rfl (by simp [sumD]) (by simp) (by simp)
theorem nrmR_sum (ms ts : Int) (l : List Ed) : ∀ out, sumD (nrmR ms ts out l) = sumD out + sumD l := by
 induction l with
 | nil => intro out; simp [nrmR, sumD]
 | cons x t ih =>
  intro out
  have h := ih (push ms ts out (lowV x))
  have hn : nrmR ms ts out (x :: t) = nrmR ms ts (push ms ts out (lowV x)) t := rfl
  rw [hn, h, push_sum]
  simp only [sumD]
  have : (lowV x).f0 = x.f0 := rfl
  omega
theorem nrm_sum (ms ts : Int) (l : List Ed) : sumD (nrm ms ts l) = sumD l := by
 unfold nrm
 rw [sumD_rev, nrmR_sum]
 simp [sumD]
theorem nrmR_len (ms ts : Int) (l : List Ed) : ∀ out, (nrmR ms ts out l).length ≤ out.length + l.length := by
 induction l with
 | nil => intro out; simp [nrmR]
 | cons x t ih =>
  intro out
  have h := ih (push ms ts out (lowV x))
  have hn : nrmR ms ts out (x :: t) = nrmR ms ts (push ms ts out (lowV x)) t := rfl
  have h2 := push_len ms ts out (lowV x)
  rw [hn]
  simp only [List.length_cons]
  omega
theorem nrm_len (ms ts : Int) (l : List Ed) : (nrm ms ts l).length ≤ l.length := by
 have := nrmR_len ms ts l []
 unfold nrm
 simp only [List.length_reverse, List.length_nil] at this ⊢
 omega
def norV (ms ts : Int) (l : List Ed) : List Ed × Int := if chk l ms ts = 0 then (nrm ms ts l, 0) else ([], chk l ms ts)
theorem Normal_f (l : List Ed) (ms ts : Int) : Ev (fun k => edit_Normal.f k l ms ts) (norV ms ts l) := by
 unfold norV
 by_cases h0 : chk l ms ts = 0
 ·obtain ⟨hc, hl, hV, hs⟩ := chk_ok.1 h0
  rw [if_pos h0]
  have hr : nrmV ms ts l = (nrm ms ts l, 0) := by
   have := nrmR_len ms ts l []
   simp only [List.length_nil] at this
   unfold nrmV fin nrm
   rw [if_neg (by omega), if_neg (by omega)]
  have h1 := check_f l ms ts
  rw [h0] at h1
  refine Ev.congr (fun k => rfl) (Ev.bind h1 ?_)
  refine Ev.congr (fun k => if_pos rfl) (Ev.bind (normal_f hc l hV (by omega)) ?_)
  rw [hr]
  exact Ev.now _
 ·rw [if_neg h0]
  refine Ev.congr (fun k => rfl) (Ev.bind (check_f l ms ts) ?_)
  refine Ev.congr (fun k => if_neg h0) (Ev.now _)
end Go.Proofs.Ytpbhepdgamoiaaa.Pf
namespace Go.Proofs.Ytpbhepdgamoiaaa.Qr
open Go.RowKit Go Go.Proofs.YtpbhepdgamoiaaaW.PrintWords Go.Proofs.YtpbhepdgamoiaaaW.PrintLast Go.Proofs.YtpbhepdgamoiaaaW.PrintMore Go.Proofs.Ytpbhepdgamoiaaa.Ml Go.Proofs.Ytpbhepdgamoiaaa.Mn Go.Proofs.Ytpbhepdgamoiaaa.Nd Go.Proofs.Ytpbhepdgamoiaaa.Pa Go.Proofs.Ytpbhepdgamoiaaa.Pb Go.Proofs.Ytpbhepdgamoiaaa.Rf Go.Proofs.Ytpbhepdgamoiaaa.Er Go.Proofs.Ytpbhepdgamoiaaa.Ek Go.Proofs.Ytpbhepdgamoiaaa.E Go.Proofs.Ytpbhepdgamoiaaa.Pe Go.Proofs.Ytpbhepdgamoiaaa.Pf
set_option linter.unusedVariables false
set_option linter.unusedSimpArgs false
structure RV (b : Bool) (x y : List Int) (q : Rat) (n : Nat) : Prop where
 nx : Nn x
 ny : Nn y
 pos : 0 < dv 1000000000 y
 eq : q = qq (sg b (dv 1000000000 x)) (dv 1000000000 y)
 lx : x.length ≤ n
 ly : y.length ≤ n
theorem RV.mono {b : Bool} {x y : List Int} {q : Rat} {n m : Nat} (h : RV b x y q n) (hm : n ≤ m) : RV b x y q m := ⟨h.nx, h.ny, h.pos, h.eq, Nat.le_trans h.lx hm, Nat.le_trans h.ly hm⟩
theorem RV.x0 {b : Bool} {x y : List Int} {q : Rat} {n : Nat} (h : RV b x y q n) : 0 ≤ dv 1000000000 x := dv_nonneg (by decide) h.nx.dg
def RE (f : Nat → Option (Bool × List Int × List Int)) (q : Rat) (n : Nat) : Prop := ∃ b x y, Ev f (b, x, y) ∧ RV b x y q n
theorem qq_parts {a b : Int} (hb : 0 < b) : ∃ g : Int, 0 < g ∧ a = (qq a b).num * g ∧ b = ((qq a b).den : Int) * g := by
 obtain ⟨h1, h2⟩ := rat_low (a := a) (b := b) (by omega)
 refine ⟨(Int.gcd a b : Nat), ?_, ?_, ?_⟩
 ·have := Int.gcd_pos_of_ne_zero_right a (show b ≠ 0 by omega)
  omega
 ·rw [← h1]
  unfold Ra.ratN Ea.lowN
  rw [if_neg (by omega)]
  exact (Int.ediv_mul_cancel (Int.gcd_dvd_left a b)).symm
 ·rw [← h2]
  unfold Ra.ratD Ea.lowD
  rw [if_neg (by omega)]
  exact (Int.ediv_mul_cancel (Int.gcd_dvd_right a b)).symm
theorem qq_lt {a b c d : Int} (hb : 0 < b) (hd : 0 < d) : qq a b < qq c d ↔ a * d < c * b := by
 obtain ⟨g, hg, e1, e2⟩ := qq_parts (a := a) hb
 obtain ⟨h, hh, e3, e4⟩ := qq_parts (a := c) hd
 rw [Rat.lt_iff]
 generalize (qq a b).num = N1 at *
 generalize ((qq a b).den : Int) = D1 at *
 generalize (qq c d).num = N2 at *
 generalize ((qq c d).den : Int) = D2 at *
 subst e1 e2 e3 e4
 have k1 : N1 * g * (D2 * h) = N1 * D2 * (g * h) := by grind
 have k2 : N2 * h * (D1 * g) = N2 * D1 * (g * h) := by grind
 rw [k1, k2]
 exact (Int.mul_lt_mul_right (Int.mul_pos hg hh)).symm
theorem ratio_f (n d : Int) (hn : -9223372036854775807 ≤ n) (hn1 : n ≤ 9223372036854775807) (hd : 0 < d) (hd1 : d ≤ 9223372036854775807) : RE (fun k => dioramaref10_ratio.f k n d) (qq n d) 3 := by
 obtain ⟨y, ey, ny, vy, ly⟩ := of_f d (by omega) hd1
 by_cases h : n < 0
 ·obtain ⟨x, ex, nx, vx, lx⟩ := of_f (-n) (by omega) (by omega)
  refine ⟨true, x, y, ?_, ⟨nx, ny, by rw [vy]; exact hd, by rw [vx, vy]; simp [sg], lx, ly⟩⟩
  refine Ev.congr (fun k => if_pos h) ?_
  rw [w64 (by omega) (by omega)]
  exact Ev.bind ex (Ev.bind ey (Ev.now _))
 ·obtain ⟨x, ex, nx, vx, lx⟩ := of_f n (by omega) hn1
  refine ⟨false, x, y, ?_, ⟨nx, ny, by rw [vy]; exact hd, by rw [vx, vy]; simp [sg], lx, ly⟩⟩
  refine Ev.congr (fun k => if_neg h) ?_
  exact Ev.bind ex (Ev.bind ey (Ev.now _))
theorem sg_ne (a b : Bool) (x y : Int) : sg (a != b) (x * y) = sg a x * sg b y := by cases a <;> cases b <;> simp [sg, Int.neg_mul, Int.mul_neg]
theorem timesR_f {b1 b2 : Bool} {x1 y1 x2 y2 : List Int} {p q : Rat} {n m : Nat} (h1 : RV b1 x1 y1 p n) (h2 : RV b2 x2 y2 q m) (hl : n + m ≤ 1000000) : RE (fun k => dioramaref10_times.f k b1 x1 y1 b2 x2 y2) (p * q) (n + m) := by
 have l1 := h1.lx
 have l2 := h1.ly
 have l3 := h2.lx
 have l4 := h2.ly
 obtain ⟨x, ex, nx, vx, lx⟩ := times_f x1 x2 h1.nx h2.nx (by omega)
 obtain ⟨y, ey, ny, vy, ly⟩ := times_f y1 y2 h1.ny h2.ny (by omega)
 refine ⟨b1 != b2, x, y, Ev.congr (fun k => rfl) (Ev.bind ex (Ev.bind ey (Ev.now _))), ⟨nx, ny, by rw [vy]; exact Int.mul_pos h1.pos h2.pos, ?_, by omega, by omega⟩⟩
 rw [h1.eq, h2.eq, vx, vy, sg_ne]
 unfold qq
 rw [Rat.divInt_mul_divInt]
theorem sumR_f {b1 b2 : Bool} {x1 y1 x2 y2 : List Int} {p q : Rat} {n m : Nat} (h1 : RV b1 x1 y1 p n) (h2 : RV b2 x2 y2 q m) (hl : n + m + 2 ≤ 1000000) : RE (fun k => dioramaref02_Sum.f k b1 x1 y1 b2 x2 y2) (p + q) (n + m + 1) := by
 have l1 := h1.lx
 have l2 := h1.ly
 have l3 := h2.lx
 have l4 := h2.ly
 obtain ⟨u, eu, nu, vu, lu⟩ := times_f x1 y2 h1.nx h2.ny (by omega)
 obtain ⟨v, ev, nv, vv, lv⟩ := times_f x2 y1 h2.nx h1.ny (by omega)
 obtain ⟨y, ey, ny, vy, ly⟩ := times_f y1 y2 h1.ny h2.ny (by omega)
 have hpos : 0 < dv 1000000000 y := by rw [vy]; exact Int.mul_pos h1.pos h2.pos
 have heq : p + q = qq (sg b1 (dv 1000000000 u) + sg b2 (dv 1000000000 v)) (dv 1000000000 y) := by
  have e1 : sg b1 (dv 1000000000 u) = sg b1 (dv 1000000000 x1) * dv 1000000000 y2 := by rw [vu]; cases b1 <;> simp [sg, Int.neg_mul]
  have e2 : sg b2 (dv 1000000000 v) = sg b2 (dv 1000000000 x2) * dv 1000000000 y1 := by rw [vv]; cases b2 <;> simp [sg, Int.neg_mul]
  rw [h1.eq, h2.eq, vy, e1, e2]
  unfold qq
  rw [Rat.divInt_add_divInt _ _ (by have := h1.pos; omega) (by have := h2.pos; omega)]
 by_cases hb : b1 = b2
 ·subst hb
  obtain ⟨s, es, ns, vs, ls⟩ := plus_f u v nu nv (by omega) (by omega)
  refine ⟨b1, s, y, ?_, ⟨ns, ny, hpos, ?_, by omega, by omega⟩⟩
  ·refine Ev.congr (fun k => rfl) (Ev.bind eu (Ev.bind ev (Ev.bind ey ?_)))
   exact Ev.congr (fun k => if_pos (by simp)) (Ev.bind es (Ev.now _))
  ·rw [heq, vs]
   cases b1
   ·simp [sg]
   ·simp [sg, Int.neg_add]
 ·have hc := compare_f u v nu nv (by omega) (by omega)
  have hne : ¬ (b1 == b2) = true := by simpa using hb
  by_cases hle : dv 1000000000 v ≤ dv 1000000000 u
  ·obtain ⟨s, es, ns, vs, ls⟩ := minus_f u v nu nv (by omega) hle
   refine ⟨b1, s, y, ?_, ⟨ns, ny, hpos, ?_, by omega, by omega⟩⟩
   ·refine Ev.congr (fun k => rfl) (Ev.bind eu (Ev.bind ev (Ev.bind ey ?_)))
    refine Ev.congr (fun k => if_neg hne) (Ev.bind hc ?_)
    refine Ev.congr (fun k => if_pos ?_) (Ev.bind es (Ev.now _))
    unfold cmpI
    rw [if_neg (by omega)]
    split <;> decide
   ·rw [heq, vs]
    cases b1 <;> cases b2 <;> simp [sg] at hb ⊢ <;> congr 1 <;> omega
  ·obtain ⟨s, es, ns, vs, ls⟩ := minus_f v u nv nu (by omega) (by omega)
   refine ⟨b2, s, y, ?_, ⟨ns, ny, hpos, ?_, by omega, by omega⟩⟩
   ·refine Ev.congr (fun k => rfl) (Ev.bind eu (Ev.bind ev (Ev.bind ey ?_)))
    refine Ev.congr (fun k => if_neg hne) (Ev.bind hc ?_)
    refine Ev.congr (fun k => if_neg ?_) (Ev.bind es (Ev.now _))
    unfold cmpI
    rw [if_pos (by omega)]
    decide
   ·rw [heq, vs]
    cases b1 <;> cases b2 <;> simp [sg] at hb ⊢ <;> congr 1 <;> omega
theorem plusR_f {b1 b2 : Bool} {x1 y1 x2 y2 : List Int} {p q : Rat} {n m : Nat} (h1 : RV b1 x1 y1 p n) (h2 : RV b2 x2 y2 q m) (hl : n + m + 2 ≤ 1000000) : RE (fun k => dioramaref10_plus.f k b1 x1 y1 b2 x2 y2) (p + q) (n + m + 1) := by
 obtain ⟨b, x, y, he, hv⟩ := sumR_f h1 h2 hl
 exact ⟨b, x, y, Ev.congr (fun k => rfl) (Ev.bind he (Ev.now _)), hv⟩
theorem RV.neg {b : Bool} {x y : List Int} {q : Rat} {n : Nat} (h : RV b x y q n) : RV (!b) x y (-q) n := by
 refine ⟨h.nx, h.ny, h.pos, ?_, h.lx, h.ly⟩
 rw [h.eq]
 unfold qq
 rw [Rat.neg_divInt]
 congr 1
 cases b <;> simp [sg]
theorem RV.sign {b : Bool} {x y : List Int} {q : Rat} {n : Nat} (h : RV b x y q n) : (b && decide ((x.length : Int) > 0)) = decide (q < 0) := by
 have h0 := h.x0
 have hz := dv_eq_zero (by decide) h.nx
 have hq : q < 0 ↔ sg b (dv 1000000000 x) < 0 := by
  have e : (0 : Rat) = qq 0 1 := by unfold qq; simp
  rw [h.eq, e, qq_lt h.pos (by decide)]
  simp
 rw [Bool.eq_iff_iff]
 simp only [Bool.and_eq_true, decide_eq_true_eq, hq]
 have hl : (x.length : Int) > 0 ↔ dv 1000000000 x ≠ 0 := by
  rw [ne_eq, hz]
  cases x <;> simp
 rw [hl]
 cases b
 ·simp [sg]; omega
 ·simp [sg]; omega
theorem lessR_f {b1 b2 : Bool} {x1 y1 x2 y2 : List Int} {p q : Rat} {n m : Nat} (h1 : RV b1 x1 y1 p n) (h2 : RV b2 x2 y2 q m) (hl : n + m + 2 ≤ 1000000) : Ev (fun k => dioramaref02_Less.f k b1 x1 y1 b2 x2 y2) (decide (p < q)) := by
 obtain ⟨b, x, y, he, hv⟩ := sumR_f h1 h2.neg hl
 have hs := hv.sign
 have e : decide (p + -q < 0) = decide (p < q) := by
  congr 1
  apply propext
  constructor <;> intro h <;> grind
 rw [e] at hs
 refine Ev.congr (fun k => rfl) (Ev.bind he ?_)
 cases b with
 | true =>
  refine Ev.congr (fun k => if_pos rfl) ?_
  rw [← hs]
  exact Ev.now _
 | false =>
  refine Ev.congr (f := fun _ => some false) (fun k => if_neg (by simp)) ?_
  rw [← hs]
  exact Ev.now _
theorem equalR_f {b1 b2 : Bool} {x1 y1 x2 y2 : List Int} {p q : Rat} {n m : Nat} (h1 : RV b1 x1 y1 p n) (h2 : RV b2 x2 y2 q m) (hl : n + m + 2 ≤ 1000000) : Ev (fun k => dioramaref10_equal.f k b1 x1 y1 b2 x2 y2) (decide (p = q)) := by
 refine Ev.congr (fun k => rfl) (Ev.bind (lessR_f h1 h2 hl) ?_)
 by_cases h : p < q
 ·rw [decide_eq_true h, decide_eq_false (by intro e; subst e; exact Rat.lt_irrefl h)]
  exact Ev.congr (fun k => if_pos rfl) (Ev.now _)
 ·rw [decide_eq_false h]
  refine Ev.congr (fun k => if_neg (by decide)) (Ev.bind (lessR_f h2 h1 (by omega)) ?_)
  have e : (!decide (q < p)) = decide (p = q) := by
   rw [Bool.eq_iff_iff]
   simp only [Bool.not_eq_true', decide_eq_false_iff_not, decide_eq_true_eq]
   constructor
   ·intro h2; grind
   ·intro e; subst e; exact h
  rw [e]
  exact Ev.now _
theorem rate_f (d m n e : Int) (hn : 0 ≤ n) (hn1 : n ≤ 1000000) (he : 1 ≤ e) (he1 : e ≤ 1000000) : RE (fun k => dioramaref10_rate.f k d m n e) (qq n e) 3 := by
 obtain ⟨b, x, y, he, hv⟩ := ratio_f n e (by omega) (by omega) (by omega) (by omega)
 exact ⟨b, x, y, Ev.congr (fun k => rfl) (Ev.bind he (Ev.now _)), hv⟩
theorem media_f {b : Bool} {x y : List Int} {p : Rat} {N : Nat} (d m n e ts : Int) (hn : 0 ≤ n) (hn1 : n ≤ 1000000) (he : 1 ≤ e) (he1 : e ≤ 1000000) (hm : -9223372036854775807 ≤ m) (hm1 : m ≤ 9223372036854775807) (ht : 1 ≤ ts) (ht1 : ts ≤ 1000000) (h : RV b x y p N) (hl : N ≤ 1000) :
  RE (fun k => dioramaref10_media.f k d m n e ts b x y) (qq m ts + p * qq n e) (N + 7) := by
 obtain ⟨b1, x1, y1, e1, v1⟩ := ratio_f m ts hm hm1 (by omega) (by omega)
 obtain ⟨b2, x2, y2, e2, v2⟩ := rate_f d m n e hn hn1 he he1
 obtain ⟨b3, x3, y3, e3, v3⟩ := timesR_f h v2 (by omega)
 obtain ⟨b4, x4, y4, e4, v4⟩ := plusR_f v1 v3 (by omega)
 exact ⟨b4, x4, y4, Ev.congr (fun k => rfl) (Ev.bind e1 (Ev.bind e2 (Ev.bind e3 (Ev.bind e4 (Ev.now _))))), v4.mono (by omega)⟩
end Go.Proofs.Ytpbhepdgamoiaaa.Qr
namespace Go.Proofs.Ytpbhepdgamoiaaa.Pg
open Go.RowKit Go Go.Proofs.YtpbhepdgamoiaaaW.PrintWords Go.Proofs.YtpbhepdgamoiaaaW.PrintLast Go.Proofs.YtpbhepdgamoiaaaW.PrintMore Go.Proofs.Ytpbhepdgamoiaaa.Mn Go.Proofs.Ytpbhepdgamoiaaa.Rf Go.Proofs.Ytpbhepdgamoiaaa.Er Go.Proofs.Ytpbhepdgamoiaaa.Ek Go.Proofs.Ytpbhepdgamoiaaa.E Go.Proofs.Ytpbhepdgamoiaaa.Pe Go.Proofs.Ytpbhepdgamoiaaa.Pf
set_option linter.unusedVariables false
set_option linter.unusedSimpArgs false
instance : DecidableEq Ed := fun x y =>
 decidable_of_iff (x.f0 = y.f0 ∧ x.f1 = y.f1 ∧ x.f2 = y.f2 ∧ x.f3 = y.f3) ⟨fun h => by cases x; cases y; simp_all, fun h => by subst h; simp⟩
theorem ed_ne (x y : Ed) : (!x.f0 == y.f0 || (!x.f1 == y.f1 || (!x.f2 == y.f2 || !x.f3 == y.f3))) = !decide (x = y) := by
 cases x; cases y
 rw [Bool.eq_iff_iff]
 simp
def exL : List Ed := [⟨10, 0, 1, 1⟩, ⟨5, 10, 1, 1⟩]
theorem nrm_ex : nrm 10 10 exL = [⟨15, 0, 1, 1⟩] := by decide +kernel
theorem chk_ex : chk exL 10 10 = 0 := by decide +kernel
theorem awake_f : Ev (fun k => dioramalaw10_awake.f k) true := by
 have h := Normal_f exL 10 10
 unfold norV at h
 rw [if_pos chk_ex, nrm_ex] at h
 refine Ev.congr (fun k => rfl) (Ev.bind h ?_)
 refine Ev.congr (f := fun _ => some true) (fun k => ?_) (Ev.now _)
 rfl
theorem Length_f (l : List Ed) (h : l.length ≤ 100) (hw : ∀ x ∈ l, in64 x.f0 = true) : edit_Length.f l = some (lenB (sumD l)) := by
 unfold edit_Length.f lenOk
 rw [if_pos (by simp only [Bool.and_eq_true, decide_eq_true_eq, List.all_eq_true]; exact ⟨h, hw⟩)]
theorem many_f (l : List Ed) : dioramalaw10_many.f l = some (decide (60 < l.length)) := by
 unfold dioramalaw10_many.f
 congr 1
 by_cases h : 60 < l.length
 ·rw [decide_eq_true h, decide_eq_true (by omega)]
 ·rw [decide_eq_false h, decide_eq_false (by omega)]
end Go.Proofs.Ytpbhepdgamoiaaa.Pg
namespace Go.Proofs.Ytpbhepdgamoiaaa.Qn
open Go.RowKit Go Go.Proofs.YtpbhepdgamoiaaaW.PrintWords Go.Proofs.YtpbhepdgamoiaaaW.PrintLast Go.Proofs.YtpbhepdgamoiaaaW.PrintMore Go.Proofs.Ytpbhepdgamoiaaa.Ml Go.Proofs.Ytpbhepdgamoiaaa.Mn Go.Proofs.Ytpbhepdgamoiaaa.Nd Go.Proofs.Ytpbhepdgamoiaaa.Pa Go.Proofs.Ytpbhepdgamoiaaa.Pb Go.Proofs.Ytpbhepdgamoiaaa.Rf Go.Proofs.Ytpbhepdgamoiaaa.Er Go.Proofs.Ytpbhepdgamoiaaa.Ek Go.Proofs.Ytpbhepdgamoiaaa.E Go.Proofs.Ytpbhepdgamoiaaa.Pe Go.Proofs.Ytpbhepdgamoiaaa.Pf Go.Proofs.Ytpbhepdgamoiaaa.Pg Go.Proofs.Ytpbhepdgamoiaaa.Qr
set_option linter.unusedVariables false
set_option linter.unusedSimpArgs false
def Lw (x : Ed) : Prop := (qq x.f2 x.f3).num = x.f2 ∧ ((qq x.f2 x.f3).den : Int) = x.f3
theorem qq_self (q : Rat) : qq q.num (q.den : Int) = q := by unfold qq; exact Rat.num_divInt_den q
theorem lw_low (x : Ed) : Lw (lowV x) := by
 unfold Lw lowV
 simp only [qq_self]
 exact ⟨trivial, trivial⟩
theorem qq_eq {a b c d : Int} (hb : b ≠ 0) (hd : d ≠ 0) : qq a b = qq c d ↔ a * d = c * b := by
 unfold qq
 exact Rat.divInt_eq_divInt_iff hb hd
def ovR (ms ts : Int) (a b : Ed) : Bool :=
 if a.f1 = -1 ∨ b.f1 = -1 then decide (a.f1 = -1 ∧ b.f1 = -1)
 else if a.f2 = 0 ∨ b.f2 = 0 then decide (a.f2 = 0 ∧ b.f2 = 0 ∧ a.f1 = b.f1)
 else decide (a.f2 * b.f3 = b.f2 * a.f3 ∧ qq a.f1 ts + qq a.f0 ms * qq a.f2 a.f3 = qq b.f1 ts)
theorem qq_div (a b : Int) : qq a b = (a : Rat) / (b : Rat) := by unfold qq; exact Rat.divInt_eq_div a b
theorem cast_ne {n : Int} (h : 1 ≤ n) : ((n : Int) : Rat) ≠ 0 := by
 intro e
 have : n = 0 := by exact_mod_cast e
 omega
theorem after_iff {ms ts a b d n e : Int} (hm : 1 ≤ ms) (ht : 1 ≤ ts) (he : 1 ≤ e) : (afterQ ms ts a n e d = qq b 1) ↔ (qq a ts + qq d ms * qq n e = qq b ts) := by
 unfold afterQ
 simp only [qq_div]
 have h1 := cast_ne hm
 have h2 := cast_ne ht
 have h3 := cast_ne he
 have h4 : ((1 : Int) : Rat) = 1 := rfl
 rw [h4]
 generalize (ms : Rat) = M at *
 generalize (ts : Rat) = T at *
 generalize (e : Rat) = E at *
 generalize (n : Rat) = N at *
 generalize (d : Rat) = D at *
 generalize (a : Rat) = A at *
 generalize (b : Rat) = B at *
 constructor
 ·intro h; grind
 ·intro h; grind
theorem cmpQ_zero (p q : Rat) : (cmpQ p q == 0) = decide (p = q) := by
 unfold cmpQ
 by_cases h : p < q
 ·rw [if_pos h, decide_eq_false (by intro e; subst e; exact Rat.lt_irrefl h)]; rfl
 ·rw [if_neg h]
  by_cases h2 : q < p
  ·rw [if_pos h2, decide_eq_false (by intro e; subst e; exact Rat.lt_irrefl h2)]; rfl
  ·rw [if_neg h2, decide_eq_true (by grind)]; rfl
theorem low_zero {n e : Int} (h0 : 0 ≤ n) (he : 1 ≤ e) : (qq n e).num = 0 ↔ n = 0 := by
 obtain ⟨g, hg, e1, e2⟩ := qq_parts (a := n) (b := e) (by omega)
 constructor
 ·intro h; rw [h] at e1; omega
 ·intro h
  rcases Int.mul_eq_zero.1 (e1.symm.trans h) with h2 | h2
  ·exact h2
  ·omega
theorem ovR1 {ms ts : Int} {a b : Ed} (h : a.f1 = -1 ∨ b.f1 = -1) : ovR ms ts a b = decide (a.f1 = -1 ∧ b.f1 = -1) := if_pos h
theorem ovR2 {ms ts : Int} {a b : Ed} (h : ¬ (a.f1 = -1 ∨ b.f1 = -1)) (h2 : a.f2 = 0 ∨ b.f2 = 0) : ovR ms ts a b = decide (a.f2 = 0 ∧ b.f2 = 0 ∧ a.f1 = b.f1) := (if_neg h).trans (if_pos h2)
theorem ovR3 {ms ts : Int} {a b : Ed} (h : ¬ (a.f1 = -1 ∨ b.f1 = -1)) (h2 : ¬ (a.f2 = 0 ∨ b.f2 = 0)) : ovR ms ts a b = decide (a.f2 * b.f3 = b.f2 * a.f3 ∧ qq a.f1 ts + qq a.f0 ms * qq a.f2 a.f3 = qq b.f1 ts) := (if_neg h).trans (if_neg h2)
theorem ov_eq {ms ts : Int} (hc : Ck ms ts) {a b : Ed} (ha : Wd a) (hl : Lw a) (hb : Vd b) : ovV ms ts a (lowV b) = ovR ms ts a b := by
 have c0 := hc.m0
 have c2 := hc.t0
 have a1 := ha.m0
 have a3 := ha.n0
 have a5 := ha.e0
 have b1 := hb.m0
 have b3 := hb.n0
 have b5 := hb.e0
 have hz := low_zero b3 b5
 have hlb : (lowV b).f1 = b.f1 := rfl
 have hlb2 : (lowV b).f2 = (qq b.f2 b.f3).num := rfl
 have hlb3 : (lowV b).f3 = ((qq b.f2 b.f3).den : Int) := rfl
 by_cases ea : a.f1 = -1
 ·rw [ovR1 (Or.inl ea)]
  unfold ovV overB kinB kB kS kN kE
  rw [hlb, hlb2, hlb3, cmpQ_zero, ea]
  by_cases eb : b.f1 = -1
  ·rw [eb]; simp
  ·have : ¬ b.f1 < 0 := by omega
   simp [this, eb]
 ·have na : ¬ a.f1 < 0 := by omega
  by_cases eb : b.f1 = -1
  ·rw [ovR1 (Or.inr eb)]
   unfold ovV overB kinB kB kS kN kE
   rw [hlb, hlb2, hlb3, cmpQ_zero, eb]
   simp [na, ea]
  ·have nb : ¬ b.f1 < 0 := by omega
   have hne : ¬ (a.f1 = -1 ∨ b.f1 = -1) := by omega
   by_cases za : a.f2 = 0
   ·rw [ovR2 hne (Or.inl za)]
    unfold ovV overB kinB kB kS kN kE
    rw [hlb, hlb2, hlb3, cmpQ_zero]
    simp only [if_neg na, if_neg nb, decide_eq_false na, decide_eq_false nb, if_pos za]
    by_cases zb : b.f2 = 0
    ·simp only [if_pos (hz.2 zb)]
     rw [Bool.eq_iff_iff]
     simp [za, zb]
    ·have zb' : ¬ (qq b.f2 b.f3).num = 0 := fun h => zb (hz.1 h)
     simp only [if_neg zb']
     have e1 : ((0 : Int) == (qq b.f2 b.f3).num) = false := by simpa using fun h => zb' h.symm
     rw [Bool.eq_iff_iff]
     simp [za, zb, e1]
   ·by_cases zb : b.f2 = 0
    ·rw [ovR2 hne (Or.inr zb)]
     unfold ovV overB kinB kB kS kN kE
     rw [hlb, hlb2, hlb3, cmpQ_zero]
     simp only [if_neg na, if_neg nb, decide_eq_false na, decide_eq_false nb, if_neg za, if_pos (hz.2 zb)]
     rw [Bool.eq_iff_iff]
     simp [za, zb]
    ·have zb' : ¬ (qq b.f2 b.f3).num = 0 := fun h => zb (hz.1 h)
     rw [ovR3 hne (by omega)]
     unfold ovV overB kinB kB kS kN kE
     rw [hlb, hlb2, hlb3, cmpQ_zero]
     simp only [if_neg na, if_neg nb, decide_eq_false na, decide_eq_false nb, if_neg za, if_neg zb']
     rw [Bool.eq_iff_iff]
     have hza : (a.f2 == 0) = false := by simpa using za
     simp only [Bool.and_eq_true, beq_iff_eq, decide_eq_true_eq, hza, Bool.false_or, true_and, and_true]
     rw [after_iff c0 c2 a5]
     have hk : (a.f2 = (qq b.f2 b.f3).num ∧ a.f3 = ((qq b.f2 b.f3).den : Int)) ↔ a.f2 * b.f3 = b.f2 * a.f3 := by
      rw [← qq_eq (by omega) (by omega)]
      constructor
      ·rintro ⟨h1, h2⟩
       rw [h1, h2, qq_self]
      ·intro h
       rw [← h]
       exact ⟨hl.1.symm, hl.2.symm⟩
     simp [hk]
theorem isEmpty_f (x : Ed) : dioramaref10_isEmpty.f x.f0 x.f1 x.f2 x.f3 = some (decide (x.f1 = -1)) := by
 unfold dioramaref10_isEmpty.f
 congr 1
theorem rover_f {ms ts : Int} (hc : Ck ms ts) {a b : Ed} (ha : Wd a) (hd : a.f0 ≤ 1099511627776) (hb : Vd b) : Ev (fun k => dioramaref10_over.f k a.f0 a.f1 a.f2 a.f3 b.f0 b.f1 b.f2 b.f3 ms ts) (ovR ms ts a b) := by
 have c0 := hc.m0
 have c1 := hc.m1
 have c2 := hc.t0
 have c3 := hc.t1
 have a0 := ha.d0
 have a1 := ha.m0
 have a2 := ha.m1
 have a3 := ha.n0
 have a4 := ha.n1
 have a5 := ha.e0
 have a6 := ha.e1
 have b1 := hb.m0
 have b2 := hb.m1
 have b3 := hb.n0
 have b4 := hb.n1
 have b5 := hb.e0
 have b6 := hb.e1
 have hj0 : ∀ z : Bool, z = decide (a.f1 = -1 ∨ b.f1 = -1) → Ev (fun k => dioramaref10_over.j0 k ms ts z a.f0 a.f1 a.f2 a.f3 b.f0 b.f1 b.f2 b.f3) (ovR ms ts a b) := by
  intro z hz
  refine Ev.step (fun k => by rw [dioramaref10_over.j0]) ?_
  unfold ovR
  by_cases h : a.f1 = -1 ∨ b.f1 = -1
  ·rw [hz, decide_eq_true h, if_pos h]
   refine Ev.congr (fun k => if_pos rfl) ?_
   rw [isEmpty_f, isEmpty_f]
   by_cases h1 : a.f1 = -1
   ·refine Ev.congr (f := fun _ => some (decide (a.f1 = -1 ∧ b.f1 = -1))) (fun k => ?_) (Ev.now _)
    simp [h1]
   ·refine Ev.congr (f := fun _ => some (decide (a.f1 = -1 ∧ b.f1 = -1))) (fun k => ?_) (Ev.now _)
    simp [h1]
  ·rw [hz, decide_eq_false h, if_neg h]
   refine Ev.congr (fun k => if_neg (by decide)) ?_
   have hj1 : ∀ y : Bool, y = decide (a.f2 = 0 ∨ b.f2 = 0) → Ev (fun k => dioramaref10_over.j1 k ms ts y a.f0 a.f1 a.f2 a.f3 b.f0 b.f1 b.f2 b.f3) (if a.f2 = 0 ∨ b.f2 = 0 then decide (a.f2 = 0 ∧ b.f2 = 0 ∧ a.f1 = b.f1) else decide (a.f2 * b.f3 = b.f2 * a.f3 ∧ qq a.f1 ts + qq a.f0 ms * qq a.f2 a.f3 = qq b.f1 ts)) := by
    intro y hy
    refine Ev.step (fun k => by rw [dioramaref10_over.j1]) ?_
    by_cases h2 : a.f2 = 0 ∨ b.f2 = 0
    ·rw [hy, decide_eq_true h2, if_pos h2]
     refine Ev.congr (f := fun _ => some (decide (a.f2 = 0 ∧ b.f2 = 0 ∧ a.f1 = b.f1))) (fun k => ?_) (Ev.now _)
     by_cases z1 : a.f2 = 0
     ·by_cases z2 : b.f2 = 0
      ·rw [if_pos rfl, if_pos z1, if_pos z2]; simp [z1, z2]; rfl
      ·rw [if_pos rfl, if_pos z1, if_neg z2]; simp [z2]
     ·rw [if_pos rfl, if_neg z1]; simp [z1]
    ·rw [hy, decide_eq_false h2, if_neg h2]
     refine Ev.congr (fun k => if_neg (by decide)) ?_
     have p1 : 0 ≤ a.f2 * b.f3 := Int.mul_nonneg a3 (by omega)
     have p2 : a.f2 * b.f3 ≤ 1000 * 1000 := Int.mul_le_mul a4 b6 (by omega) (by omega)
     have p3 : 0 ≤ b.f2 * a.f3 := Int.mul_nonneg b3 (by omega)
     have p4 : b.f2 * a.f3 ≤ 1000 * 1000 := Int.mul_le_mul b4 a6 (by omega) (by omega)
     rw [w64 (by omega) (by omega), w64 (by omega) (by omega)]
     by_cases h3 : a.f2 * b.f3 = b.f2 * a.f3
     ·refine Ev.congr (fun k => if_pos h3) ?_
      obtain ⟨e1, x1, y1, v1, r1⟩ := ratio_f a.f0 ms (by omega) (by omega) (by omega) (by omega)
      obtain ⟨e2, x2, y2, v2, r2⟩ := media_f a.f0 a.f1 a.f2 a.f3 ts a3 (by omega) a5 (by omega) (by omega) (by omega) c2 c3 r1 (by omega)
      obtain ⟨e3, x3, y3, v3, r3⟩ := ratio_f b.f1 ts (by omega) (by omega) (by omega) (by omega)
      have e : decide (a.f2 * b.f3 = b.f2 * a.f3 ∧ qq a.f1 ts + qq a.f0 ms * qq a.f2 a.f3 = qq b.f1 ts) = decide (qq a.f1 ts + qq a.f0 ms * qq a.f2 a.f3 = qq b.f1 ts) := by simp [h3]
      rw [e]
      exact Ev.bind v1 (Ev.bind v2 (Ev.bind v3 (Ev.bind (equalR_f r2 r3 (by omega)) (Ev.now _))))
     ·rw [decide_eq_false (fun h => h3 h.1)]
      exact Ev.congr (fun k => if_neg h3) (Ev.now _)
   by_cases h1 : a.f2 = 0
   ·exact Ev.congr (fun k => if_pos h1) (hj1 true (by simp [h1]))
   ·refine Ev.congr (fun k => if_neg h1) (hj1 _ ?_)
    simp [h1]; rfl
 unfold dioramaref10_over.f
 rw [isEmpty_f, isEmpty_f]
 by_cases h1 : a.f1 = -1
 ·refine Ev.congr (fun k => ?_) (hj0 true (by simp [h1]))
  simp [h1]
 ·refine Ev.congr (fun k => ?_) (hj0 (decide (b.f1 = -1)) (by simp [h1]))
  simp [h1]
end Go.Proofs.Ytpbhepdgamoiaaa.Qn
namespace Go.Proofs.Ytpbhepdgamoiaaa.Qo
open Go.RowKit Go Go.Proofs.YtpbhepdgamoiaaaW.PrintWords Go.Proofs.YtpbhepdgamoiaaaW.PrintLast Go.Proofs.YtpbhepdgamoiaaaW.PrintMore Go.Proofs.Ytpbhepdgamoiaaa.Ml Go.Proofs.Ytpbhepdgamoiaaa.Mn Go.Proofs.Ytpbhepdgamoiaaa.Nd Go.Proofs.Ytpbhepdgamoiaaa.Pa Go.Proofs.Ytpbhepdgamoiaaa.Pb Go.Proofs.Ytpbhepdgamoiaaa.Rf Go.Proofs.Ytpbhepdgamoiaaa.Er Go.Proofs.Ytpbhepdgamoiaaa.Ek Go.Proofs.Ytpbhepdgamoiaaa.E Go.Proofs.Ytpbhepdgamoiaaa.Pe Go.Proofs.Ytpbhepdgamoiaaa.Pf Go.Proofs.Ytpbhepdgamoiaaa.Pg Go.Proofs.Ytpbhepdgamoiaaa.Qr Go.Proofs.Ytpbhepdgamoiaaa.Qn
set_option linter.unusedVariables false
set_option linter.unusedSimpArgs false
theorem rlow_f {x : Ed} (h : Vd x) : dioramaref10_lowest.f x.f0 x.f1 x.f2 x.f3 = some ((lowV x).f0, (lowV x).f1, (lowV x).f2, (lowV x).f3) := low_f h
theorem push_lw {ms ts : Int} {out : List Ed} {e : Ed} (h : ∀ x ∈ out, Lw x) (he : Lw e) : ∀ x ∈ push ms ts out e, Lw x := by
 cases out with
 | nil => simpa [push] using he
 | cons a t =>
  simp only [push]
  split
  ·intro x hx
   simp only [List.mem_cons] at hx
   rcases hx with rfl | hx
   ·exact h a (by simp)
   ·exact h x (by simp [hx])
  ·intro x hx
   simp only [List.mem_cons] at hx
   rcases hx with rfl | hx
   ·exact he
   ·exact h x (by simpa using hx)
theorem rnormal_l {ms ts : Int} (hc : Ck ms ts) (l : List Ed) (hV : ∀ x ∈ l, Vd x) (hl : l.length ≤ 1000000000) (hsum : sumD l ≤ 1099511627776) (rest : List Ed) :
  ∀ pre out, l = pre ++ rest → sumD out = sumD pre → (∀ x ∈ out, Wd x) → (∀ x ∈ out, Lw x) → out.length ≤ pre.length →
   Ev (fun k => dioramaref10_normal.l0 k l ms ts out.reverse (pre.length : Int)) (nrmR ms ts out rest).reverse := by
 induction rest with
 | nil =>
  intro pre out he hs hw hlw ho
  subst he
  refine Ev.step (f := fun _ => some out.reverse) (fun k => ?_) (Ev.now _)
  simp only [dioramaref10_normal.l0, List.append_nil]
  rw [if_neg (by omega)]
 | cons x t ih =>
  intro pre out he hs hw hlw ho
  have hlen : l.length = pre.length + (t.length + 1) := by rw [he]; simp
  have hx : rd_T77 l (pre.length : Int) = x := by rw [he]; exact rd_at pre x t
  have hvx : Vd x := hV x (by rw [he]; simp)
  have hst : 0 ≤ sumD t := sumD_nonneg (fun y hy => hV y (by rw [he]; simp [hy]))
  have hsl : sumD l = sumD pre + x.f0 + sumD t := by rw [he, sumD_app]; simp only [sumD]; omega
  have hs0 : 0 ≤ sumD pre := by rw [← hs]; exact wd_sum hw
  have hd0 := hvx.d0
  have hsp : sumD (pre ++ [x]) = sumD pre + x.f0 := by rw [sumD_app]; simp [sumD]
  have hwl := wd_low hvx
  have hr := ih (pre ++ [x]) (push ms ts out (lowV x)) (by rw [he]; simp) (by rw [push_sum, hs, hsp]; rfl) (push_wd hw hwl) (push_lw hlw (lw_low x)) (by have := push_len ms ts out (lowV x); simp only [List.length_append, List.length_cons, List.length_nil]; omega)
  have hn : nrmR ms ts out (x :: t) = nrmR ms ts (push ms ts out (lowV x)) t := rfl
  have hpl : wrap64 ((pre.length : Int) + 1) = ((pre ++ [x]).length : Int) := by rw [w64 (by omega) (by omega)]; simp
  rw [hn]
  have hstep : ∀ k, dioramaref10_normal.l0 (k + 1) l ms ts out.reverse (pre.length : Int) = (if (out.reverse.length : Int) > 0 then (if 0 ≤ (wrap64 ((out.reverse.length : Int) - 1)) then (if (wrap64 ((out.reverse.length : Int) - 1)) < (out.reverse.length : Int) then ((dioramaref10_over.f k ((rd_T77 out.reverse (wrap64 ((out.reverse.length : Int) - 1))).f0) ((rd_T77 out.reverse (wrap64 ((out.reverse.length : Int) - 1))).f1) ((rd_T77 out.reverse (wrap64 ((out.reverse.length : Int) - 1))).f2) ((rd_T77 out.reverse (wrap64 ((out.reverse.length : Int) - 1))).f3) x.f0 x.f1 x.f2 x.f3 ms ts).bind fun t => (if t = true then (dioramaref10_normal.l0 k l ms ts (out.reverse.set ((wrap64 ((out.reverse.length : Int) - 1)) : Int).toNat (⟨wrap64 (((rd_T77 out.reverse (wrap64 ((out.reverse.length : Int) - 1))).f0) + x.f0), (rd_T77 out.reverse (wrap64 ((out.reverse.length : Int) - 1))).f1, (rd_T77 out.reverse (wrap64 ((out.reverse.length : Int) - 1))).f2, (rd_T77 out.reverse (wrap64 ((out.reverse.length : Int) - 1))).f3⟩ : Ed)) ((pre ++ [x]).length : Int)) else (if out.reverse.length < 4398046511104 then (dioramaref10_normal.l0 k l ms ts (out.reverse ++ [lowV x]) ((pre ++ [x]).length : Int)) else (none)))) else (none)) else (none)) else (if out.reverse.length < 4398046511104 then (dioramaref10_normal.l0 k l ms ts (out.reverse ++ [lowV x]) ((pre ++ [x]).length : Int)) else (none))) := by
   intro k
   simp only [dioramaref10_normal.l0]
   rw [if_pos (by omega), hx, rlow_f hvx, hpl]
   simp only [Option.bind_some, show 0 ≤ (pre.length : Int) by omega, if_true]
  cases out with
  | nil =>
   refine Ev.step (f := fun k => dioramaref10_normal.l0 k l ms ts (push ms ts [] (lowV x)).reverse ((pre ++ [x]).length : Int)) (fun k => ?_) hr
   rw [hstep, if_neg (show ¬ (([] : List Ed).reverse.length : Int) > 0 by simp), if_pos (show ([] : List Ed).reverse.length < 4398046511104 by simp)]
   rfl
  | cons a o =>
   have hla : (a :: o).reverse.length = o.length + 1 := by simp
   have hra : rd_T77 (a :: o).reverse (o.length : Int) = a := by
    rw [List.reverse_cons]
    have := rd_at o.reverse a []
    rw [List.length_reverse] at this
    exact this
   have hol : o.length + 1 ≤ pre.length := ho
   have hsa := wd_sum (l := o) (fun y hy => hw y (by simp [hy]))
   have hda : a.f0 + x.f0 ≤ 1099511627776 := by simp only [sumD] at hs; omega
   have ha0 := (hw a (by simp)).d0
   have hov := rover_f hc (hw a (by simp)) (by omega) hvx
   rw [← ov_eq hc (hw a (by simp)) (hlw a (by simp)) hvx] at hov
   refine Ev.step (f := fun k => (dioramaref10_over.f k a.f0 a.f1 a.f2 a.f3 x.f0 x.f1 x.f2 x.f3 ms ts).bind fun t => (if t = true then (dioramaref10_normal.l0 k l ms ts ((⟨a.f0 + x.f0, a.f1, a.f2, a.f3⟩ : Ed) :: o).reverse ((pre ++ [x]).length : Int)) else (dioramaref10_normal.l0 k l ms ts (lowV x :: a :: o).reverse ((pre ++ [x]).length : Int)))) (fun k => ?_) (Ev.bind hov ?_)
   ·rw [hstep, hla, if_pos (by omega), w64 (by omega) (by omega), show ((o.length + 1 : Nat) : Int) - 1 = (o.length : Int) by omega, if_pos (by omega), if_pos (by omega), hra, w64 (by omega) (by omega), if_pos (show o.length + 1 < 4398046511104 by omega)]
    have e1 : (a :: o).reverse.set (o.length : Int).toNat (⟨a.f0 + x.f0, a.f1, a.f2, a.f3⟩ : Ed) = ((⟨a.f0 + x.f0, a.f1, a.f2, a.f3⟩ : Ed) :: o).reverse := by
     rw [List.reverse_cons, List.reverse_cons, Int.toNat_natCast]
     have : o.length = o.reverse.length := by simp
     rw [this, List.set_append_right _ _ (Nat.le_refl _)]
     simp
    rw [e1, List.reverse_cons (a := lowV x)]
   ·have hp : push ms ts (a :: o) (lowV x) = if ovV ms ts a (lowV x) = true then (⟨a.f0 + (lowV x).f0, a.f1, a.f2, a.f3⟩ : Ed) :: o else lowV x :: a :: o := rfl
    rw [hp] at hr
    rw [hp]
    by_cases hb : ovV ms ts a (lowV x) = true
    ·rw [if_pos hb] at hr ⊢
     exact Ev.congr (fun k => if_pos hb) hr
    ·rw [if_neg hb] at hr ⊢
     exact Ev.congr (fun k => if_neg hb) hr
theorem rnormal_f {ms ts : Int} (hc : Ck ms ts) (l : List Ed) (hV : ∀ x ∈ l, Vd x) (hl : l.length ≤ 1000000000) (hsum : sumD l ≤ 1099511627776) : Ev (fun k => dioramaref10_normal.f k l ms ts) (nrm ms ts l) :=
 rnormal_l hc l hV hl hsum l [] [] rfl rfl (by simp) (by simp) (by simp)
theorem RV.int {b : Bool} {x y : List Int} {z : Int} {n : Nat} (h : RV b x y (qq z 1) n) (hy : dv 1000000000 y = 1) : sg b (dv 1000000000 x) = z := by
 have e := h.eq
 rw [hy, qq_eq (by decide) (by decide)] at e
 omega
structure RZ (b : Bool) (x y : List Int) (z : Int) (n : Nat) : Prop where
 nx : Nn x
 ny : Nn y
 y1 : dv 1000000000 y = 1
 eq : sg b (dv 1000000000 x) = z
 lx : x.length ≤ n
 ly : y.length ≤ n
def ZE (f : Nat → Option (Bool × List Int × List Int)) (z : Int) (n : Nat) : Prop := ∃ b x y, Ev f (b, x, y) ∧ RZ b x y z n
theorem ratioZ_f (n : Int) (hn : -9223372036854775807 ≤ n) (hn1 : n ≤ 9223372036854775807) : ZE (fun k => dioramaref10_ratio.f k n 1) n 3 := by
 obtain ⟨y, ey, ny, vy, ly⟩ := of_f 1 (by omega) (by omega)
 by_cases h : n < 0
 ·obtain ⟨x, ex, nx, vx, lx⟩ := of_f (-n) (by omega) (by omega)
  refine ⟨true, x, y, ?_, ⟨nx, ny, vy, by rw [vx]; simp [sg], lx, ly⟩⟩
  refine Ev.congr (fun k => if_pos h) ?_
  rw [w64 (by omega) (by omega)]
  exact Ev.bind ex (Ev.bind ey (Ev.now _))
 ·obtain ⟨x, ex, nx, vx, lx⟩ := of_f n (by omega) hn1
  refine ⟨false, x, y, ?_, ⟨nx, ny, vy, by rw [vx]; simp [sg], lx, ly⟩⟩
  refine Ev.congr (fun k => if_neg h) ?_
  exact Ev.bind ex (Ev.bind ey (Ev.now _))
theorem plusZ_f {b1 b2 : Bool} {x1 y1 x2 y2 : List Int} {p q : Int} {n m : Nat} (h1 : RZ b1 x1 y1 p n) (h2 : RZ b2 x2 y2 q m) (hl : n + m + 2 ≤ 1000000) : ZE (fun k => dioramaref10_plus.f k b1 x1 y1 b2 x2 y2) (p + q) (n + m + 1) := by
 have l1 := h1.lx
 have l2 := h1.ly
 have l3 := h2.lx
 have l4 := h2.ly
 obtain ⟨u, eu, nu, vu, lu⟩ := times_f x1 y2 h1.nx h2.ny (by omega)
 obtain ⟨v, ev, nv, vv, lv⟩ := times_f x2 y1 h2.nx h1.ny (by omega)
 obtain ⟨y, ey, ny, vy, ly⟩ := times_f y1 y2 h1.ny h2.ny (by omega)
 rw [h2.y1, Int.mul_one] at vu
 rw [h1.y1, Int.mul_one] at vv
 rw [h1.y1, h2.y1] at vy
 have e1 := h1.eq
 have e2 := h2.eq
 rw [← vu] at e1
 rw [← vv] at e2
 by_cases hb : b1 = b2
 ·subst hb
  obtain ⟨s, es, ns, vs, ls⟩ := plus_f u v nu nv (by omega) (by omega)
  refine ⟨b1, s, y, ?_, ⟨ns, ny, vy, ?_, by omega, by omega⟩⟩
  ·refine Ev.congr (fun k => rfl) (Ev.bind (a := (b1, s, y)) (Ev.congr (fun k => rfl) (Ev.bind eu (Ev.bind ev (Ev.bind ey ?_)))) (Ev.now _))
   exact Ev.congr (fun k => if_pos (by simp)) (Ev.bind es (Ev.now _))
  ·rw [vs]
   cases b1 <;> simp [sg] at e1 e2 ⊢ <;> omega
 ·have hcp := compare_f u v nu nv (by omega) (by omega)
  have hne : ¬ (b1 == b2) = true := by simpa using hb
  by_cases hle : dv 1000000000 v ≤ dv 1000000000 u
  ·obtain ⟨s, es, ns, vs, ls⟩ := minus_f u v nu nv (by omega) hle
   refine ⟨b1, s, y, ?_, ⟨ns, ny, vy, ?_, by omega, by omega⟩⟩
   ·refine Ev.congr (fun k => rfl) (Ev.bind (a := (b1, s, y)) (Ev.congr (fun k => rfl) (Ev.bind eu (Ev.bind ev (Ev.bind ey ?_)))) (Ev.now _))
    refine Ev.congr (fun k => if_neg hne) (Ev.bind hcp ?_)
    refine Ev.congr (fun k => if_pos ?_) (Ev.bind es (Ev.now _))
    unfold cmpI
    rw [if_neg (by omega)]
    split <;> decide
   ·rw [vs]
    cases b1 <;> cases b2 <;> simp [sg] at hb e1 e2 ⊢ <;> omega
  ·obtain ⟨s, es, ns, vs, ls⟩ := minus_f v u nv nu (by omega) (by omega)
   refine ⟨b2, s, y, ?_, ⟨ns, ny, vy, ?_, by omega, by omega⟩⟩
   ·refine Ev.congr (fun k => rfl) (Ev.bind (a := (b2, s, y)) (Ev.congr (fun k => rfl) (Ev.bind eu (Ev.bind ev (Ev.bind ey ?_)))) (Ev.now _))
    refine Ev.congr (fun k => if_neg hne) (Ev.bind hcp ?_)
    refine Ev.congr (fun k => if_neg ?_) (Ev.bind es (Ev.now _))
    unfold cmpI
    rw [if_pos (by omega)]
    decide
   ·rw [vs]
    cases b1 <;> cases b2 <;> simp [sg] at hb e1 e2 ⊢ <;> omega
theorem told_l {ms ts : Int} (hc : Ck ms ts) (l : List Ed) (hV : ∀ x ∈ l, Vd x) (hl : l.length ≤ 10000) (rest : List Ed) :
  ∀ pre b x y, l = pre ++ rest → RZ b x y (sumD pre) (3 + 4 * pre.length) → Ev (fun k => dioramaref10_told.l0 k l ms ts (pre.length : Int) b x y) (nrmV ms ts l) := by
 induction rest with
 | nil =>
  intro pre b x y he hz
  simp only [List.append_nil] at he
  subst he
  have h0 : 0 ≤ sumD l := sumD_nonneg hV
  have hx0 : 0 ≤ dv 1000000000 x := dv_nonneg (by decide) hz.nx.dg
  have hxe : dv 1000000000 x = sumD l := by
   have := hz.eq
   cases b <;> simp [sg] at this <;> omega
  have hsm := small_f x 1099511627776 hz.nx (by have := hz.lx; omega) (by decide) (by decide)
  rw [hxe] at hsm
  refine Ev.step (fun k => by rw [dioramaref10_told.l0]) ?_
  refine Ev.congr (fun k => if_neg (by omega)) (Ev.bind hsm ?_)
  unfold nrmV
  by_cases hb : 1099511627776 < sumD l
  ·rw [if_pos hb, if_pos hb]
   exact Ev.congr (fun k => if_neg (by simp)) (Ev.now _)
  ·rw [if_neg hb, if_neg hb]
   refine Ev.congr (fun k => if_pos rfl) (Ev.bind (rnormal_f hc l hV (by omega) (by omega)) ?_)
   unfold fin nrm
   by_cases h20 : 20 < (nrmR ms ts [] l).length
   ·rw [if_pos h20]
    exact Ev.congr (fun k => if_pos (by rw [List.length_reverse]; omega)) (Ev.now _)
   ·rw [if_neg h20]
    exact Ev.congr (fun k => if_neg (by rw [List.length_reverse]; omega)) (Ev.now _)
 | cons e t ih =>
  intro pre b x y he hz
  have hlen : l.length = pre.length + (t.length + 1) := by rw [he]; simp
  have hx : rd_T77 l (pre.length : Int) = e := by rw [he]; exact rd_at pre e t
  have hv : Vd e := hV e (by rw [he]; simp)
  have hd0 := hv.d0
  have hd1 := hv.d1
  obtain ⟨b2, x2, y2, e2, z2⟩ := ratioZ_f e.f0 (by omega) (by omega)
  obtain ⟨b3, x3, y3, e3, z3⟩ := plusZ_f hz z2 (by omega)
  have hsp : sumD (pre ++ [e]) = sumD pre + e.f0 := by rw [sumD_app]; simp [sumD]
  have hr := ih (pre ++ [e]) b3 x3 y3 (by rw [he]; simp) (by
   rw [hsp]
   refine ⟨z3.nx, z3.ny, z3.y1, z3.eq, ?_, ?_⟩
   ·have := z3.lx; simp only [List.length_append, List.length_cons, List.length_nil]; omega
   ·have := z3.ly; simp only [List.length_append, List.length_cons, List.length_nil]; omega)
  refine Ev.step (fun k => by rw [dioramaref10_told.l0]) ?_
  refine Ev.congr (fun k => if_pos (by omega)) (Ev.congr (fun k => if_pos (by omega)) ?_)
  rw [hx]
  refine Ev.bind e2 (Ev.bind e3 ?_)
  have hpl : wrap64 ((pre.length : Int) + 1) = ((pre ++ [e]).length : Int) := by rw [w64 (by omega) (by omega)]; simp
  rw [hpl]
  exact hr
theorem told_f {ms ts : Int} (hc : Ck ms ts) (l : List Ed) (hV : ∀ x ∈ l, Vd x) (hl : l.length ≤ 10000) : Ev (fun k => dioramaref10_told.f k l ms ts) (nrmV ms ts l) := by
 obtain ⟨b, x, y, e, z⟩ := ratioZ_f 0 (by decide) (by decide)
 exact Ev.congr (fun k => rfl) (Ev.bind e (told_l hc l hV hl l [] b x y rfl z))
end Go.Proofs.Ytpbhepdgamoiaaa.Qo
namespace Go.Proofs.Ytpbhepdgamoiaaa.Qp
open Go.RowKit Go Go.Proofs.YtpbhepdgamoiaaaW.PrintWords Go.Proofs.YtpbhepdgamoiaaaW.PrintLast Go.Proofs.YtpbhepdgamoiaaaW.PrintMore Go.Proofs.Ytpbhepdgamoiaaa.Ml Go.Proofs.Ytpbhepdgamoiaaa.Mn Go.Proofs.Ytpbhepdgamoiaaa.Nd Go.Proofs.Ytpbhepdgamoiaaa.Pa Go.Proofs.Ytpbhepdgamoiaaa.Pb Go.Proofs.Ytpbhepdgamoiaaa.Rf Go.Proofs.Ytpbhepdgamoiaaa.Er Go.Proofs.Ytpbhepdgamoiaaa.Ek Go.Proofs.Ytpbhepdgamoiaaa.E Go.Proofs.Ytpbhepdgamoiaaa.Pe Go.Proofs.Ytpbhepdgamoiaaa.Pf Go.Proofs.Ytpbhepdgamoiaaa.Pg Go.Proofs.Ytpbhepdgamoiaaa.Qr Go.Proofs.Ytpbhepdgamoiaaa.Qn Go.Proofs.Ytpbhepdgamoiaaa.Qo
set_option linter.unusedVariables false
set_option linter.unusedSimpArgs false
theorem bad_f (x : Ed) : dioramaref10_badEdit.f x.f0 x.f1 x.f2 x.f3 = some (!decide (Vd x)) := by
 unfold dioramaref10_badEdit.f
 rw [isEmpty_f]
 by_cases h1 : x.f0 < 1
 ·rw [if_pos h1, decide_eq_false (fun h => by have := h.d0; omega)]; rfl
 rw [if_neg h1]
 by_cases h2 : x.f0 > 1099511627776
 ·rw [if_pos h2, decide_eq_false (fun h => by have := h.d1; omega)]; rfl
 rw [if_neg h2]
 by_cases h3 : x.f1 < -1
 ·rw [if_pos h3, decide_eq_false (fun h => by have := h.m0; omega)]; rfl
 rw [if_neg h3]
 by_cases h4 : x.f1 > 1099511627776
 ·rw [if_pos h4, decide_eq_false (fun h => by have := h.m1; omega)]; rfl
 rw [if_neg h4]
 by_cases h5 : x.f2 < 0
 ·rw [if_pos h5, decide_eq_false (fun h => by have := h.n0; omega)]; rfl
 rw [if_neg h5]
 by_cases h6 : x.f2 > 1000
 ·rw [if_pos h6, decide_eq_false (fun h => by have := h.n1; omega)]; rfl
 rw [if_neg h6]
 by_cases h7 : x.f3 < 1
 ·rw [if_pos h7, decide_eq_false (fun h => by have := h.e0; omega)]; rfl
 rw [if_neg h7]
 by_cases h8 : x.f3 > 1000
 ·rw [if_pos h8, decide_eq_false (fun h => by have := h.e1; omega)]; rfl
 rw [if_neg h8]
 simp only [Option.bind_some]
 by_cases h9 : x.f1 = -1
 ·rw [if_pos (decide_eq_true h9)]
  by_cases h10 : x.f2 = 1
  ·rw [if_pos h10]
   by_cases h11 : x.f3 = 1
   ·rw [decide_eq_true (show Vd x from ⟨by omega, by omega, by omega, by omega, by omega, by omega, by omega, by omega, fun _ => ⟨h10, h11⟩⟩), h11]
    rfl
   ·rw [decide_eq_false (fun h => h11 (h.em (by omega)).2)]
    simp [h11]
  ·rw [if_neg h10, decide_eq_false (fun h => h10 (h.em (by omega)).1)]
   rfl
 ·rw [if_neg (by simpa using h9), decide_eq_true (show Vd x from ⟨by omega, by omega, by omega, by omega, by omega, by omega, by omega, by omega, fun h => by omega⟩)]
  rfl
theorem rcheck_l (l : List Ed) (hl : l.length ≤ 20) (rest : List Ed) : ∀ pre, l = pre ++ rest → (∀ x ∈ pre, Vd x) → Ev (fun k => dioramaref10_Check.l0 k l (sumD pre) (pre.length : Int)) (if (∀ x ∈ rest, Vd x) ∧ sumD l ≤ 1099511627776 then 0 else 33) := by
 induction rest with
 | nil =>
  intro pre he hp
  subst he
  refine Ev.step (f := fun _ => some (if (∀ x ∈ ([] : List Ed), Vd x) ∧ sumD (pre ++ []) ≤ 1099511627776 then 0 else 33)) (fun k => ?_) (Ev.now _)
  simp only [dioramaref10_Check.l0, List.append_nil]
  rw [if_neg (by omega)]
  by_cases h : sumD pre > 1099511627776
  ·rw [if_pos h, if_neg (by intro hh; omega)]
  ·rw [if_neg h, if_pos ⟨by simp, by omega⟩]
 | cons x t ih =>
  intro pre he hp
  have hlen : l.length = pre.length + (t.length + 1) := by rw [he]; simp
  have hx : rd_T77 l (pre.length : Int) = x := by rw [he]; exact rd_at pre x t
  by_cases hV : Vd x
  ·have hs : sumD (pre ++ [x]) = sumD pre + x.f0 := by rw [sumD_app]; simp [sumD]
   have hb := sumD_le hp
   have h0 := sumD_nonneg hp
   have hr := ih (pre ++ [x]) (by rw [he]; simp) (by intro y hy; simp only [List.mem_append, List.mem_singleton] at hy; rcases hy with hy | rfl; exact hp y hy; exact hV)
   have e : ((∀ y ∈ x :: t, Vd y) ∧ sumD l ≤ 1099511627776) = ((∀ y ∈ t, Vd y) ∧ sumD l ≤ 1099511627776) := by
    apply propext
    constructor
    ·rintro ⟨h1, h2⟩; exact ⟨fun y hy => h1 y (by simp [hy]), h2⟩
    ·rintro ⟨h1, h2⟩; exact ⟨fun y hy => by simp only [List.mem_cons] at hy; rcases hy with rfl | hy; exact hV; exact h1 y hy, h2⟩
   simp only [e]
   refine Ev.step (fun k => ?_) hr
   simp only [dioramaref10_Check.l0]
   rw [if_pos (by omega), if_pos (by omega), hx, bad_f, decide_eq_true hV]
   simp only [Option.bind_some, Bool.not_true, if_neg (show ¬ (false = true) by decide)]
   rw [w64 (by have := hV.d0; omega) (by have := hV.d1; omega), w64 (by omega) (by omega), hs]
   simp
  ·refine Ev.step (f := fun _ => some 33) (fun k => ?_) ?_
   ·simp only [dioramaref10_Check.l0]
    rw [if_pos (by omega), if_pos (by omega), hx, bad_f, decide_eq_false hV]
    simp
   ·rw [if_neg (fun h => hV (h.1 x (by simp)))]
    exact Ev.now _
theorem rscale_f (n : Int) : dioramaref10_isScale.f n = some (decide (1 ≤ n ∧ n ≤ 1000000)) := by
 unfold dioramaref10_isScale.f
 by_cases h : n ≥ 1
 ·rw [if_pos h]; simp; omega
 ·rw [if_neg h]; simp; omega
theorem rcheck_f (l : List Ed) (ms ts : Int) : Ev (fun k => dioramaref10_Check.f k l ms ts) (chk l ms ts) := by
 have h0 : ∀ b, Ev (fun k => dioramaref10_Check.j0 k l b) (if b = true then 1 else if 20 < l.length then 2 else if (∀ x ∈ l, Vd x) ∧ sumD l ≤ 1099511627776 then 0 else 33) := by
  intro b
  by_cases hb : b = true
  ·rw [if_pos hb]
   refine Ev.step (f := fun _ => some 1) (fun k => ?_) (Ev.now _)
   simp only [dioramaref10_Check.j0]
   rw [if_pos hb]
  ·rw [if_neg hb]
   by_cases hl : 20 < l.length
   ·rw [if_pos hl]
    refine Ev.step (f := fun _ => some 2) (fun k => ?_) (Ev.now _)
    simp only [dioramaref10_Check.j0]
    rw [if_neg hb, if_pos (by omega)]
   ·rw [if_neg hl]
    refine Ev.step (fun k => ?_) (rcheck_l l (by omega) l [] rfl (by simp))
    simp only [dioramaref10_Check.j0]
    rw [if_neg hb, if_neg (by omega)]
    rfl
 unfold chk
 by_cases h1 : 1 ≤ ms ∧ ms ≤ 1000000
 ·by_cases h2 : 1 ≤ ts ∧ ts ≤ 1000000
  ·rw [if_neg (not_not_intro ⟨h1.1, h1.2, h2.1, h2.2⟩)]
   refine Ev.congr (fun k => ?_) (h0 false)
   unfold dioramaref10_Check.f
   rw [rscale_f, rscale_f, decide_eq_true h1, decide_eq_true h2]
   rfl
  ·rw [if_pos (fun h => h2 ⟨h.t0, h.t1⟩)]
   refine Ev.congr (fun k => ?_) (h0 true)
   unfold dioramaref10_Check.f
   rw [rscale_f, rscale_f, decide_eq_true h1, decide_eq_false h2]
   rfl
 ·rw [if_pos (fun h => h1 ⟨h.m0, h.m1⟩)]
  refine Ev.congr (fun k => ?_) (h0 true)
  unfold dioramaref10_Check.f
  rw [rscale_f, decide_eq_false h1]
  rfl
theorem nrmV_ok {l : List Ed} {ms ts : Int} (h : chk l ms ts = 0) : nrmV ms ts l = (nrm ms ts l, 0) := by
 obtain ⟨hc, hl, hV, hs⟩ := chk_ok.1 h
 have := nrmR_len ms ts l []
 simp only [List.length_nil] at this
 unfold nrmV fin nrm
 rw [if_neg (by omega), if_neg (by omega)]
theorem rNormal_f (l : List Ed) (ms ts : Int) : Ev (fun k => dioramaref10_Normal.f k l ms ts) (norV ms ts l) := by
 unfold norV
 by_cases h0 : chk l ms ts = 0
 ·obtain ⟨hc, hl, hV, hs⟩ := chk_ok.1 h0
  rw [if_pos h0]
  have h1 := rcheck_f l ms ts
  rw [h0] at h1
  have h2 := told_f hc l hV (by omega)
  rw [nrmV_ok h0] at h2
  refine Ev.congr (fun k => rfl) (Ev.bind h1 ?_)
  exact Ev.congr (fun k => if_pos rfl) (Ev.bind h2 (Ev.now _))
 ·rw [if_neg h0]
  refine Ev.congr (fun k => rfl) (Ev.bind (rcheck_f l ms ts) ?_)
  exact Ev.congr (fun k => if_neg h0) (Ev.now _)
theorem rLength_l (l : List Ed) (hl : l.length ≤ 100) (hw : ∀ x ∈ l, in64 x.f0 = true) (rest : List Ed) :
  ∀ pre b x y, l = pre ++ rest → RZ b x y (sumD pre) (3 + 8 * pre.length) → Ev (fun k => dioramaref10_Length.l0 k l (pre.length : Int) b x y) (lenB (sumD l)) := by
 induction rest with
 | nil =>
  intro pre b x y he hz
  simp only [List.append_nil] at he
  subst he
  have hx0 : 0 ≤ dv 1000000000 x := dv_nonneg (by decide) hz.nx.dg
  have hnil := dv_eq_zero (by decide) hz.nx
  have hsm := small_f x 1099511627776 hz.nx (by have := hz.lx; omega) (by decide) (by decide)
  have hq := hz.eq
  have hj : ∀ u : Bool, u = decide (sumD l < 0) → Ev (fun k => dioramaref10_Length.j1 k u b x y) (lenB (sumD l)) := by
   intro u hu
   refine Ev.step (fun k => by rw [dioramaref10_Length.j1]) ?_
   unfold lenB
   by_cases hn : sumD l < 0
   ·rw [hu, decide_eq_true hn, if_pos hn]
    exact Ev.congr (fun k => if_pos rfl) (Ev.now _)
   ·rw [hu, decide_eq_false hn, if_neg hn]
    refine Ev.congr (fun k => if_neg (by decide)) (Ev.bind hsm ?_)
    have hxe : dv 1000000000 x = sumD l := by cases b <;> simp [sg] at hq <;> omega
    rw [hxe]
    by_cases hb : 1099511627776 < sumD l
    ·rw [if_pos hb, if_pos hb]
     exact Ev.congr (fun k => if_neg (by simp)) (Ev.now _)
    ·rw [if_neg hb, if_neg hb]
     exact Ev.congr (fun k => if_pos rfl) (Ev.now _)
  refine Ev.step (fun k => by rw [dioramaref10_Length.l0]) ?_
  refine Ev.congr (fun k => if_neg (by omega)) ?_
  cases b with
  | true =>
   refine Ev.congr (fun k => if_pos rfl) (hj _ ?_)
   simp [sg] at hq
   cases x with
   | nil => simp [dv] at hq; simp; omega
   | cons z t =>
    have : dv 1000000000 (z :: t) ≠ 0 := fun h => by have := hnil.1 h; cases this
    simp
    omega
  | false =>
   refine Ev.congr (fun k => if_neg (by decide)) (hj _ ?_)
   simp [sg] at hq
   simp
   omega
 | cons e t ih =>
  intro pre b x y he hz
  have hlen : l.length = pre.length + (t.length + 1) := by rw [he]; simp
  have hx : rd_T77 l (pre.length : Int) = e := by rw [he]; exact rd_at pre e t
  have hi := in64_iff.1 (hw e (by rw [he]; simp))
  have i0 := hi.lo
  have i1 := hi.hi
  have hsp : sumD (pre ++ [e]) = sumD pre + e.f0 := by rw [sumD_app]; simp [sumD]
  have hpl : wrap64 ((pre.length : Int) + 1) = ((pre ++ [e]).length : Int) := by rw [w64 (by omega) (by omega)]; simp
  refine Ev.step (fun k => by rw [dioramaref10_Length.l0]) ?_
  refine Ev.congr (fun k => if_pos (by omega)) (Ev.congr (fun k => if_pos (by omega)) ?_)
  rw [hx, hpl]
  by_cases hn : e.f0 < 0
  ·obtain ⟨b2, x2, y2, e2, z2⟩ := ratioZ_f (-1) (by decide) (by decide)
   obtain ⟨b3, x3, y3, e3, z3⟩ := plusZ_f hz z2 (by omega)
   obtain ⟨b4, x4, y4, e4, z4⟩ := ratioZ_f (e.f0 + 1) (by omega) (by omega)
   obtain ⟨b5, x5, y5, e5, z5⟩ := plusZ_f z3 z4 (by omega)
   have hr := ih (pre ++ [e]) b5 x5 y5 (by rw [he]; simp) (by
    rw [hsp]
    refine ⟨z5.nx, z5.ny, z5.y1, by have := z5.eq; omega, ?_, ?_⟩
    ·have := z5.lx; simp only [List.length_append, List.length_cons, List.length_nil]; omega
    ·have := z5.ly; simp only [List.length_append, List.length_cons, List.length_nil]; omega)
   refine Ev.congr (fun k => if_pos hn) (Ev.bind e2 (Ev.bind e3 ?_))
   rw [w64 (by omega) (by omega)]
   exact Ev.bind e4 (Ev.bind e5 hr)
  ·obtain ⟨b2, x2, y2, e2, z2⟩ := ratioZ_f e.f0 (by omega) (by omega)
   obtain ⟨b3, x3, y3, e3, z3⟩ := plusZ_f hz z2 (by omega)
   have hr := ih (pre ++ [e]) b3 x3 y3 (by rw [he]; simp) (by
    rw [hsp]
    refine ⟨z3.nx, z3.ny, z3.y1, z3.eq, ?_, ?_⟩
    ·have := z3.lx; simp only [List.length_append, List.length_cons, List.length_nil]; omega
    ·have := z3.ly; simp only [List.length_append, List.length_cons, List.length_nil]; omega)
   exact Ev.congr (fun k => if_neg hn) (Ev.bind e2 (Ev.bind e3 hr))
theorem rLength_f (l : List Ed) (hl : l.length ≤ 100) (hw : ∀ x ∈ l, in64 x.f0 = true) : Ev (fun k => dioramaref10_Length.f k l) (lenB (sumD l)) := by
 obtain ⟨b, x, y, e, z⟩ := ratioZ_f 0 (by decide) (by decide)
 exact Ev.congr (fun k => rfl) (Ev.bind e (rLength_l l hl hw l [] b x y rfl z))
end Go.Proofs.Ytpbhepdgamoiaaa.Qp
namespace Go.Proofs.Ytpbhepdgamoiaaa.Qe
open Go.RowKit Go Go.Proofs.YtpbhepdgamoiaaaW.PrintWords Go.Proofs.YtpbhepdgamoiaaaW.PrintLast Go.Proofs.YtpbhepdgamoiaaaW.PrintMore Go.Proofs.Ytpbhepdgamoiaaa.Mn Go.Proofs.Ytpbhepdgamoiaaa.Er Go.Proofs.Ytpbhepdgamoiaaa.Ek Go.Proofs.Ytpbhepdgamoiaaa.E Go.Proofs.Ytpbhepdgamoiaaa.Pe Go.Proofs.Ytpbhepdgamoiaaa.Pf Go.Proofs.Ytpbhepdgamoiaaa.Pg
set_option linter.unusedVariables false
set_option linter.unusedSimpArgs false
theorem eqEdits_l (a b : List Ed) (hl : a.length ≤ 1000000) (ra : List Ed) : ∀ (pre rb : List Ed), a = pre ++ ra → b = pre ++ rb → ra.length = rb.length → Ev (fun k => dioramaref00_EqEdits.l0 k a b (pre.length : Int)) (decide (ra = rb)) := by
 induction ra with
 | nil =>
  intro pre rb ha hb hr
  have : rb = [] := by cases rb with | nil => rfl | cons _ _ => simp at hr
  subst this
  refine Ev.step (f := fun _ => some (decide (([] : List Ed) = []))) (fun k => ?_) (Ev.now _)
  simp only [dioramaref00_EqEdits.l0]
  rw [if_neg (by rw [ha]; simp)]
  simp
 | cons x t ih =>
  intro pre rb ha hb hr
  cases rb with
  | nil => simp at hr
  | cons y u =>
   have hx : rd_T77 a (pre.length : Int) = x := by rw [ha]; exact rd_at pre x t
   have hy : rd_T77 b (pre.length : Int) = y := by rw [hb]; exact rd_at pre y u
   have hla : a.length = pre.length + (t.length + 1) := by rw [ha]; simp
   have hlb : b.length = pre.length + (u.length + 1) := by rw [hb]; simp
   simp only [List.length_cons, Nat.add_right_cancel_iff] at hr
   by_cases hxy : x = y
   ·subst hxy
    have hi := ih (pre ++ [x]) u (by rw [ha]; simp) (by rw [hb]; simp) hr
    have e : decide (x :: t = x :: u) = decide (t = u) := by simp
    rw [e]
    refine Ev.step (fun k => ?_) hi
    simp only [dioramaref00_EqEdits.l0]
    rw [if_pos (by omega), if_pos (by omega), if_pos (by omega), hx, hy, ed_ne, if_neg (by simp), w64 (by omega) (by omega)]
    simp
   ·rw [decide_eq_false (by intro h; injection h with h _; exact hxy h)]
    refine Ev.step (f := fun _ => some false) (fun k => ?_) (Ev.now _)
    simp only [dioramaref00_EqEdits.l0]
    rw [if_pos (by omega), if_pos (by omega), if_pos (by omega), hx, hy, ed_ne, if_pos (by simpa using hxy)]
theorem eqEdits_f (a b : List Ed) (hl : a.length ≤ 1000000) : Ev (fun k => dioramaref00_EqEdits.f k a b) (decide (a = b)) := by
 by_cases h : a.length = b.length
 ·refine Ev.congr (fun k => ?_) (eqEdits_l a b hl a [] b rfl rfl h)
  unfold dioramaref00_EqEdits.f
  rw [if_pos (by omega)]; rfl
 ·rw [decide_eq_false (fun e => h (by rw [e]))]
  refine Ev.congr (fun k => ?_) (Ev.now _)
  unfold dioramaref00_EqEdits.f
  rw [if_neg (by omega)]
theorem eq_f (a : List Ed) (e : Int) (hl : a.length ≤ 1000000) : Ev (fun k => dioramalaw10_eq.f k a e a e) true := by
 have h := eqEdits_f a a hl
 rw [decide_eq_true rfl] at h
 refine Ev.congr (fun k => rfl) (Ev.bind h ?_)
 refine Ev.congr (fun k => if_pos rfl) ?_
 rw [show (e == e) = true by simp]
 exact Ev.now _
theorem norV_len (l : List Ed) (ms ts : Int) (h : l.length ≤ 1000000) : (norV ms ts l).1.length ≤ 1000000 := by
 unfold norV
 split
 ·have := nrm_len ms ts l
  show (nrm ms ts l).length ≤ 1000000
  omega
 ·simp
end Go.Proofs.Ytpbhepdgamoiaaa.Qe
namespace Go.Proofs.Ytpbhepdgamoiaaa.Ck
open Go.RowKit Go Go.Proofs.YtpbhepdgamoiaaaW.PrintWords Go.Proofs.YtpbhepdgamoiaaaW.PrintLast Go.Proofs.YtpbhepdgamoiaaaW.PrintMore Go.Proofs.Ytpbhepdgamoiaaa.Mn Go.Proofs.Ytpbhepdgamoiaaa.Er Go.Proofs.Ytpbhepdgamoiaaa.Ek Go.Proofs.Ytpbhepdgamoiaaa.E Go.Proofs.Ytpbhepdgamoiaaa.Pe Go.Proofs.Ytpbhepdgamoiaaa.Pf Go.Proofs.Ytpbhepdgamoiaaa.Pg Go.Proofs.Ytpbhepdgamoiaaa.Qp Go.Proofs.Ytpbhepdgamoiaaa.Qe Go.Proofs.Ytpbhepdgamoiaaa.Oe
set_option linter.unusedVariables false
set_option linter.unusedSimpArgs false
theorem pure_f (l : List Ed) (ms ts : Int) (hw : ∀ x ∈ l, in64 x.f0 = true) : Ev (fun k => dioramalaw10_EditChecks.f k l ms ts) true := by
 have hf : ∀ k, dioramalaw10_EditChecks.f k l ms ts = (some (decide (60 < l.length))).bind fun t => (if t = true then ((dioramalaw10_awake.f k).bind fun t => (some t)) else ((edit_Normal.f k l ms ts).bind fun b1 => ((dioramaref10_Normal.f k l ms ts).bind fun b2 => ((dioramalaw10_eq.f k b1.1 b1.2 b2.1 b2.2).bind fun t => (if t = true then ((edit_Check.f k l ms ts).bind fun t1 => ((dioramaref10_Check.f k l ms ts).bind fun t2 => (if t1 = t2 then ((edit_Length.f l).bind fun t3 => ((dioramaref10_Length.f k l).bind fun t4 => (if t3 = t4 then ((dioramalaw10_awake.f k).bind fun t => (some t)) else (some false)))) else (some false)))) else (some false)))))) := by
  intro k
  unfold dioramalaw10_EditChecks.f
  rw [many_f]
 refine Ev.congr hf ?_
 simp only [Option.bind_some, decide_eq_true_eq]
 by_cases h1 : 60 < l.length
 ·exact Ev.congr (fun k => if_pos h1) (Ev.bind awake_f (Ev.now _))
 ·refine Ev.congr (fun k => if_neg h1) (Ev.bind (Normal_f l ms ts) (Ev.bind (rNormal_f l ms ts) (Ev.bind (eq_f _ _ (norV_len l ms ts (by omega))) ?_)))
  refine Ev.congr (fun k => if_pos rfl) (Ev.bind (check_f l ms ts) (Ev.bind (rcheck_f l ms ts) ?_))
  refine Ev.congr (fun k => if_pos rfl) ?_
  rw [Length_f l (by omega) hw]
  refine Ev.congr (f := fun k => (dioramaref10_Length.f k l).bind fun t4 => (if lenB (sumD l) = t4 then ((dioramalaw10_awake.f k).bind fun t => (some t)) else (some false))) (fun k => rfl) (Ev.bind (rLength_f l (by omega) hw) ?_)
  exact Ev.congr (fun k => if_pos rfl) (Ev.bind awake_f (Ev.now _))
theorem walk (a : Option Addr) (n c : Nat) (l : List Ed) (ms ts : Int) (w : World) (h : Eds w a n c l) (_ : (Lit.int .i64 ms).wf = true) (_ : (Lit.int .i64 ts).wf = true) :
  Calls Try.prog 3 #[.agg #[.slice a n c, .int .i64 ms, .int .i64 ts]] w (fun e w' => e = .returned (.bool true) ∧ Below w.heap.size w w') := by
 obtain ⟨k, hk⟩ := (pure_f l ms ts (fun x hx => in64_wf (h.w x hx).d)).rounds
 rw [← h.n]
 exact dioramalaw10_EditChecks.calls k a c l ms ts true w h.c h.h hk
end Go.Proofs.Ytpbhepdgamoiaaa.Ck
namespace Go.Proofs.Ytpbhepdgamoiaaa.editChecksRow
open Go.ChangeShapes Go.WideShapes Go.ChangeAt Go.RowKit Go.Proofs.Ytpbhepdgamoiaaa.Oe
set_option linter.unusedVariables false
set_option maxRecDepth 100000 in
theorem lifted (os : Os) (started : os.Started) (H : Type) (enc : TypeId × Value → H) :
  ReturnsInHanded {} Try.checked os 3 .any (Rows.editChecksSpec.pre6 enc Try.prog Try.f3 Rows.editChecksRow.domain false) (Rows.editChecksSpec.post enc Try.prog Try.f3 false true false false) := by
 refine returnsInHanded_of_change_sized (C := Try.checked) own started (by kernel_rfl) Try.func3
  (ChangeSpec.witness6 (enc := enc) (C := Try.checked) false ⟨#[], #[.agg #[.slice none 0 0, .int .i64 0, .int .i64 0]], []⟩ 8 (by kernel_rfl) (by kernel_rfl) (by kernel_rfl) (by kernel_rfl)) ?_
 intro W base args ds gs before hval0 hW hcnd hsz0 _
 have hval : ∀ (j : Nat) t v, Try.f3.params[j]? = some t → args[j]? = some v → Value.okWide Try.prog W .any base t v := hval0
 have hW' := hW
 obtain ⟨p, q, hA0, hV, rfl, hfz, hnd⟩ := hW
 have hA : DataW.TrodAll enc Try.prog W 0 (fun _ => true) true Try.f3.params.toList args.toList ds p := hA0
 rw [Try.params3] at hA hval
 obtain ⟨v0, vs0, d0, ds0, p0, q0, hargs, rfl, rfl, h0, r0⟩ := trodAll_cons hA
 obtain ⟨rfl, rfl, rfl⟩ := trodAll_nil r0
 obtain rfl : args = #[v0] := by cases args; simp_all
 obtain ⟨rfl, rfl⟩ := trodVars_none hV
 have k0 := h0
 have lt0 : ∀ x ∈ p0, x.block < W.heap.size := by obtain ⟨m, hm⟩ := k0; exact DataW.trod_lt m _ _ _ hm
 obtain ⟨a0, len0, cap0, z0, m0, t0, rfl, w0, wm0, wt0⟩ := open_list (hval 0 24 v0 rfl rfl) h0
 clear hA0 hval0 hsz0
 refine (Ck.walk a0 len0 cap0 z0 m0 t0 W w0 wm0 wt0).mono fun e W' ⟨he, bel⟩ => ?_
 subst he
 exact ⟨_, rfl, _, _, _, [], _, [], hW', trodAll_mk1 (shut_bool Try.underlying4 _), (trodAll_cons_mk (Below.trod laidOut (by kernel_rfl) (of_decide_eq_true (by kernel_rfl)) k0 bel lt0) trodAll_mk0), rfl, bel.frame _, fun h => by cases h⟩
theorem over : Rows.editChecksRow.holds Try.pinned (OpenSpec.ofChange Rows.editChecksSpec) :=
 OpenClaim.holds_of_wide 3 Try.f3 rfl rfl rfl rfl rfl rfl rfl ⟨rfl, rfl, rfl, rfl, rfl⟩ rfl rfl rfl rfl rfl (by kernel_rfl) Try.func3 (by kernel_rfl)
  (of_decide_eq_true (by kernel_rfl)) (by unfold Func.isWrapper; first | (rw [if_pos (by decide +kernel)]; kernel_rfl) | (rw [if_neg (by decide +kernel)]; exact ⟨rfl, rfl⟩))
  (fun os started H enc _ => lifted os started H enc)
end Go.Proofs.Ytpbhepdgamoiaaa.editChecksRow
namespace Go.Proofs.Ytpbhepdgamoiaaa
theorem editChecks_holds : Rows.EditChecksSaid := editChecksRow.over
#print axioms editChecks_holds
end Go.Proofs.Ytpbhepdgamoiaaa

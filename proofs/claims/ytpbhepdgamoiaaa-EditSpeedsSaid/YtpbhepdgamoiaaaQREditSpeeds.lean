/-
  EditSpeeds: for every input the law returns true. The normal list of a list of edits as a plain value, and that the code tells it. Whether lists are equal, alike; the first example of the chapter. Whether two lists show the same. The reference's natural numbers, in digits of nine decimal places: what its printed functions compute. The reference's natural numbers: sums, differences, products, quotients, small ones. The reference divides. The reference's rational numbers as rational numbers. The reference's normal list is the same. What the reference tells of a list: its normal list, its first error, its length. The reference's whole number of a rational number. What a normal list shows, and how long it is. The reference's first error and length; lists compared. Two lists of edits with their errors, compared. EditFaster: a list that is so many times as fast is as the reference says. EditClocks: a list by other clocks is as the reference says. What a list by other clocks and a faster list show. Two lists that show the same are seen to. The reference's time of a rational number is its lowest form. The reference's rational numbers in memory: what its calls make of them. EditSpeeds: a faster list shows at a time what the list shows at a time as many times as great. EditSpeeds: for every input the law returns true.
-/
import Derived.Test.YtpbhepdgamoiaaaQREditSpeedsa
import Derived.Test.YtpbhepdgamoiaaaQREditSpeedsb
import Derived.Test.YtpbhepdgamoiaaaQREditSpeedsc
import Derived.Outline
import Derived.Test.YtpbhepdgamoiaaaRows
import Derived.WalkKit
import Derived.ProofKit
import Derived.OpenShut
import Derived.ChangeOld
import Derived.Below
import Derived.SizedLaws
import Derived.Carry
namespace Go.Proofs.Ytpbhepdgamoiaaa.E
open Go.Proofs.Ytpbhepdgamoiaaa.Z Go.RowKit Go.Proofs.YtpbhepdgamoiaaaW.PrintWords Go.Proofs.YtpbhepdgamoiaaaW.PrintLast Go.Proofs.YtpbhepdgamoiaaaW.PrintMore
attribute [local go_sem] max2_int min2_int max_two min_two max_three min_three max_four min_four
set_option linter.unusedVariables false
set_option linter.unusedSimpArgs false
def dioramaref02_Mul.j0 : Nat → Bool → Int → Int → Int → Int → Option (Int × Int × Int)
  | 0, _, _, _, _, _ => none
  | k + 1, x13, x797000, x797001, x798000, x798001 => if x13 = true then (some (0, 0, 4)) else ((dioramaref02_RatOf.f k x797000 x797001).bind fun bt801 => ((dioramaref02_RatOf.f k x798000 x798001).bind fun bt808 => ((dioramaref02_product.f k bt801.1 bt801.2.1 bt801.2.2 bt808.1 bt808.2.1 bt808.2.2).bind fun bt815 => ((dioramaref02_Time.f k bt815.1 bt815.2.1 bt815.2.2).bind fun bt822 => (some (bt822.1, bt822.2.1, bt822.2.2))))))
def dioramaref02_Mul.f (k : Nat) (a0_0 : Int) (a0_1 : Int) (a1_0 : Int) (a1_1 : Int) : Option (Int × Int × Int) := (dioramaref02_Valid.f a0_0 a0_1).bind fun t799 => (if t799 = true then ((dioramaref02_Valid.f a1_0 a1_1).bind fun t800 => (dioramaref02_Mul.j0 k (!t800) a0_0 a0_1 a1_0 a1_1)) else (dioramaref02_Mul.j0 k true a0_0 a0_1 a1_0 a1_1))
set_option maxHeartbeats 8000000 in
set_option maxRecDepth 100000 in
theorem dioramaref02_Mul.calls (k : Nat) (a0_0 : Int) (a0_1 : Int) (a1_0 : Int) (a1_1 : Int) (r1 : Int) (r2 : Int) (r3 : Int) (w : World) (h : dioramaref02_Mul.f k a0_0 a0_1 a1_0 a1_1 = some (r1, r2, r3)) :
  Calls Try.prog 36 #[.agg #[.int .i64 a0_0, .int .i64 a0_1], .agg #[.int .i64 a1_0, .int .i64 a1_1]] w fun e w' => e = .returned (.tuple #[.agg #[.int .i64 r1, .int .i64 r2], .int .i64 r3]) ∧ Below w.heap.size w w' := by
 have hu37 := Try.underlying37; have HB := Aside0.mk (Below.refl w.heap.size w); have H : ((dioramaref02_Valid.f a0_0 a0_1).bind fun t799 => (if t799 = true then ((dioramaref02_Valid.f a1_0 a1_1).bind fun t800 => (dioramaref02_Mul.j0 k (!t800) a0_0 a0_1 a1_0 a1_1)) else (dioramaref02_Mul.j0 k true a0_0 a0_1 a1_0 a1_1))) = some (r1, r2, r3) := h
 clear h; have HC3 := Aside0.mk H; clear H
 go_enter Try.func36, Try.ntmps36
 go_upto_region 1 with (first | ((with_reducible refine gate_dst (N := 2) rfl ?_); refine zB 2 37 #[.int .i64 a0_0, .int .i64 a0_1] ?_; intro gb796 hg w4 hbox hb; have BK796 := Aside0.mk hbox; have GW796 := gz hg; have GE796 := gz hg; replace HB := bp hb; clear hb hbox hg) | ((with_reducible refine gate_dst (N := 3) rfl ?_); refine zB 3 37 #[.int .i64 a1_0, .int .i64 a1_1] ?_; intro gb797 hg w5 hbox hb; have BK797 := Aside0.mk hbox; have GW797 := gz hg; have GE797 := gz hg; replace HB := bp hb; have NB796_797 := Aside0.mk ((by rw [hg]; exact Nat.ne_of_lt (bl BK796) : gb796 ≠ gb797)); have NB797_796 := Aside0.mk ((by rw [hg]; exact Nat.ne_of_gt (bl BK796) : gb797 ≠ gb796)); replace BK796 := kb BK796 hb; clear hb hbox hg) | ((with_reducible refine gate_dst (N := 4) rfl ?_); refine zB 4 37 #[.int .i64 0, .int .i64 0] ?_; intro gb798 hg w6 hbox hb; have BK798 := Aside0.mk hbox; have GW798 := gz hg; have GE798 := gz hg; replace HB := bp hb; have NB796_798 := Aside0.mk ((by rw [hg]; exact Nat.ne_of_lt (bl BK796) : gb796 ≠ gb798)); have NB798_796 := Aside0.mk ((by rw [hg]; exact Nat.ne_of_gt (bl BK796) : gb798 ≠ gb796)); replace BK796 := kb BK796 hb; have NB797_798 := Aside0.mk ((by rw [hg]; exact Nat.ne_of_lt (bl BK797) : gb797 ≠ gb798)); have NB798_797 := Aside0.mk ((by rw [hg]; exact Nat.ne_of_gt (bl BK797) : gb798 ≠ gb797)); replace BK797 := kb BK797 hb; clear hb hbox hg))
 (try simp only [Act.put, List.setIfInBounds_toArray, List.set_cons_zero, List.set_cons_succ])
 go_cut [13] (fun v13 wc => ∃ (kq : Nat) (x13_2 : Bool), v13 = .bool x13_2 ∧ Aside0 (dioramaref02_Mul.j0 kq x13_2 a0_0 a0_1 a1_0 a1_1 = some (r1, r2, r3)) ∧ Aside0 (kq ≤ k) ∧ Aside0 (wc.heap[gb796]? = some (.cells #[.int .i64 a0_0, .int .i64 a0_1] 37 (0, 0))) ∧ Aside0 (wc.heap[gb797]? = some (.cells #[.int .i64 a1_0, .int .i64 a1_1] 37 (0, 0))) ∧ Aside0 (wc.heap[gb798]? = some (.cells #[.int .i64 0, .int .i64 0] 37 (0, 0))) ∧ Aside0 (Below w.heap.size w wc))
 case first =>
  have H := HC3.out; clear HC3; obtain ⟨t799, A7, H⟩ := ob H
  by_cases c8 : t799 = true
  ·subst c8; rw [if_pos rfl] at H; obtain ⟨t800, A9, H⟩ := ob H; have H' := Aside0.mk H; clear H; have hnb10 := NB796_797.out; have hnc10 := NB797_796.out; have hnb11 := NB796_798.out; have hnc11 := NB798_796.out; obtain ⟨hcz12_0, hcz12_1, hfz12_0, hfz12_1⟩ := xc2 BK796
   go_wp2_with (first | ((with_reducible refine gate_callee (f := 35) rfl ?_); refine zC 7 Try.func35 #[.agg #[.int .i64 a0_0, .int .i64 a0_1]] ?_; (with_reducible refine (dioramaref02_Valid.calls a0_0 a0_1 true _ A7.out).mono ?_); rintro e w13 ⟨rfl, hb⟩; refine ⟨_, rfl, ?_⟩; replace BK796 := kb BK796 hb; replace BK797 := kb BK797 hb; replace BK798 := kb BK798 hb; replace HB := bp hb; clear hb; have hnb14 := NB797_798.out; have hnc14 := NB798_797.out; obtain ⟨hcz15_0, hcz15_1, hfz15_0, hfz15_1⟩ := xc2 BK797) | (go_at_call 35; (with_reducible refine (dioramaref02_Valid.calls a1_0 a1_1 t800 _ A9.out).mono ?_); rintro e w16 ⟨rfl, hb⟩; replace BK796 := kb BK796 hb; replace BK797 := kb BK797 hb; replace BK798 := kb BK798 hb; replace HB := bp hb; clear hb))
   go_meet
   case rel => exact ⟨_, (!t800), jz, H', ⟨by first | omega | exact Nat.le_refl _⟩, ⟨kz⟩, ⟨kz⟩, ⟨kz⟩, ⟨bz⟩⟩
  ·obtain rfl := bf c8; rw [if_neg (show ¬ (false = true) by decide)] at H; have H' := Aside0.mk H; clear H; have hnb17 := NB796_797.out; have hnc17 := NB797_796.out; have hnb18 := NB796_798.out; have hnc18 := NB798_796.out; obtain ⟨hcz19_0, hcz19_1, hfz19_0, hfz19_1⟩ := xc2 BK796
   go_wp2_with (first | ((with_reducible refine gate_callee (f := 35) rfl ?_); refine zC 7 Try.func35 #[.agg #[.int .i64 a0_0, .int .i64 a0_1]] ?_; (with_reducible refine (dioramaref02_Valid.calls a0_0 a0_1 false _ A7.out).mono ?_); rintro e w20 ⟨rfl, hb⟩; refine ⟨_, rfl, ?_⟩; replace BK796 := kb BK796 hb; replace BK797 := kb BK797 hb; replace BK798 := kb BK798 hb; replace HB := bp hb; clear hb))
   go_meet
   case rel => exact ⟨_, (true), jz, H', ⟨by first | omega | exact Nat.le_refl _⟩, ⟨kz⟩, ⟨kz⟩, ⟨kz⟩, ⟨bz⟩⟩
 case rest =>
  clear HC3
  try clear c1
  try clear p2
  try clear c3
  try clear c8
  try clear c10
  try clear c11
  try clear c14
  try clear c17
  try clear c18
  try clear hcz12_0
  try clear hcz12_1
  try clear hcz15_0
  try clear hcz15_1
  try clear hcz19_0
  try clear hcz19_1
  try clear hfz12_0
  try clear hfz12_1
  try clear hfz15_0
  try clear hfz15_1
  try clear hfz19_0
  try clear hfz19_1
  obtain ⟨kq, x13_2, rfl, HA, HJ2, BK796, BK797, BK798, HB⟩ := hcut
  cases kq with
  | zero => exact absurd HA.out (by simp [dioramaref02_Mul.j0])
  | succ kj2 =>
   have H := HA.out; clear HA; simp only [dioramaref02_Mul.j0] at H
   by_cases c21 : x13_2 = true
   ·subst c21; rw [if_pos rfl] at H; simp only [Option.some.injEq, Prod.mk.injEq] at H; obtain ⟨rfl, rfl, rfl⟩ := H; have hnb22 := NB798_796.out; have hnc22 := NB796_798.out; have hnb23 := NB798_797.out; have hnc23 := NB797_798.out; obtain ⟨hcz24_0, hcz24_1, hfz24_0, hfz24_1⟩ := xc2 BK798
    go_wp2
    refine bodyPost_ret (results_ct rfl _ _ gb798 37 #[.int .i64 0, .int .i64 0] (0, 0) _ rfl (by (with_reducible repeat (first | refine blk_drewN ?_ _ | refine blk_drew ?_ | refine blk_alloc ?_ _)); refine blk_put (cs := #[.int .i64 0, .int .i64 0]) ?_ 1 _ rfl; (with_reducible repeat (first | refine blk_drewN ?_ _ | refine blk_drew ?_ | refine blk_alloc ?_ _)); refine blk_put (cs := #[.int .i64 0, .int .i64 0]) ?_ 0 _ rfl; (with_reducible repeat (first | refine blk_drewN ?_ _ | refine blk_drew ?_ | refine blk_alloc ?_ _)); exact BK798.out) Try.underlying37 rfl (by kernel_rfl)) rfl ?_
    exact ⟨ez, bz⟩
   ·obtain rfl := bf c21; rw [if_neg (show ¬ (false = true) by decide)] at H; obtain ⟨⟨t801, t802, t805⟩, A25, H⟩ := ob H
    (try dsimp only at H)
    obtain ⟨⟨t808, t809, t812⟩, A26, H⟩ := ob H
    (try dsimp only at H)
    obtain ⟨⟨t815, t816, t819⟩, A27, H⟩ := ob H
    (try dsimp only at H)
    obtain ⟨⟨t822, t823, t824⟩, A28, H⟩ := ob H
    (try dsimp only at H)
    simp only [Option.some.injEq, Prod.mk.injEq] at H; obtain ⟨rfl, rfl, rfl⟩ := H
    try go_wp2
    replace BK796 := Aside0.mk (blk_drew BK796.out); replace BK797 := Aside0.mk (blk_drew BK797.out); replace BK798 := Aside0.mk (blk_drew BK798.out); replace HB := Aside0.mk (below_drew1 HB.out); refine start_ (n := 10) (S := fun w' => w'.cell? ⟨gb796, 0, none⟩ = some (.int .i64 a0_0) ∧ w'.cell? ⟨gb796, 1, none⟩ = some (.int .i64 a0_1) ∧ w'.cell? ⟨gb797, 0, none⟩ = some (.int .i64 a1_0) ∧ w'.cell? ⟨gb797, 1, none⟩ = some (.int .i64 a1_1)) (ds := []) (bs 10 0) (by kernel_rfl) rfl rfl ⟨ct BK796 0, ct BK796 1, ct BK797 0, ct BK797 1⟩ (fun hHeld => ?_)
    generalize wc.drew = w29 at BK796 BK797 BK798 HB hHeld ⊢; refine zT 0 15 10 1 hHeld ?_; refine zT 2 17 10 5 hHeld ?_; refine zN 1 (some 16) 10 7 (fun K hK => ?_); refine zG Try.func85 #[.agg #[.int .i64 a0_0, .int .i64 a0_1]] ?_
    with_reducible refine (dioramaref02_RatOf.calls kj2 a0_0 a0_1 t801 t802 t805 _ A25.out).mono ?_
    rintro e w30 ⟨v803, v806, rfl, ho0, ho1, hb⟩; refine ⟨_, rfl, ?_⟩; have HO804 := Aside0.mk (Kd.R_lower ho0 sz); have HO807 := Aside0.mk (Kd.R_lower ho1 sz); replace BK796 := kb BK796 hb; replace BK797 := kb BK797 hb; replace BK798 := kb BK798 hb; replace HB := bp hb; clear hb ho0 ho1; refine hK.out _ _ ⟨ct BK796 0, ct BK796 1, ct BK797 0, ct BK797 1⟩ (fun hHeld => ?_); clear hK K; refine zM 16 ?_; refine zN 3 (some 18) 10 15 (fun K hK => ?_); refine zG Try.func85 #[.agg #[.int .i64 a1_0, .int .i64 a1_1]] ?_
    with_reducible refine (dioramaref02_RatOf.calls kj2 a1_0 a1_1 t808 t809 t812 _ A26.out).mono ?_
    rintro e w31 ⟨v810, v813, rfl, ho0, ho1, hb⟩; refine ⟨_, rfl, ?_⟩; have HO811 := Aside0.mk (Kd.R_lower (Kd.R_new' (Kd.R_new' ho0 (Kd.R_lt (rz HO804))) (Kd.R_lt (rz HO807))) sz); have HO814 := Aside0.mk (Kd.R_lower (Kd.R_new' (Kd.R_new' ho1 (Kd.R_lt (rz HO804))) (Kd.R_lt (rz HO807))) sz); replace HO804 := Aside0.mk (Kd.R_mono (Kd.R_told (Kd.R_told (Kd.R_old (rz HO804) hb) (Kd.R_base ho0)) (Kd.R_base ho1)) (fun _ h_ => h_.1)); replace HO807 := Aside0.mk (Kd.R_mono (Kd.R_told (Kd.R_told (Kd.R_old (rz HO807) hb) (Kd.R_base ho0)) (Kd.R_base ho1)) (fun _ h_ => h_.1)); replace BK796 := kb BK796 hb; replace BK797 := kb BK797 hb; replace BK798 := kb BK798 hb; replace HB := bp hb; clear hb ho0 ho1; obtain ⟨Ao32, co32, eo32⟩ := Kd.R_slice HO804.out
    (first | subst eo32 | (injection eo32 with f1_ f2_ f3_; have f4_ := f1_.symm; have f5_ := f3_.symm; clear f1_ f2_ f3_; subst f4_; subst f5_))
    obtain ⟨Ao33, co33, eo33⟩ := Kd.R_slice HO807.out
    (first | subst eo33 | (injection eo33 with f1_ f2_ f3_; have f4_ := f1_.symm; have f5_ := f3_.symm; clear f1_ f2_ f3_; subst f4_; subst f5_))
    obtain ⟨Ao34, co34, eo34⟩ := Kd.R_slice HO811.out
    (first | subst eo34 | (injection eo34 with f1_ f2_ f3_; have f4_ := f1_.symm; have f5_ := f3_.symm; clear f1_ f2_ f3_; subst f4_; subst f5_))
    obtain ⟨Ao35, co35, eo35⟩ := Kd.R_slice HO814.out
    (first | subst eo35 | (injection eo35 with f1_ f2_ f3_; have f4_ := f1_.symm; have f5_ := f3_.symm; clear f1_ f2_ f3_; subst f4_; subst f5_))
    refine hK.out _ _ ⟨ct BK796 0, ct BK796 1, ct BK797 0, ct BK797 1⟩ (fun hHeld => ?_); clear hK K; refine zM 18 ?_; refine zN 4 (some 19) 10 31 (fun K hK => ?_); refine zG Try.func91 #[.agg #[.bool t801, .slice Ao32 t802.length co32, .slice Ao33 t805.length co33], .agg #[.bool t808, .slice Ao34 t809.length co34, .slice Ao35 t812.length co35]] ?_
    with_reducible refine (dioramaref02_product.calls kj2 t801 _ _ t802 _ _ t805 t808 _ _ t809 _ _ t812 t815 t816 t819 _ ?side1 ?side2 ?side3 ?side4 ?side5 ?side6 ?side7 ?side8 A27.out).mono ?_
    (case side1 => exact cr HO804)
    (case side2 => exact (Kd.R_reads' HO804.out).2.1)
    (case side3 => exact cr HO807)
    (case side4 => exact (Kd.R_reads' HO807.out).2.1)
    (case side5 => exact cr HO811)
    (case side6 => exact (Kd.R_reads' HO811.out).2.1)
    (case side7 => exact cr HO814)
    (case side8 => exact (Kd.R_reads' HO814.out).2.1)
    rintro e w36 ⟨v817, v820, rfl, ho0, ho1, hb⟩; refine ⟨_, rfl, ?_⟩; have HO818 := Aside0.mk (Kd.R_lower (Kd.R_new' (Kd.R_new' (Kd.R_new' (Kd.R_new' ho0 (Kd.R_lt (rz HO804))) (Kd.R_lt (rz HO807))) (Kd.R_lt (rz HO811))) (Kd.R_lt (rz HO814))) sz); have HO821 := Aside0.mk (Kd.R_lower (Kd.R_new' (Kd.R_new' (Kd.R_new' (Kd.R_new' ho1 (Kd.R_lt (rz HO804))) (Kd.R_lt (rz HO807))) (Kd.R_lt (rz HO811))) (Kd.R_lt (rz HO814))) sz); replace HO804 := Aside0.mk (Kd.R_mono (Kd.R_told (Kd.R_told (Kd.R_old (rz HO804) hb) (Kd.R_base ho0)) (Kd.R_base ho1)) (fun _ h_ => h_.1)); replace HO807 := Aside0.mk (Kd.R_mono (Kd.R_told (Kd.R_told (Kd.R_old (rz HO807) hb) (Kd.R_base ho0)) (Kd.R_base ho1)) (fun _ h_ => h_.1)); replace HO811 := Aside0.mk (Kd.R_mono (Kd.R_told (Kd.R_told (Kd.R_old (rz HO811) hb) (Kd.R_base ho0)) (Kd.R_base ho1)) (fun _ h_ => h_.1)); replace HO814 := Aside0.mk (Kd.R_mono (Kd.R_told (Kd.R_told (Kd.R_old (rz HO814) hb) (Kd.R_base ho0)) (Kd.R_base ho1)) (fun _ h_ => h_.1)); replace BK796 := kb BK796 hb; replace BK797 := kb BK797 hb; replace BK798 := kb BK798 hb; replace HB := bp hb; clear hb ho0 ho1; obtain ⟨Ao37, co37, eo37⟩ := Kd.R_slice HO818.out
    (first | subst eo37 | (injection eo37 with f1_ f2_ f3_; have f4_ := f1_.symm; have f5_ := f3_.symm; clear f1_ f2_ f3_; subst f4_; subst f5_))
    obtain ⟨Ao38, co38, eo38⟩ := Kd.R_slice HO821.out
    (first | subst eo38 | (injection eo38 with f1_ f2_ f3_; have f4_ := f1_.symm; have f5_ := f3_.symm; clear f1_ f2_ f3_; subst f4_; subst f5_))
    refine hK.out _ _ ⟨ct BK796 0, ct BK796 1, ct BK797 0, ct BK797 1⟩ (fun hHeld => ?_); clear hK K; refine zM 19 ?_; refine zN 5 (some 20) 10 63 (fun K hK => ?_); refine zG Try.func87 #[.agg #[.bool t815, .slice Ao37 t816.length co37, .slice Ao38 t819.length co38]] ?_
    with_reducible refine (dioramaref02_Time.calls kj2 t815 (fun k_ => some k_ = (.slice Ao37 t816.length co37 : Value).ownBlock) _ _ t816 (fun k_ => some k_ = (.slice Ao38 t819.length co38 : Value).ownBlock) _ _ t819 t822 t823 t824 _ ?side1 ?side2 A28.out).mono ?_
    (case side1 => exact Kd.R_V (Kd.R_tight rfl (Kd.R_types (Kd.R_types (Kd.R_types (HO818.out) BK796.out (by decide)) BK797.out (by decide)) BK798.out (by decide))))
    (case side2 => exact Kd.R_V (Kd.R_tight rfl (Kd.R_types (Kd.R_types (Kd.R_types (HO821.out) BK796.out (by decide)) BK797.out (by decide)) BK798.out (by decide))))
    rintro e w39 ⟨rfl, hb⟩; refine ⟨_, rfl, ?_⟩; replace HO804 := Aside0.mk (Kd.R_below (rz HO804) hb); replace HO807 := Aside0.mk (Kd.R_below (rz HO807) hb); replace HO811 := Aside0.mk (Kd.R_below (rz HO811) hb); replace HO814 := Aside0.mk (Kd.R_below (rz HO814) hb); replace HO818 := Aside0.mk (Kd.R_below (rz HO818) hb); replace HO821 := Aside0.mk (Kd.R_below (rz HO821) hb); replace BK796 := kb BK796 hb; replace BK797 := kb BK797 hb; replace BK798 := kb BK798 hb; replace HB := bp hb; clear hb; refine hK.out _ _ ⟨ct BK796 0, ct BK796 1, ct BK797 0, ct BK797 1⟩ (fun hHeld => ?_); clear hK K; refine zM 20 ?_; refine zP 6 21 10 127 ?_; refine zP 7 22 10 255 ?_; refine zN 8 none 10 511 (fun K hK => ?_); have hs40 : w39.cell? ⟨gb798, 0, none⟩ = some (.int .i64 0) := ct BK798 0; have hfs40 := blk_frozen BK798.out 0; have hns40_0 := NB796_798.out; have hns40_1 := NB797_798.out; have hms40_0 := NB798_796.out; have hms40_1 := NB798_797.out; have hs41 : w39.cell? ⟨gb798, 1, none⟩ = some (.int .i64 0) := ct BK798 1; have hfs41 := blk_frozen BK798.out 1; have hns41_0 := NB796_798.out; have hns41_1 := NB797_798.out; have hms41_0 := NB798_796.out; have hms41_1 := NB798_797.out; refine skip_ (w1 := ?_) (by rfl) rfl ?_ ?_
    rotate_left
    ·go_simp
     rfl
    refine hK.out _ _ ⟨((cell_far (p := ⟨gb798, _, none⟩) NB796_798.out _).trans (((cell_far (p := ⟨gb798, _, none⟩) NB796_798.out _).trans (hHeld.1)))), ((cell_far (p := ⟨gb798, _, none⟩) NB796_798.out _).trans (((cell_far (p := ⟨gb798, _, none⟩) NB796_798.out _).trans (hHeld.2.1)))), ((cell_far (p := ⟨gb798, _, none⟩) NB797_798.out _).trans (((cell_far (p := ⟨gb798, _, none⟩) NB797_798.out _).trans (hHeld.2.2.1)))), ((cell_far (p := ⟨gb798, _, none⟩) NB797_798.out _).trans (((cell_far (p := ⟨gb798, _, none⟩) NB797_798.out _).trans (hHeld.2.2.2))))⟩ (fun hHeld => ?_); clear hK K; refine zP 9 5 10 1023 ?_; refine done_ (by kernel_rfl) ?_
    try go_wp2
    refine bodyPost_ret (results_ct rfl _ _ gb798 37 #[.int .i64 t822, .int .i64 t823] (0, 0) _ rfl (by (with_reducible repeat (first | refine blk_drewN ?_ _ | refine blk_drew ?_ | refine blk_alloc ?_ _)); refine blk_put (cs := #[.int .i64 t822, .int .i64 0]) ?_ 1 _ rfl; (with_reducible repeat (first | refine blk_drewN ?_ _ | refine blk_drew ?_ | refine blk_alloc ?_ _)); refine blk_put (cs := #[.int .i64 0, .int .i64 0]) ?_ 0 _ rfl; (with_reducible repeat (first | refine blk_drewN ?_ _ | refine blk_drew ?_ | refine blk_alloc ?_ _)); exact BK798.out) Try.underlying37 rfl (by kernel_rfl)) rfl ?_
    exact ⟨ez, bz⟩
def dioramalaw10_EditSpeeds.j0 : Nat → Bool → List (S77) → Int → Int → Int → Int → Int → Int → Option (Bool)
  | 0, _, _, _, _, _, _, _, _ => none
  | k + 1, x18, x826000, x826001, x826002, x827000, x827001, x828000, x828001 => if x18 = true then ((dioramalaw10_awake.f k).bind fun t830 => (some t830)) else ((edit_Faster.f k x826000 x826001 x826002 x827000 x827001).bind fun bt831 => (if bt831.2 = 0 then ((dioramaref02_Mul.f k x828000 x828001 x827000 x827001).bind fun bt836 => (if bt836.2.2 = 0 then ((dioramalaw10_shows.f bt831.1 x826001 x826002 x828000 x828001 x826000 x826001 x826002 bt836.1 bt836.2.1).bind fun t840 => (if t840 = true then ((dioramalaw10_awake.f k).bind fun t841 => (some t841)) else (some false))) else ((dioramalaw10_awake.f k).bind fun t842 => (some t842)))) else ((dioramalaw10_awake.f k).bind fun t835 => (some t835))))
def dioramalaw10_EditSpeeds.f (k : Nat) (l0_0 : List (S77)) (a0_1 : Int) (a0_2 : Int) (a1_0 : Int) (a1_1 : Int) (a2_0 : Int) (a2_1 : Int) : Option (Bool) := (dioramalaw10_many.f l0_0).bind fun t828 => (if t828 = true then (dioramalaw10_EditSpeeds.j0 k true l0_0 a0_1 a0_2 a1_0 a1_1 a2_0 a2_1) else ((dioramaref02_Valid.f a2_0 a2_1).bind fun t829 => (dioramalaw10_EditSpeeds.j0 k (!t829) l0_0 a0_1 a0_2 a1_0 a1_1 a2_0 a2_1)))
set_option maxHeartbeats 8000000 in
set_option maxRecDepth 100000 in
theorem dioramalaw10_EditSpeeds.calls (k : Nat) (A0_0 : Option Addr) (c0_0 : Nat) (l0_0 : List (S77)) (a0_1 : Int) (a0_2 : Int) (a1_0 : Int) (a1_1 : Int) (a2_0 : Int) (a2_1 : Int) (r : Bool) (w : World) (hr0_0 : Kd.C k77 w A0_0 l0_0.length l0_0) (hc0_0 : l0_0.length ≤ c0_0) (h : dioramalaw10_EditSpeeds.f k l0_0 a0_1 a0_2 a1_0 a1_1 a2_0 a2_1 = some r) :
  Calls Try.prog 8 #[.agg #[.slice A0_0 l0_0.length c0_0, .int .i64 a0_1, .int .i64 a0_2], .agg #[.int .i64 a1_0, .int .i64 a1_1], .agg #[.int .i64 a2_0, .int .i64 a2_1]] w fun e w' => e = .returned (.bool r) ∧ Below w.heap.size w w' := by
 have hu24 := Try.underlying24; have hu44 := Try.underlying44; have hu37 := Try.underlying37; have HR0_0 := Aside0.mk hr0_0; have HC0_0 := Aside0.mk hc0_0; clear hr0_0 hc0_0; have HB := Aside0.mk (Below.refl w.heap.size w); have H : ((dioramalaw10_many.f l0_0).bind fun t828 => (if t828 = true then (dioramalaw10_EditSpeeds.j0 k true l0_0 a0_1 a0_2 a1_0 a1_1 a2_0 a2_1) else ((dioramaref02_Valid.f a2_0 a2_1).bind fun t829 => (dioramalaw10_EditSpeeds.j0 k (!t829) l0_0 a0_1 a0_2 a1_0 a1_1 a2_0 a2_1)))) = some r := h
 clear h; have HC4 := Aside0.mk H; clear H
 go_enter Try.func8, Try.ntmps8
 go_upto_region 1 with (first | ((with_reducible refine gate_dst (N := 3) rfl ?_); refine zB 3 24 #[.slice A0_0 l0_0.length c0_0, .int .i64 a0_1, .int .i64 a0_2] ?_; intro gb825 hg w5 hbox hb; have BK825 := Aside0.mk hbox; have GW825 := gz hg; have GE825 := gz hg; replace HB := bp hb; clear hb hbox hg) | ((with_reducible refine gate_dst (N := 4) rfl ?_); refine zB 4 44 #[.int .i64 a1_0, .int .i64 a1_1] ?_; intro gb826 hg w6 hbox hb; have BK826 := Aside0.mk hbox; have GW826 := gz hg; have GE826 := gz hg; replace HB := bp hb; have NB825_826 := Aside0.mk ((by rw [hg]; exact Nat.ne_of_lt (bl BK825) : gb825 ≠ gb826)); have NB826_825 := Aside0.mk ((by rw [hg]; exact Nat.ne_of_gt (bl BK825) : gb826 ≠ gb825)); replace BK825 := kb BK825 hb; clear hb hbox hg) | ((with_reducible refine gate_dst (N := 5) rfl ?_); refine zB 5 37 #[.int .i64 a2_0, .int .i64 a2_1] ?_; intro gb827 hg w7 hbox hb; have BK827 := Aside0.mk hbox; have GW827 := gz hg; have GE827 := gz hg; replace HB := bp hb; have NB825_827 := Aside0.mk ((by rw [hg]; exact Nat.ne_of_lt (bl BK825) : gb825 ≠ gb827)); have NB827_825 := Aside0.mk ((by rw [hg]; exact Nat.ne_of_gt (bl BK825) : gb827 ≠ gb825)); replace BK825 := kb BK825 hb; have NB826_827 := Aside0.mk ((by rw [hg]; exact Nat.ne_of_lt (bl BK826) : gb826 ≠ gb827)); have NB827_826 := Aside0.mk ((by rw [hg]; exact Nat.ne_of_gt (bl BK826) : gb827 ≠ gb826)); replace BK826 := kb BK826 hb; clear hb hbox hg))
 (try simp only [Act.put, List.setIfInBounds_toArray, List.set_cons_zero, List.set_cons_succ])
 go_cut [18] (fun v18 wc => ∃ (kq : Nat) (x18_3 : Bool), v18 = .bool x18_3 ∧ Aside0 (dioramalaw10_EditSpeeds.j0 kq x18_3 l0_0 a0_1 a0_2 a1_0 a1_1 a2_0 a2_1 = some r) ∧ Aside0 (kq ≤ k) ∧ Aside0 (wc.heap[gb825]? = some (.cells #[(.slice A0_0 l0_0.length c0_0), .int .i64 a0_1, .int .i64 a0_2] 24 (0, 0))) ∧ Aside0 (wc.heap[gb826]? = some (.cells #[.int .i64 a1_0, .int .i64 a1_1] 44 (0, 0))) ∧ Aside0 (wc.heap[gb827]? = some (.cells #[.int .i64 a2_0, .int .i64 a2_1] 37 (0, 0))) ∧ Aside0 (Below w.heap.size w wc))
 case first =>
  have H := HC4.out; clear HC4; obtain ⟨t828, A8, H⟩ := ob H
  by_cases c9 : t828 = true
  ·subst c9; rw [if_pos rfl] at H; have H' := Aside0.mk H; clear H; have hnb10 := NB825_826.out; have hnc10 := NB826_825.out; have hnb11 := NB825_827.out; have hnc11 := NB827_825.out; obtain ⟨hcz12_0, hcz12_1, hcz12_2, hfz12_0, hfz12_1, hfz12_2⟩ := xc3 BK825
   go_wp2_with (first | ((with_reducible refine gate_callee (f := 19) rfl ?_); refine zC 13 Try.func19 #[.slice A0_0 l0_0.length c0_0] ?_; (with_reducible refine (dioramalaw10_many.calls _ _ l0_0 true _ ?side1 ?side2 A8.out).mono ?_); (case side1 => exact cz HR0_0); (case side2 => exact HC0_0.out); rintro e w' ⟨rfl, ⟨nd, rfl⟩⟩; refine ⟨_, rfl, ?_⟩))
   go_meet
   case rel => exact ⟨_, (true), jz, H', ⟨by first | omega | exact Nat.le_refl _⟩, ⟨kz⟩, ⟨kz⟩, ⟨kz⟩, ⟨bz⟩⟩
  ·obtain rfl := bf c9; rw [if_neg (show ¬ (false = true) by decide)] at H; obtain ⟨t829, A13, H⟩ := ob H; have H' := Aside0.mk H; clear H; have hnb14 := NB825_826.out; have hnc14 := NB826_825.out; have hnb15 := NB825_827.out; have hnc15 := NB827_825.out; obtain ⟨hcz16_0, hcz16_1, hcz16_2, hfz16_0, hfz16_1, hfz16_2⟩ := xc3 BK825
   go_wp2_with (first | ((with_reducible refine gate_callee (f := 19) rfl ?_); refine zC 13 Try.func19 #[.slice A0_0 l0_0.length c0_0] ?_; (with_reducible refine (dioramalaw10_many.calls _ _ l0_0 false _ ?side1 ?side2 A8.out).mono ?_); (case side1 => exact cz HR0_0); (case side2 => exact HC0_0.out); rintro e w' ⟨rfl, ⟨nd, rfl⟩⟩; refine ⟨_, rfl, ?_⟩; have hnb17 := NB827_826.out; have hnc17 := NB826_827.out; obtain ⟨hcz18_0, hcz18_1, hfz18_0, hfz18_1⟩ := xc2 BK827) | (go_at_call 35; (with_reducible refine (dioramaref02_Valid.calls a2_0 a2_1 t829 _ A13.out).mono ?_); rintro e w19 ⟨rfl, hb⟩; replace BK825 := kb BK825 hb; replace BK826 := kb BK826 hb; replace BK827 := kb BK827 hb; replace HB := bp hb; clear hb))
   go_meet
   case rel => exact ⟨_, (!t829), jz, H', ⟨by first | omega | exact Nat.le_refl _⟩, ⟨kz⟩, ⟨kz⟩, ⟨kz⟩, ⟨bz⟩⟩
 case rest =>
  clear HC4
  try clear c1
  try clear p2
  try clear c8
  try clear c9
  try clear c10
  try clear c11
  try clear c14
  try clear c15
  try clear c17
  try clear c19
  try clear hcz12_0
  try clear hcz12_1
  try clear hcz12_2
  try clear hcz16_0
  try clear hcz16_1
  try clear hcz16_2
  try clear hcz18_0
  try clear hcz18_1
  try clear hfz12_0
  try clear hfz12_1
  try clear hfz12_2
  try clear hfz16_0
  try clear hfz16_1
  try clear hfz16_2
  try clear hfz18_0
  try clear hfz18_1
  obtain ⟨kq, x18_3, rfl, HA, HJ3, BK825, BK826, BK827, HB⟩ := hcut
  cases kq with
  | zero => exact absurd HA.out (by simp [dioramalaw10_EditSpeeds.j0])
  | succ kj3 =>
   have H := HA.out; clear HA; simp only [dioramalaw10_EditSpeeds.j0] at H
   by_cases c20 : x18_3 = true
   ·subst c20; rw [if_pos rfl] at H; obtain ⟨t830, A21, H⟩ := ob H; obtain rfl := Option.some.inj H
    go_wp2_with (first | ((with_reducible refine gate_callee (f := 20) rfl ?_); refine zC 19 Try.func20 #[] ?_; (with_reducible refine (dioramalaw10_awake.calls kj3  t830 _ A21.out).mono ?_); rintro e w22 ⟨rfl, hb⟩; refine ⟨_, rfl, ?_⟩; replace BK825 := kb BK825 hb; replace BK826 := kb BK826 hb; replace BK827 := kb BK827 hb; replace HB := bp hb; clear hb))
    go_ret
    exact ⟨ez, bz⟩
   ·obtain rfl := bf c20; rw [if_neg (show ¬ (false = true) by decide)] at H; obtain ⟨⟨t831, t832⟩, A23, H⟩ := ob H
    (try dsimp only at H)
    by_cases c24 : t832 = 0
    ·rw [if_pos c24] at H; have c24b0 : (t832 == 0) = true := beq_iff_eq.mpr c24; have c24b1 : (t832 != 0) = false := bne_eq_false_iff_eq.mpr c24; clear c24; obtain ⟨⟨t836, t837, t838⟩, A25, H⟩ := ob H
     (try dsimp only at H)
     by_cases c26 : t838 = 0
     ·rw [if_pos c26] at H; have c26b0 : (t838 == 0) = true := beq_iff_eq.mpr c26; have c26b1 : (t838 != 0) = false := bne_eq_false_iff_eq.mpr c26; clear c26; obtain ⟨t840, A27, H⟩ := ob H
      by_cases c28 : t840 = true
      ·subst c28; rw [if_pos rfl] at H; obtain ⟨t841, A29, H⟩ := ob H; obtain rfl := Option.some.inj H; have hnb30 := NB825_826.out; have hnc30 := NB826_825.out; have hnb31 := NB825_827.out; have hnc31 := NB827_825.out; obtain ⟨hcz32_0, hcz32_1, hcz32_2, hfz32_0, hfz32_1, hfz32_2⟩ := xc3 BK825; have hnb33 := NB826_827.out; have hnc33 := NB827_826.out; obtain ⟨hcz34_0, hcz34_1, hfz34_0, hfz34_1⟩ := xc2 BK826
       go_wp2_with (first | ((with_reducible refine gate_callee (f := 28) rfl ?_); refine zC 31 Try.func28 #[.slice A0_0 l0_0.length c0_0, .int .i64 a0_1, .int .i64 a0_2, .int .i64 a1_0, .int .i64 a1_1] ?_; (with_reducible refine (edit_Faster.calls kj3 _ _ l0_0 a0_1 a0_2 a1_0 a1_1 t831 t832 _ ?side1 ?side2 A23.out).mono ?_); (case side1 => exact cz HR0_0); (case side2 => exact HC0_0.out); rintro e w35 ⟨v833, rfl, ho0, hb⟩; refine ⟨_, rfl, ?_⟩; have HO834 := Aside0.mk (Kd.R_lower ho0 sz); replace BK825 := kb BK825 hb; replace BK826 := kb BK826 hb; replace BK827 := kb BK827 hb; replace HB := bp hb; clear hb ho0; obtain ⟨hcz36_0, hcz36_1, hfz36_0, hfz36_1⟩ := xc2 BK827; obtain ⟨hcz37_0, hcz37_1, hfz37_0, hfz37_1⟩ := xc2 BK826) | ((with_reducible refine gate_callee (f := 36) rfl ?_); refine zC 44 Try.func36 #[.agg #[.int .i64 a2_0, .int .i64 a2_1], .agg #[.int .i64 a1_0, .int .i64 a1_1]] ?_; (with_reducible refine (dioramaref02_Mul.calls kj3 a2_0 a2_1 a1_0 a1_1 t836 t837 t838 _ A25.out).mono ?_); rintro e w38 ⟨rfl, hb⟩; refine ⟨_, rfl, ?_⟩; replace HO834 := Aside0.mk (Kd.R_below (rz HO834) hb); replace BK825 := kb BK825 hb; replace BK826 := kb BK826 hb; replace BK827 := kb BK827 hb; replace HB := bp hb; clear hb) | ((with_reducible refine gate_dst (N := 9) rfl ?_); refine zB 9 37 #[.int .i64 0, .int .i64 0] ?_; intro gb839 hg w39 hbox hb; replace HO834 := Aside0.mk (Kd.R_below (rz HO834) hb); have BK839 := Aside0.mk hbox; have GW839 := gz hg; have GE839 := gz hg; replace HB := bp hb; have NB825_839 := Aside0.mk ((by rw [hg]; exact Nat.ne_of_lt (bl BK825) : gb825 ≠ gb839)); have NB839_825 := Aside0.mk ((by rw [hg]; exact Nat.ne_of_gt (bl BK825) : gb839 ≠ gb825)); replace BK825 := kb BK825 hb; have NB826_839 := Aside0.mk ((by rw [hg]; exact Nat.ne_of_lt (bl BK826) : gb826 ≠ gb839)); have NB839_826 := Aside0.mk ((by rw [hg]; exact Nat.ne_of_gt (bl BK826) : gb839 ≠ gb826)); replace BK826 := kb BK826 hb; have NB827_839 := Aside0.mk ((by rw [hg]; exact Nat.ne_of_lt (bl BK827) : gb827 ≠ gb839)); have NB839_827 := Aside0.mk ((by rw [hg]; exact Nat.ne_of_gt (bl BK827) : gb839 ≠ gb827)); replace BK827 := kb BK827 hb; clear hb hbox hg; have hnb40 := NB839_825.out; have hnc40 := NB825_839.out; have hnb41 := NB839_826.out; have hnc41 := NB826_839.out; have hnb42 := NB839_827.out; have hnc42 := NB827_839.out; obtain ⟨hcz43_0, hcz43_1, hfz43_0, hfz43_1⟩ := xc2 BK839; obtain ⟨hcz44_0, hcz44_1, hcz44_2, hfz44_0, hfz44_1, hfz44_2⟩ := xc3 BK825; obtain ⟨Ao45, co45, eo45⟩ := Kd.R_slice HO834.out; subst eo45; obtain ⟨hcz46_0, hcz46_1, hfz46_0, hfz46_1⟩ := xc2 BK827) | ((with_reducible refine gate_callee (f := 37) rfl ?_); refine zC 59 Try.func37 #[.agg #[.slice Ao45 t831.length co45, .int .i64 a0_1, .int .i64 a0_2], .agg #[.int .i64 a2_0, .int .i64 a2_1], .agg #[.slice A0_0 l0_0.length c0_0, .int .i64 a0_1, .int .i64 a0_2], .agg #[.int .i64 t836, .int .i64 t837]] ?_; (with_reducible refine (dioramalaw10_shows.calls _ _ t831 a0_1 a0_2 a2_0 a2_1 _ _ l0_0 a0_1 a0_2 t836 t837 true _ ?side1 ?side2 ?side3 ?side4 A27.out).mono ?_); (case side1 => refine (Kd.R_reads' (e := 77) (base := w.heap.size) (ok := fun k_ => True) (n := t831.length) (c := co45) ?_).2.2; exact (by (with_reducible repeat (first | apply Kd.R_alloc | apply Kd.R_drewN | apply Kd.R_drew)); exact (Kd.R_mono (Kd.R_far (p := ⟨gb839, 1, none⟩) (Kd.R_far (p := ⟨gb839, 0, none⟩) (Kd.R_types HO834.out BK839.out (by decide)) (fun _ hk => hk.2) (.int .i64 t836)) (fun _ hk => hk.2) (.int .i64 t837)) (fun _ h_ => h_.1)))); (case side2 => exact (Kd.R_reads' HO834.out).2.1); (case side3 => exact Kd.C_below HR0_0.out bz); (case side4 => exact HC0_0.out); rintro e w47 ⟨rfl, hb⟩; refine ⟨_, rfl, ?_⟩; replace HO834 := Aside0.mk (Kd.R_below (by (with_reducible repeat (first | apply Kd.R_alloc | apply Kd.R_drewN | apply Kd.R_drew)); exact (Kd.R_mono (Kd.R_far (p := ⟨gb839, 1, none⟩) (Kd.R_far (p := ⟨gb839, 0, none⟩) (Kd.R_types HO834.out BK839.out (by decide)) (fun _ hk => hk.2) (.int .i64 t836)) (fun _ hk => hk.2) (.int .i64 t837)) (fun _ h_ => h_.1))) hb); replace BK825 := Aside0.mk (blk_below (g := gb825) (o := .cells #[.slice A0_0 l0_0.length c0_0, .int .i64 a0_1, .int .i64 a0_2] 24 (0, 0)) (by (with_reducible repeat (first | refine blk_drewN ?_ _ | refine blk_drew ?_ | refine blk_alloc ?_ _)); refine blk_far ?_ NB825_839.out _; (with_reducible repeat (first | refine blk_drewN ?_ _ | refine blk_drew ?_ | refine blk_alloc ?_ _)); refine blk_far ?_ NB825_839.out _; (with_reducible repeat (first | refine blk_drewN ?_ _ | refine blk_drew ?_ | refine blk_alloc ?_ _)); exact BK825.out) hb); replace BK826 := Aside0.mk (blk_below (g := gb826) (o := .cells #[.int .i64 a1_0, .int .i64 a1_1] 44 (0, 0)) (by (with_reducible repeat (first | refine blk_drewN ?_ _ | refine blk_drew ?_ | refine blk_alloc ?_ _)); refine blk_far ?_ NB826_839.out _; (with_reducible repeat (first | refine blk_drewN ?_ _ | refine blk_drew ?_ | refine blk_alloc ?_ _)); refine blk_far ?_ NB826_839.out _; (with_reducible repeat (first | refine blk_drewN ?_ _ | refine blk_drew ?_ | refine blk_alloc ?_ _)); exact BK826.out) hb); replace BK827 := Aside0.mk (blk_below (g := gb827) (o := .cells #[.int .i64 a2_0, .int .i64 a2_1] 37 (0, 0)) (by (with_reducible repeat (first | refine blk_drewN ?_ _ | refine blk_drew ?_ | refine blk_alloc ?_ _)); refine blk_far ?_ NB827_839.out _; (with_reducible repeat (first | refine blk_drewN ?_ _ | refine blk_drew ?_ | refine blk_alloc ?_ _)); refine blk_far ?_ NB827_839.out _; (with_reducible repeat (first | refine blk_drewN ?_ _ | refine blk_drew ?_ | refine blk_alloc ?_ _)); exact BK827.out) hb); replace BK839 := Aside0.mk (blk_below (g := gb839) (o := .cells #[.int .i64 t836, .int .i64 t837] 37 (0, 0)) (by (with_reducible repeat (first | refine blk_drewN ?_ _ | refine blk_drew ?_ | refine blk_alloc ?_ _)); refine blk_put (cs := #[.int .i64 t836, .int .i64 0]) ?_ 1 _ rfl; (with_reducible repeat (first | refine blk_drewN ?_ _ | refine blk_drew ?_ | refine blk_alloc ?_ _)); refine blk_put (cs := #[.int .i64 0, .int .i64 0]) ?_ 0 _ rfl; (with_reducible repeat (first | refine blk_drewN ?_ _ | refine blk_drew ?_ | refine blk_alloc ?_ _)); exact BK839.out) hb); replace HB := bp hb; clear hb) | (go_at_call 20; (with_reducible refine (dioramalaw10_awake.calls kj3  t841 _ A29.out).mono ?_); rintro e w48 ⟨rfl, hb⟩; replace HO834 := Aside0.mk (Kd.R_below (rz HO834) hb); replace BK825 := kb BK825 hb; replace BK826 := kb BK826 hb; replace BK827 := kb BK827 hb; replace BK839 := kb BK839 hb; replace HB := bp hb; clear hb))
       go_ret
       exact ⟨ez, bz⟩
      ·obtain rfl := bf c28; rw [if_neg (show ¬ (false = true) by decide)] at H; obtain rfl := Option.some.inj H; have hnb49 := NB825_826.out; have hnc49 := NB826_825.out; have hnb50 := NB825_827.out; have hnc50 := NB827_825.out; obtain ⟨hcz51_0, hcz51_1, hcz51_2, hfz51_0, hfz51_1, hfz51_2⟩ := xc3 BK825; have hnb52 := NB826_827.out; have hnc52 := NB827_826.out; obtain ⟨hcz53_0, hcz53_1, hfz53_0, hfz53_1⟩ := xc2 BK826
       go_wp2_with (first | ((with_reducible refine gate_callee (f := 28) rfl ?_); refine zC 31 Try.func28 #[.slice A0_0 l0_0.length c0_0, .int .i64 a0_1, .int .i64 a0_2, .int .i64 a1_0, .int .i64 a1_1] ?_; (with_reducible refine (edit_Faster.calls kj3 _ _ l0_0 a0_1 a0_2 a1_0 a1_1 t831 t832 _ ?side1 ?side2 A23.out).mono ?_); (case side1 => exact cz HR0_0); (case side2 => exact HC0_0.out); rintro e w54 ⟨v833, rfl, ho0, hb⟩; refine ⟨_, rfl, ?_⟩; have HO834 := Aside0.mk (Kd.R_lower ho0 sz); replace BK825 := kb BK825 hb; replace BK826 := kb BK826 hb; replace BK827 := kb BK827 hb; replace HB := bp hb; clear hb ho0; obtain ⟨hcz55_0, hcz55_1, hfz55_0, hfz55_1⟩ := xc2 BK827; obtain ⟨hcz56_0, hcz56_1, hfz56_0, hfz56_1⟩ := xc2 BK826) | ((with_reducible refine gate_callee (f := 36) rfl ?_); refine zC 44 Try.func36 #[.agg #[.int .i64 a2_0, .int .i64 a2_1], .agg #[.int .i64 a1_0, .int .i64 a1_1]] ?_; (with_reducible refine (dioramaref02_Mul.calls kj3 a2_0 a2_1 a1_0 a1_1 t836 t837 t838 _ A25.out).mono ?_); rintro e w57 ⟨rfl, hb⟩; refine ⟨_, rfl, ?_⟩; replace HO834 := Aside0.mk (Kd.R_below (rz HO834) hb); replace BK825 := kb BK825 hb; replace BK826 := kb BK826 hb; replace BK827 := kb BK827 hb; replace HB := bp hb; clear hb) | ((with_reducible refine gate_dst (N := 9) rfl ?_); refine zB 9 37 #[.int .i64 0, .int .i64 0] ?_; intro gb839 hg w58 hbox hb; replace HO834 := Aside0.mk (Kd.R_below (rz HO834) hb); have BK839 := Aside0.mk hbox; have GW839 := gz hg; have GE839 := gz hg; replace HB := bp hb; have NB825_839 := Aside0.mk ((by rw [hg]; exact Nat.ne_of_lt (bl BK825) : gb825 ≠ gb839)); have NB839_825 := Aside0.mk ((by rw [hg]; exact Nat.ne_of_gt (bl BK825) : gb839 ≠ gb825)); replace BK825 := kb BK825 hb; have NB826_839 := Aside0.mk ((by rw [hg]; exact Nat.ne_of_lt (bl BK826) : gb826 ≠ gb839)); have NB839_826 := Aside0.mk ((by rw [hg]; exact Nat.ne_of_gt (bl BK826) : gb839 ≠ gb826)); replace BK826 := kb BK826 hb; have NB827_839 := Aside0.mk ((by rw [hg]; exact Nat.ne_of_lt (bl BK827) : gb827 ≠ gb839)); have NB839_827 := Aside0.mk ((by rw [hg]; exact Nat.ne_of_gt (bl BK827) : gb839 ≠ gb827)); replace BK827 := kb BK827 hb; clear hb hbox hg; have hnb59 := NB839_825.out; have hnc59 := NB825_839.out; have hnb60 := NB839_826.out; have hnc60 := NB826_839.out; have hnb61 := NB839_827.out; have hnc61 := NB827_839.out; obtain ⟨hcz62_0, hcz62_1, hfz62_0, hfz62_1⟩ := xc2 BK839; obtain ⟨hcz63_0, hcz63_1, hcz63_2, hfz63_0, hfz63_1, hfz63_2⟩ := xc3 BK825; obtain ⟨Ao64, co64, eo64⟩ := Kd.R_slice HO834.out; subst eo64; obtain ⟨hcz65_0, hcz65_1, hfz65_0, hfz65_1⟩ := xc2 BK827) | ((with_reducible refine gate_callee (f := 37) rfl ?_); refine zC 59 Try.func37 #[.agg #[.slice Ao64 t831.length co64, .int .i64 a0_1, .int .i64 a0_2], .agg #[.int .i64 a2_0, .int .i64 a2_1], .agg #[.slice A0_0 l0_0.length c0_0, .int .i64 a0_1, .int .i64 a0_2], .agg #[.int .i64 t836, .int .i64 t837]] ?_; (with_reducible refine (dioramalaw10_shows.calls _ _ t831 a0_1 a0_2 a2_0 a2_1 _ _ l0_0 a0_1 a0_2 t836 t837 false _ ?side1 ?side2 ?side3 ?side4 A27.out).mono ?_); (case side1 => refine (Kd.R_reads' (e := 77) (base := w.heap.size) (ok := fun k_ => True) (n := t831.length) (c := co64) ?_).2.2; exact (by (with_reducible repeat (first | apply Kd.R_alloc | apply Kd.R_drewN | apply Kd.R_drew)); exact (Kd.R_mono (Kd.R_far (p := ⟨gb839, 1, none⟩) (Kd.R_far (p := ⟨gb839, 0, none⟩) (Kd.R_types HO834.out BK839.out (by decide)) (fun _ hk => hk.2) (.int .i64 t836)) (fun _ hk => hk.2) (.int .i64 t837)) (fun _ h_ => h_.1)))); (case side2 => exact (Kd.R_reads' HO834.out).2.1); (case side3 => exact Kd.C_below HR0_0.out bz); (case side4 => exact HC0_0.out); rintro e w66 ⟨rfl, hb⟩; refine ⟨_, rfl, ?_⟩; replace HO834 := Aside0.mk (Kd.R_below (by (with_reducible repeat (first | apply Kd.R_alloc | apply Kd.R_drewN | apply Kd.R_drew)); exact (Kd.R_mono (Kd.R_far (p := ⟨gb839, 1, none⟩) (Kd.R_far (p := ⟨gb839, 0, none⟩) (Kd.R_types HO834.out BK839.out (by decide)) (fun _ hk => hk.2) (.int .i64 t836)) (fun _ hk => hk.2) (.int .i64 t837)) (fun _ h_ => h_.1))) hb); replace BK825 := Aside0.mk (blk_below (g := gb825) (o := .cells #[.slice A0_0 l0_0.length c0_0, .int .i64 a0_1, .int .i64 a0_2] 24 (0, 0)) (by (with_reducible repeat (first | refine blk_drewN ?_ _ | refine blk_drew ?_ | refine blk_alloc ?_ _)); refine blk_far ?_ NB825_839.out _; (with_reducible repeat (first | refine blk_drewN ?_ _ | refine blk_drew ?_ | refine blk_alloc ?_ _)); refine blk_far ?_ NB825_839.out _; (with_reducible repeat (first | refine blk_drewN ?_ _ | refine blk_drew ?_ | refine blk_alloc ?_ _)); exact BK825.out) hb); replace BK826 := Aside0.mk (blk_below (g := gb826) (o := .cells #[.int .i64 a1_0, .int .i64 a1_1] 44 (0, 0)) (by (with_reducible repeat (first | refine blk_drewN ?_ _ | refine blk_drew ?_ | refine blk_alloc ?_ _)); refine blk_far ?_ NB826_839.out _; (with_reducible repeat (first | refine blk_drewN ?_ _ | refine blk_drew ?_ | refine blk_alloc ?_ _)); refine blk_far ?_ NB826_839.out _; (with_reducible repeat (first | refine blk_drewN ?_ _ | refine blk_drew ?_ | refine blk_alloc ?_ _)); exact BK826.out) hb); replace BK827 := Aside0.mk (blk_below (g := gb827) (o := .cells #[.int .i64 a2_0, .int .i64 a2_1] 37 (0, 0)) (by (with_reducible repeat (first | refine blk_drewN ?_ _ | refine blk_drew ?_ | refine blk_alloc ?_ _)); refine blk_far ?_ NB827_839.out _; (with_reducible repeat (first | refine blk_drewN ?_ _ | refine blk_drew ?_ | refine blk_alloc ?_ _)); refine blk_far ?_ NB827_839.out _; (with_reducible repeat (first | refine blk_drewN ?_ _ | refine blk_drew ?_ | refine blk_alloc ?_ _)); exact BK827.out) hb); replace BK839 := Aside0.mk (blk_below (g := gb839) (o := .cells #[.int .i64 t836, .int .i64 t837] 37 (0, 0)) (by (with_reducible repeat (first | refine blk_drewN ?_ _ | refine blk_drew ?_ | refine blk_alloc ?_ _)); refine blk_put (cs := #[.int .i64 t836, .int .i64 0]) ?_ 1 _ rfl; (with_reducible repeat (first | refine blk_drewN ?_ _ | refine blk_drew ?_ | refine blk_alloc ?_ _)); refine blk_put (cs := #[.int .i64 0, .int .i64 0]) ?_ 0 _ rfl; (with_reducible repeat (first | refine blk_drewN ?_ _ | refine blk_drew ?_ | refine blk_alloc ?_ _)); exact BK839.out) hb); replace HB := bp hb; clear hb))
       go_ret
       exact ⟨ez, bz⟩
     ·rw [if_neg c26] at H; have c26b0 : (t838 == 0) = false := beq_eq_false_iff_ne.mpr c26; have c26b1 : (t838 != 0) = true := bne_iff_ne.mpr c26; obtain ⟨t842, A67, H⟩ := ob H; obtain rfl := Option.some.inj H; have hnb68 := NB825_826.out; have hnc68 := NB826_825.out; have hnb69 := NB825_827.out; have hnc69 := NB827_825.out; obtain ⟨hcz70_0, hcz70_1, hcz70_2, hfz70_0, hfz70_1, hfz70_2⟩ := xc3 BK825; have hnb71 := NB826_827.out; have hnc71 := NB827_826.out; obtain ⟨hcz72_0, hcz72_1, hfz72_0, hfz72_1⟩ := xc2 BK826
      go_wp2_with (first | ((with_reducible refine gate_callee (f := 28) rfl ?_); refine zC 31 Try.func28 #[.slice A0_0 l0_0.length c0_0, .int .i64 a0_1, .int .i64 a0_2, .int .i64 a1_0, .int .i64 a1_1] ?_; (with_reducible refine (edit_Faster.calls kj3 _ _ l0_0 a0_1 a0_2 a1_0 a1_1 t831 t832 _ ?side1 ?side2 A23.out).mono ?_); (case side1 => exact cz HR0_0); (case side2 => exact HC0_0.out); rintro e w73 ⟨v833, rfl, ho0, hb⟩; refine ⟨_, rfl, ?_⟩; have HO834 := Aside0.mk (Kd.R_lower ho0 sz); replace BK825 := kb BK825 hb; replace BK826 := kb BK826 hb; replace BK827 := kb BK827 hb; replace HB := bp hb; clear hb ho0; obtain ⟨hcz74_0, hcz74_1, hfz74_0, hfz74_1⟩ := xc2 BK827; obtain ⟨hcz75_0, hcz75_1, hfz75_0, hfz75_1⟩ := xc2 BK826) | ((with_reducible refine gate_callee (f := 36) rfl ?_); refine zC 44 Try.func36 #[.agg #[.int .i64 a2_0, .int .i64 a2_1], .agg #[.int .i64 a1_0, .int .i64 a1_1]] ?_; (with_reducible refine (dioramaref02_Mul.calls kj3 a2_0 a2_1 a1_0 a1_1 t836 t837 t838 _ A25.out).mono ?_); rintro e w76 ⟨rfl, hb⟩; refine ⟨_, rfl, ?_⟩; replace HO834 := Aside0.mk (Kd.R_below (rz HO834) hb); replace BK825 := kb BK825 hb; replace BK826 := kb BK826 hb; replace BK827 := kb BK827 hb; replace HB := bp hb; clear hb) | ((with_reducible refine gate_dst (N := 9) rfl ?_); refine zB 9 37 #[.int .i64 0, .int .i64 0] ?_; intro gb839 hg w77 hbox hb; replace HO834 := Aside0.mk (Kd.R_below (rz HO834) hb); have BK839 := Aside0.mk hbox; have GW839 := gz hg; have GE839 := gz hg; replace HB := bp hb; have NB825_839 := Aside0.mk ((by rw [hg]; exact Nat.ne_of_lt (bl BK825) : gb825 ≠ gb839)); have NB839_825 := Aside0.mk ((by rw [hg]; exact Nat.ne_of_gt (bl BK825) : gb839 ≠ gb825)); replace BK825 := kb BK825 hb; have NB826_839 := Aside0.mk ((by rw [hg]; exact Nat.ne_of_lt (bl BK826) : gb826 ≠ gb839)); have NB839_826 := Aside0.mk ((by rw [hg]; exact Nat.ne_of_gt (bl BK826) : gb839 ≠ gb826)); replace BK826 := kb BK826 hb; have NB827_839 := Aside0.mk ((by rw [hg]; exact Nat.ne_of_lt (bl BK827) : gb827 ≠ gb839)); have NB839_827 := Aside0.mk ((by rw [hg]; exact Nat.ne_of_gt (bl BK827) : gb839 ≠ gb827)); replace BK827 := kb BK827 hb; clear hb hbox hg; have hnb78 := NB839_825.out; have hnc78 := NB825_839.out; have hnb79 := NB839_826.out; have hnc79 := NB826_839.out; have hnb80 := NB839_827.out; have hnc80 := NB827_839.out; obtain ⟨hcz81_0, hcz81_1, hfz81_0, hfz81_1⟩ := xc2 BK839) | ((with_reducible refine gate_callee (f := 20) rfl ?_); refine zC 49 Try.func20 #[] ?_; (with_reducible refine (dioramalaw10_awake.calls kj3  t842 _ A67.out).mono ?_); rintro e w82 ⟨rfl, hb⟩; refine ⟨_, rfl, ?_⟩; replace HO834 := Aside0.mk (Kd.R_below (by (with_reducible repeat (first | apply Kd.R_alloc | apply Kd.R_drewN | apply Kd.R_drew)); exact (Kd.R_mono (Kd.R_far (p := ⟨gb839, 1, none⟩) (Kd.R_far (p := ⟨gb839, 0, none⟩) (Kd.R_types HO834.out BK839.out (by decide)) (fun _ hk => hk.2) (.int .i64 t836)) (fun _ hk => hk.2) (.int .i64 t837)) (fun _ h_ => h_.1))) hb); replace BK825 := Aside0.mk (blk_below (g := gb825) (o := .cells #[.slice A0_0 l0_0.length c0_0, .int .i64 a0_1, .int .i64 a0_2] 24 (0, 0)) (by (with_reducible repeat (first | refine blk_drewN ?_ _ | refine blk_drew ?_ | refine blk_alloc ?_ _)); refine blk_far ?_ NB825_839.out _; (with_reducible repeat (first | refine blk_drewN ?_ _ | refine blk_drew ?_ | refine blk_alloc ?_ _)); refine blk_far ?_ NB825_839.out _; (with_reducible repeat (first | refine blk_drewN ?_ _ | refine blk_drew ?_ | refine blk_alloc ?_ _)); exact BK825.out) hb); replace BK826 := Aside0.mk (blk_below (g := gb826) (o := .cells #[.int .i64 a1_0, .int .i64 a1_1] 44 (0, 0)) (by (with_reducible repeat (first | refine blk_drewN ?_ _ | refine blk_drew ?_ | refine blk_alloc ?_ _)); refine blk_far ?_ NB826_839.out _; (with_reducible repeat (first | refine blk_drewN ?_ _ | refine blk_drew ?_ | refine blk_alloc ?_ _)); refine blk_far ?_ NB826_839.out _; (with_reducible repeat (first | refine blk_drewN ?_ _ | refine blk_drew ?_ | refine blk_alloc ?_ _)); exact BK826.out) hb); replace BK827 := Aside0.mk (blk_below (g := gb827) (o := .cells #[.int .i64 a2_0, .int .i64 a2_1] 37 (0, 0)) (by (with_reducible repeat (first | refine blk_drewN ?_ _ | refine blk_drew ?_ | refine blk_alloc ?_ _)); refine blk_far ?_ NB827_839.out _; (with_reducible repeat (first | refine blk_drewN ?_ _ | refine blk_drew ?_ | refine blk_alloc ?_ _)); refine blk_far ?_ NB827_839.out _; (with_reducible repeat (first | refine blk_drewN ?_ _ | refine blk_drew ?_ | refine blk_alloc ?_ _)); exact BK827.out) hb); replace BK839 := Aside0.mk (blk_below (g := gb839) (o := .cells #[.int .i64 t836, .int .i64 t837] 37 (0, 0)) (by (with_reducible repeat (first | refine blk_drewN ?_ _ | refine blk_drew ?_ | refine blk_alloc ?_ _)); refine blk_put (cs := #[.int .i64 t836, .int .i64 0]) ?_ 1 _ rfl; (with_reducible repeat (first | refine blk_drewN ?_ _ | refine blk_drew ?_ | refine blk_alloc ?_ _)); refine blk_put (cs := #[.int .i64 0, .int .i64 0]) ?_ 0 _ rfl; (with_reducible repeat (first | refine blk_drewN ?_ _ | refine blk_drew ?_ | refine blk_alloc ?_ _)); exact BK839.out) hb); replace HB := bp hb; clear hb))
      go_ret
      exact ⟨ez, bz⟩
    ·rw [if_neg c24] at H; have c24b0 : (t832 == 0) = false := beq_eq_false_iff_ne.mpr c24; have c24b1 : (t832 != 0) = true := bne_iff_ne.mpr c24; obtain ⟨t835, A83, H⟩ := ob H; obtain rfl := Option.some.inj H; have hnb84 := NB825_826.out; have hnc84 := NB826_825.out; have hnb85 := NB825_827.out; have hnc85 := NB827_825.out; obtain ⟨hcz86_0, hcz86_1, hcz86_2, hfz86_0, hfz86_1, hfz86_2⟩ := xc3 BK825; have hnb87 := NB826_827.out; have hnc87 := NB827_826.out; obtain ⟨hcz88_0, hcz88_1, hfz88_0, hfz88_1⟩ := xc2 BK826
     go_wp2_with (first | ((with_reducible refine gate_callee (f := 28) rfl ?_); refine zC 31 Try.func28 #[.slice A0_0 l0_0.length c0_0, .int .i64 a0_1, .int .i64 a0_2, .int .i64 a1_0, .int .i64 a1_1] ?_; (with_reducible refine (edit_Faster.calls kj3 _ _ l0_0 a0_1 a0_2 a1_0 a1_1 t831 t832 _ ?side1 ?side2 A23.out).mono ?_); (case side1 => exact cz HR0_0); (case side2 => exact HC0_0.out); rintro e w89 ⟨v833, rfl, ho0, hb⟩; refine ⟨_, rfl, ?_⟩; have HO834 := Aside0.mk (Kd.R_lower ho0 sz); replace BK825 := kb BK825 hb; replace BK826 := kb BK826 hb; replace BK827 := kb BK827 hb; replace HB := bp hb; clear hb ho0) | ((with_reducible refine gate_callee (f := 20) rfl ?_); refine zC 36 Try.func20 #[] ?_; (with_reducible refine (dioramalaw10_awake.calls kj3  t835 _ A83.out).mono ?_); rintro e w90 ⟨rfl, hb⟩; refine ⟨_, rfl, ?_⟩; replace HO834 := Aside0.mk (Kd.R_below (rz HO834) hb); replace BK825 := kb BK825 hb; replace BK826 := kb BK826 hb; replace BK827 := kb BK827 hb; replace HB := bp hb; clear hb))
     go_ret
     exact ⟨ez, bz⟩
end Go.Proofs.Ytpbhepdgamoiaaa.E
namespace Go.Proofs.Ytpbhepdgamoiaaa.Pf
open Go.RowKit Go Go.Proofs.YtpbhepdgamoiaaaW.PrintWords Go.Proofs.YtpbhepdgamoiaaaW.PrintLast Go.Proofs.YtpbhepdgamoiaaaW.PrintMore Go.Proofs.Ytpbhepdgamoiaaa.Mn Go.Proofs.Ytpbhepdgamoiaaa.Rf Go.Proofs.Ytpbhepdgamoiaaa.Er Go.Proofs.Ytpbhepdgamoiaaa.Ek Go.Proofs.Ytpbhepdgamoiaaa.E Go.Proofs.Ytpbhepdgamoiaaa.Pe
set_option linter.unusedVariables false
set_option linter.unusedSimpArgs false
def lowV (x : Ed) : Ed := ⟨x.f0, x.f1, (qq x.f2 x.f3).num, ((qq x.f2 x.f3).den : Int)⟩
def ovV (ms ts : Int) (a b : Ed) : Bool := overB ms ts a.f0 a.f1 a.f2 a.f3 b.f1 b.f2 b.f3
def push (ms ts : Int) : List Ed → Ed → List Ed
 | [], e => [e]
 | a :: t, e => if ovV ms ts a e = true then ⟨a.f0 + e.f0, a.f1, a.f2, a.f3⟩ :: t else e :: a :: t
def nrmR (ms ts : Int) (out l : List Ed) : List Ed := (l.map lowV).foldl (push ms ts) out
def nrm (ms ts : Int) (l : List Ed) : List Ed := (nrmR ms ts [] l).reverse
def fin (out : List Ed) : List Ed × Int := if 20 < out.length then ([], 2) else (out.reverse, 0)
def nrmV (ms ts : Int) (l : List Ed) : List Ed × Int := if 1099511627776 < sumD l then ([], 2) else fin (nrmR ms ts [] l)
structure Wd (x : Ed) : Prop where
 d0 : 1 ≤ x.f0
 m0 : -1 ≤ x.f1
 m1 : x.f1 ≤ 1099511627776
 n0 : 0 ≤ x.f2
 n1 : x.f2 ≤ 1000
 e0 : 1 ≤ x.f3
 e1 : x.f3 ≤ 1000
theorem wd_low {x : Ed} (h : Vd x) : Wd (lowV x) := by
 have hq := qq_low h.n0 h.e0
 have h1 := h.n1
 have h2 := h.e1
 exact ⟨h.d0, h.m0, h.m1, hq.1, by unfold lowV; simp only; omega, hq.2.2.1, by unfold lowV; simp only; omega⟩
theorem low_f {x : Ed} (h : Vd x) : edit_lowest.f x.f0 x.f1 x.f2 x.f3 = some ((lowV x).f0, (lowV x).f1, (lowV x).f2, (lowV x).f3) := by
 unfold edit_lowest.f rateOk
 have h0 := h.n0
 have h1 := h.n1
 have h2 := h.e0
 have h3 := h.e1
 rw [decide_eq_true h0, decide_eq_true (show x.f2 ≤ 1000000 by omega), decide_eq_true h2, decide_eq_true (show x.f3 ≤ 1000000 by omega)]
 rfl
theorem over_f {ms ts : Int} {a b : Ed} (hc : Ck ms ts) (ha : Wd a) (hd : a.f0 ≤ 1099511627776) (hb : Wd b) : edit_clocks_over.f ms ts a.f0 a.f1 a.f2 a.f3 b.f0 b.f1 b.f2 b.f3 = some (ovV ms ts a b) := by
 unfold edit_clocks_over.f overOk in64
 have c0 := hc.m0
 have c1 := hc.m1
 have c2 := hc.t0
 have c3 := hc.t1
 have a0 := ha.d0
 have a1 := ha.m0
 have a2 := ha.m1
 have a3 := ha.n0
 have a4 := ha.n1
 have a5 := ha.e0
 have a6 := ha.e1
 have b1 := hb.m0
 have b2 := hb.m1
 rw [if_pos (by simp only [Bool.and_eq_true, decide_eq_true_eq]; omega)]
 rfl
theorem sumD_rev (l : List Ed) : sumD l.reverse = sumD l := by
 induction l with
 | nil => rfl
 | cons x t ih => rw [List.reverse_cons, sumD_app, ih]; simp only [sumD]; omega
theorem push_sum (ms ts : Int) (out : List Ed) (e : Ed) : sumD (push ms ts out e) = sumD out + e.f0 := by
 cases out with
 | nil => simp [push, sumD]
 | cons a t =>
  simp only [push]
  split
  ·simp only [sumD]; omega
  ·simp only [sumD]; omega
theorem push_wd {ms ts : Int} {out : List Ed} {e : Ed} (h : ∀ x ∈ out, Wd x) (he : Wd e) : ∀ x ∈ push ms ts out e, Wd x := by
 cases out with
 | nil => simpa [push] using he
 | cons a t =>
  have ha := h a (by simp)
  simp only [push]
  split
  ·intro x hx
   simp only [List.mem_cons] at hx
   rcases hx with rfl | hx
   ·have a0 := ha.d0
    have e0 := he.d0
    exact ⟨by simp only; omega, ha.m0, ha.m1, ha.n0, ha.n1, ha.e0, ha.e1⟩
   ·exact h x (by simp [hx])
  ·intro x hx
   simp only [List.mem_cons] at hx
   rcases hx with rfl | hx
   ·exact he
   ·exact h x (by simpa using hx)
theorem push_len (ms ts : Int) (out : List Ed) (e : Ed) : (push ms ts out e).length ≤ out.length + 1 := by
 cases out with
 | nil => simp [push]
 | cons a t =>
  simp only [push]
  split <;> simp
theorem wd_sum {l : List Ed} (h : ∀ x ∈ l, Wd x) : 0 ≤ sumD l := by
 induction l with
 | nil => simp [sumD]
 | cons x t ih =>
  have h1 := (h x (by simp)).d0
  have h2 := ih (fun y hy => h y (by simp [hy]))
  simp only [sumD]
  omega
theorem normal_l {ms ts : Int} (hc : Ck ms ts) (l : List Ed) (hV : ∀ x ∈ l, Vd x) (hl : l.length ≤ 1000000000) (rest : List Ed) :
  ∀ pre out, l = pre ++ rest → sumD out = sumD pre → sumD pre ≤ 1099511627776 → (∀ x ∈ out, Wd x) → out.length ≤ pre.length →
   Ev (fun k => edit_clocks_normal.l0 k out.reverse (sumD pre) l (l.length : Int) (pre.length : Int) ms ts) (if 1099511627776 < sumD l then ([], 2) else fin (nrmR ms ts out rest)) := by
 induction rest with
 | nil =>
  intro pre out he hs hp hw ho
  subst he
  rw [if_neg (by simp only [List.append_nil]; omega)]
  refine Ev.step (f := fun _ => some (fin (nrmR ms ts out []))) (fun k => ?_) (Ev.now _)
  simp only [edit_clocks_normal.l0, List.append_nil]
  rw [if_neg (by omega)]
  unfold fin nrmR
  simp only [List.map_nil, List.foldl_nil, List.length_reverse]
  by_cases h : 20 < out.length
  ·rw [if_pos h, if_pos (by omega)]
  ·rw [if_neg h, if_neg (by omega)]
 | cons x t ih =>
  intro pre out he hs hp hw ho
  have hlen : l.length = pre.length + (t.length + 1) := by rw [he]; simp
  have hx : rd_T77 l (pre.length : Int) = x := by rw [he]; exact rd_at pre x t
  have hvx : Vd x := hV x (by rw [he]; simp)
  have hst : 0 ≤ sumD t := sumD_nonneg (fun y hy => hV y (by rw [he]; simp [hy]))
  have hsl : sumD l = sumD pre + x.f0 + sumD t := by rw [he, sumD_app]; simp only [sumD]; omega
  have hs0 : 0 ≤ sumD pre := by rw [← hs]; exact wd_sum hw
  have hd0 := hvx.d0
  have hd1 := hvx.d1
  have hsp : sumD (pre ++ [x]) = sumD pre + x.f0 := by rw [sumD_app]; simp [sumD]
  by_cases hbig : sumD pre + x.f0 > 1099511627776
  ·rw [if_pos (by omega)]
   refine Ev.step (f := fun _ => some ([], 2)) (fun k => ?_) (Ev.now _)
   simp only [edit_clocks_normal.l0]
   rw [if_pos (by omega), if_pos (by omega), if_pos (by omega), hx, low_f hvx]
   simp only [Option.bind_some]
   rw [show (lowV x).f0 = x.f0 from rfl, w64 (by omega) (by omega), if_pos hbig]
  ·have hwl := wd_low hvx
   have hr := ih (pre ++ [x]) (push ms ts out (lowV x)) (by rw [he]; simp) (by rw [push_sum, hs, hsp]; rfl) (by omega) (push_wd hw hwl) (by have := push_len ms ts out (lowV x); simp only [List.length_append, List.length_cons, List.length_nil]; omega)
   have hn : nrmR ms ts out (x :: t) = nrmR ms ts (push ms ts out (lowV x)) t := rfl
   rw [hn]
   refine Ev.step (f := fun k => edit_clocks_normal.l1 k out.reverse (sumD (pre ++ [x])) (out.reverse.length : Int) l (l.length : Int) (pre.length : Int) ms ts (lowV x).f0 (lowV x).f1 (lowV x).f2 (lowV x).f3) (fun k => ?_) ?_
   ·simp only [edit_clocks_normal.l0]
    rw [if_pos (by omega), if_pos (by omega), if_pos (by omega), hx, low_f hvx]
    simp only [Option.bind_some]
    rw [show (lowV x).f0 = x.f0 from rfl, w64 (by omega) (by omega), if_neg hbig, hsp]
   ·refine Ev.step (f := fun k => edit_clocks_normal.l0 k (push ms ts out (lowV x)).reverse (sumD (pre ++ [x])) l (l.length : Int) ((pre ++ [x]).length : Int) ms ts) (fun k => ?_) hr
    simp only [edit_clocks_normal.l1]
    have hpl : wrap64 ((pre.length : Int) + 1) = ((pre ++ [x]).length : Int) := by rw [w64 (by omega) (by omega)]; simp
    rw [hpl]
    cases out with
    | nil =>
     rw [if_neg (show ¬ (([] : List Ed).reverse.length : Int) > 0 by simp), if_pos (show ([] : List Ed).reverse.length < 4398046511104 by simp)]
     rfl
    | cons a o =>
     have hla : (a :: o).reverse.length = o.length + 1 := by simp
     have hra : rd_T77 (a :: o).reverse (o.length : Int) = a := by
      rw [List.reverse_cons]
      have := rd_at o.reverse a []
      rw [List.length_reverse] at this
      exact this
     have hol : o.length + 1 ≤ pre.length := ho
     have hsa := wd_sum (l := o) (fun y hy => hw y (by simp [hy]))
     have hda : a.f0 ≤ 1099511627776 := by simp only [sumD] at hs; omega
     rw [hla, if_pos (by omega), w64 (by omega) (by omega), show ((o.length + 1 : Nat) : Int) - 1 = (o.length : Int) by omega, if_pos (by omega), if_pos (by omega), hra]
     have ha0 := (hw a (by simp)).d0
     have hov : edit_clocks_over.f ms ts a.f0 a.f1 a.f2 a.f3 (lowV x).f0 (lowV x).f1 (lowV x).f2 (lowV x).f3 = some (ovV ms ts a (lowV x)) := over_f hc (hw a (by simp)) hda hwl
     rw [hov]
     simp only [Option.bind_some, push]
     by_cases hb : ovV ms ts a (lowV x) = true
     ·rw [if_pos hb, if_pos hb]
      have hf : (lowV x).f0 = x.f0 := rfl
      simp only [sumD] at hs
      rw [w64 (by rw [hf]; omega) (by rw [hf]; omega)]
      congr 1
      rw [List.reverse_cons, List.reverse_cons, Int.toNat_natCast]
      have : o.length = o.reverse.length := by simp
      rw [this, List.set_append_right _ _ (Nat.le_refl _)]
      simp
     ·rw [if_neg hb, if_neg hb, if_pos (by omega)]
      congr 1
      simp
theorem normal_f {ms ts : Int} (hc : Ck ms ts) (l : List Ed) (hV : ∀ x ∈ l, Vd x) (hl : l.length ≤ 1000000000) : Ev (fun k => edit_clocks_normal.f k ms ts l) (nrmV ms ts l) :=
 normal_l hc l hV hl l [] [] rfl rfl (by simp [sumD]) (by simp) (by simp)
theorem nrmR_sum (ms ts : Int) (l : List Ed) : ∀ out, sumD (nrmR ms ts out l) = sumD out + sumD l := by
 induction l with
 | nil => intro out; simp [nrmR, sumD]
 | cons x t ih =>
  intro out
  have h := ih (push ms ts out (lowV x))
  have hn : nrmR ms ts out (x :: t) = nrmR ms ts (push ms ts out (lowV x)) t := rfl
  rw [hn, h, push_sum]
  simp only [sumD]
  have : (lowV x).f0 = x.f0 := rfl
  omega
theorem nrm_sum (ms ts : Int) (l : List Ed) : sumD (nrm ms ts l) = sumD l := by
 unfold nrm
 rw [sumD_rev, nrmR_sum]
 simp [sumD]
theorem nrmR_len (ms ts : Int) (l : List Ed) : ∀ out, (nrmR ms ts out l).length ≤ out.length + l.length := by
 induction l with
 | nil => intro out; simp [nrmR]
 | cons x t ih =>
  intro out
  have h := ih (push ms ts out (lowV x))
  have hn : nrmR ms ts out (x :: t) = nrmR ms ts (push ms ts out (lowV x)) t := rfl
  have h2 := push_len ms ts out (lowV x)
  rw [hn]
  simp only [List.length_cons]
  omega
def norV (ms ts : Int) (l : List Ed) : List Ed × Int := if chk l ms ts = 0 then (nrm ms ts l, 0) else ([], chk l ms ts)
theorem Normal_f (l : List Ed) (ms ts : Int) : Ev (fun k => edit_Normal.f k l ms ts) (norV ms ts l) := by
 unfold norV
 by_cases h0 : chk l ms ts = 0
 ·obtain ⟨hc, hl, hV, hs⟩ := chk_ok.1 h0
  rw [if_pos h0]
  have hr : nrmV ms ts l = (nrm ms ts l, 0) := by
   have := nrmR_len ms ts l []
   simp only [List.length_nil] at this
   unfold nrmV fin nrm
   rw [if_neg (by omega), if_neg (by omega)]
  have h1 := check_f l ms ts
  rw [h0] at h1
  refine Ev.congr (fun k => rfl) (Ev.bind h1 ?_)
  refine Ev.congr (fun k => if_pos rfl) (Ev.bind (normal_f hc l hV (by omega)) ?_)
  rw [hr]
  exact Ev.now _
 ·rw [if_neg h0]
  refine Ev.congr (fun k => rfl) (Ev.bind (check_f l ms ts) ?_)
  refine Ev.congr (fun k => if_neg h0) (Ev.now _)
end Go.Proofs.Ytpbhepdgamoiaaa.Pf
namespace Go.Proofs.Ytpbhepdgamoiaaa.Pg
open Go.RowKit Go Go.Proofs.YtpbhepdgamoiaaaW.PrintWords Go.Proofs.YtpbhepdgamoiaaaW.PrintLast Go.Proofs.YtpbhepdgamoiaaaW.PrintMore Go.Proofs.Ytpbhepdgamoiaaa.Mn Go.Proofs.Ytpbhepdgamoiaaa.Rf Go.Proofs.Ytpbhepdgamoiaaa.Er Go.Proofs.Ytpbhepdgamoiaaa.Ek Go.Proofs.Ytpbhepdgamoiaaa.E Go.Proofs.Ytpbhepdgamoiaaa.Pe Go.Proofs.Ytpbhepdgamoiaaa.Pf
set_option linter.unusedVariables false
set_option linter.unusedSimpArgs false
instance : DecidableEq Ed := fun x y =>
 decidable_of_iff (x.f0 = y.f0 ∧ x.f1 = y.f1 ∧ x.f2 = y.f2 ∧ x.f3 = y.f3) ⟨fun h => by cases x; cases y; simp_all, fun h => by subst h; simp⟩
def exL : List Ed := [⟨10, 0, 1, 1⟩, ⟨5, 10, 1, 1⟩]
theorem nrm_ex : nrm 10 10 exL = [⟨15, 0, 1, 1⟩] := by decide +kernel
theorem chk_ex : chk exL 10 10 = 0 := by decide +kernel
theorem awake_f : Ev (fun k => dioramalaw10_awake.f k) true := by
 have h := Normal_f exL 10 10
 unfold norV at h
 rw [if_pos chk_ex, nrm_ex] at h
 refine Ev.congr (fun k => rfl) (Ev.bind h ?_)
 refine Ev.congr (f := fun _ => some true) (fun k => ?_) (Ev.now _)
 rfl
theorem many_f (l : List Ed) : dioramalaw10_many.f l = some (decide (60 < l.length)) := by
 unfold dioramalaw10_many.f
 congr 1
 by_cases h : 60 < l.length
 ·rw [decide_eq_true h, decide_eq_true (by omega)]
 ·rw [decide_eq_false h, decide_eq_false (by omega)]
end Go.Proofs.Ytpbhepdgamoiaaa.Pg
namespace Go.Proofs.Ytpbhepdgamoiaaa.Ph
open Go.RowKit Go Go.Proofs.YtpbhepdgamoiaaaW.PrintWords Go.Proofs.YtpbhepdgamoiaaaW.PrintLast Go.Proofs.YtpbhepdgamoiaaaW.PrintMore Go.Proofs.Ytpbhepdgamoiaaa.Mn Go.Proofs.Ytpbhepdgamoiaaa.Rf Go.Proofs.Ytpbhepdgamoiaaa.Er Go.Proofs.Ytpbhepdgamoiaaa.Ek Go.Proofs.Ytpbhepdgamoiaaa.E Go.Proofs.Ytpbhepdgamoiaaa.Pe Go.Proofs.Ytpbhepdgamoiaaa.Pf Go.Proofs.Ytpbhepdgamoiaaa.Pg
set_option linter.unusedVariables false
set_option linter.unusedSimpArgs false
end Go.Proofs.Ytpbhepdgamoiaaa.Ph
namespace Go.Proofs.Ytpbhepdgamoiaaa.Pa
open Go.RowKit Go.Proofs.Ytpbhepdgamoiaaa.P Go.Proofs.Ytpbhepdgamoiaaa.E Go.Proofs.YtpbhepdgamoiaaaW.PrintWords Go.Proofs.YtpbhepdgamoiaaaW.PrintLast Go.Proofs.Ytpbhepdgamoiaaa.Ml Go.Proofs.Ytpbhepdgamoiaaa.Mn
set_option linter.unusedVariables false
set_option linter.unusedSimpArgs false
abbrev Bd : Int := 1000000000
abbrev Nn (l : List Int) : Prop := Cn 1000000000 l
theorem top_cons {x : Int} {l : List Int} (h : Top l) (hx : l = [] → x ≠ 0) : Top (x :: l) := by
 intro hne
 cases l with
 | nil => simpa using hx rfl
 | cons y t =>
  rw [List.getLast_cons (by simp)]
  exact h (by simp)
theorem digit_f (l : List Int) (i : Nat) : dioramaref02_digit.f l (i : Int) = some (l.getD i 0) := by
 unfold dioramaref02_digit.f
 by_cases h : i < l.length
 ·rw [if_pos (by omega), if_pos (by omega), rd_nat]
 ·rw [if_neg (by omega), getD_ge (by omega)]
theorem tmodB {x : Int} (h : 0 ≤ x) : Int.tmod x 1000000000 = x % 1000000000 := Int.tmod_eq_emod_of_nonneg h
theorem tdivB {x : Int} (h : 0 ≤ x) : Int.tdiv x 1000000000 = x / 1000000000 := Int.tdiv_eq_ediv_of_nonneg h
theorem of_l (m : Nat) : ∀ (x : Int) (acc : List Int), 0 ≤ x → x < pw 1000000000 m → x ≤ 9223372036854775807 → acc.length + m ≤ 1000 → ∃ r, Ev (fun k => dioramaref02_Of.l0 k x acc) (acc ++ r) ∧ Nn r ∧ dv 1000000000 r = x ∧ r.length ≤ m := by
 induction m with
 | zero =>
  intro x acc h0 h1 _ _
  have hx : x = 0 := by simp [pw] at h1; omega
  subst hx
  exact ⟨[], Ev.step (f := fun _ => some (acc ++ [])) (fun k => by simp [dioramaref02_Of.l0]) (Ev.now _), Cn.nil _, rfl, Nat.le_refl _⟩
 | succ m ih =>
  intro x acc h0 h1 h2 hl
  by_cases hx : x = 0
  ·subst hx
   exact ⟨[], Ev.step (f := fun _ => some (acc ++ [])) (fun k => by simp [dioramaref02_Of.l0]) (Ev.now _), Cn.nil _, rfl, Nat.zero_le _⟩
  ·have hd : x / 1000000000 < pw 1000000000 m := by
    rw [pw_succ] at h1
    omega
   obtain ⟨r, he, hc, hv, hr⟩ := ih (x / 1000000000) (acc ++ [x % 1000000000]) (by omega) hd (by omega) (by simp; omega)
   refine ⟨x % 1000000000 :: r, ?_, ⟨Dg.cons (by omega) (by omega) hc.dg, top_cons hc.top (fun h => ?_)⟩, ?_, by simp; omega⟩
   ·rw [List.append_assoc, List.singleton_append] at he
    refine Ev.step (fun k => ?_) he
    simp only [dioramaref02_Of.l0]
    rw [if_pos (by omega), if_pos (by omega), tdivB h0, tmodB h0, w64 (by omega) (by omega)]
   ·subst h
    simp only [dv] at hv
    omega
   ·simp only [dv] at hv ⊢
    rw [hv]
    omega
theorem of_f (x : Int) (h0 : 0 ≤ x) (h1 : x ≤ 9223372036854775807) : ∃ r, Ev (fun k => dioramaref02_Of.f k x) r ∧ Nn r ∧ dv 1000000000 r = x ∧ r.length ≤ 3 := by
 obtain ⟨r, he, h⟩ := of_l 3 x [] h0 (by simp [pw]; omega) h1 (by simp)
 exact ⟨r, he, h⟩
theorem trimmed_l (l : List Int) (hd : Dg 1000000000 l) (hl : l.length ≤ 1000000) : ∀ n : Nat, n ≤ l.length → dv 1000000000 (l.take n) = dv 1000000000 l → ∃ r, Ev (fun k => dioramaref02_trimmed.l0 k l (n : Int)) r ∧ Nn r ∧ dv 1000000000 r = dv 1000000000 l ∧ r.length ≤ n := by
 intro n
 induction n with
 | zero =>
  intro _ hv
  refine ⟨[], Ev.step (f := fun _ => some []) (fun k => ?_) (Ev.now _), Cn.nil _, by rw [← hv]; rfl, Nat.le_refl _⟩
  simp [dioramaref02_trimmed.l0]
 | succ n ih =>
  intro hn hv
  have hw : wrap64 (((n + 1 : Nat) : Int) - 1) = (n : Int) := by rw [w64 (by omega) (by omega)]; omega
  by_cases hz : l.getD n 0 = 0
  ·obtain ⟨r, he, hc, hr, hlr⟩ := ih (by omega) (by rw [← hv] ; rw [dv_take_succ', hz]; omega)
   refine ⟨r, Ev.step (fun k => ?_) he, hc, hr, by omega⟩
   simp only [dioramaref02_trimmed.l0, hw, rd_nat]
   rw [if_pos (by omega), if_pos (by omega), if_pos (by omega), if_pos hz]
  ·refine ⟨l.take (n + 1), Ev.step (f := fun _ => some (l.take (n + 1))) (fun k => ?_) (Ev.now _), ⟨hd.take _, top_of_getD ?_⟩, hv, by simp; omega⟩
   ·simp only [dioramaref02_trimmed.l0, hw, rd_nat]
    rw [if_pos (by omega), if_pos (by omega), if_pos (by omega), if_neg hz, if_pos (by omega), if_pos (by omega), Int.toNat_natCast]
   ·rw [List.length_take, Nat.min_eq_left (by omega)]
    simp only [Nat.add_sub_cancel]
    rw [List.getD_eq_getElem?_getD, List.getElem?_take_of_lt (by omega), ← List.getD_eq_getElem?_getD]
    exact hz
theorem trimmed_f (l : List Int) (hd : Dg 1000000000 l) (hl : l.length ≤ 1000000) : ∃ r, Ev (fun k => dioramaref02_trimmed.f k l) r ∧ Nn r ∧ dv 1000000000 r = dv 1000000000 l ∧ r.length ≤ l.length :=
 trimmed_l l hd hl l.length (Nat.le_refl _) (by rw [List.take_length])
theorem cmp1 {x y : Int} (h : x < y) : Nd.cmpI x y = -1 := by unfold Nd.cmpI; rw [if_pos h]
theorem cmp2 {x y : Int} (h : y < x) : Nd.cmpI x y = 1 := by unfold Nd.cmpI; rw [if_neg (by omega), if_pos h]
theorem cmp0 {x y : Int} (h : x = y) : Nd.cmpI x y = 0 := by unfold Nd.cmpI; rw [if_neg (by omega), if_neg (by omega)]
theorem compare_l (a b : List Int) (ha : Dg 1000000000 a) (hb : Dg 1000000000 b) (hl : a.length = b.length) (hn : a.length ≤ 1000000) : ∀ i : Nat, i ≤ a.length → dv 1000000000 (a.drop i) = dv 1000000000 (b.drop i) →
  Ev (fun k => dioramaref02_Compare.l0 k a b ((i : Int) - 1)) (Nd.cmpI (dv 1000000000 a) (dv 1000000000 b)) := by
 intro i
 induction i with
 | zero =>
  intro _ h
  refine Ev.step (f := fun _ => some 0) (fun k => ?_) (by rw [cmp0 (by simpa using h)]; exact Ev.now _)
  simp [dioramaref02_Compare.l0]
 | succ i ih =>
  intro hi h
  have e : (((i + 1 : Nat) : Int) - 1) = (i : Int) := by omega
  have hw : wrap64 ((i : Int) - 1) = (i : Int) - 1 := w64 (by omega) (by omega)
  rw [e]
  rcases Int.lt_trichotomy (a.getD i 0) (b.getD i 0) with h1 | h1 | h1
  ·rw [cmp1 (dv_less (by decide) ha hb hl i (by omega) h h1)]
   refine Ev.step (f := fun _ => some (-1)) (fun k => ?_) (Ev.now _)
   simp only [dioramaref02_Compare.l0, rd_nat]
   rw [if_pos (by omega), if_pos (by omega), if_pos (by omega), if_pos (by omega), if_pos h1]
  ·refine Ev.step (fun k => ?_) (ih (by omega) (by rw [dv_drop _ a i (by omega), dv_drop _ b i (by omega), h1, h]))
   simp only [dioramaref02_Compare.l0, rd_nat, hw]
   rw [if_pos (by omega), if_pos (by omega), if_pos (by omega), if_pos (by omega), if_neg (by omega), if_neg (by omega)]
  ·rw [cmp2 (dv_less (by decide) hb ha hl.symm i (by omega) h.symm h1)]
   refine Ev.step (f := fun _ => some 1) (fun k => ?_) (Ev.now _)
   simp only [dioramaref02_Compare.l0, rd_nat]
   rw [if_pos (by omega), if_pos (by omega), if_pos (by omega), if_pos (by omega), if_neg (by omega), if_pos h1]
theorem compare_f (a b : List Int) (ha : Nn a) (hb : Nn b) (hn : a.length ≤ 1000000) (hm : b.length ≤ 1000000) : Ev (fun k => dioramaref02_Compare.f k a b) (Nd.cmpI (dv 1000000000 a) (dv 1000000000 b)) := by
 by_cases hl : a.length = b.length
 ·have h := compare_l a b ha.dg hb.dg hl hn a.length (Nat.le_refl _) (by rw [List.drop_of_length_le (Nat.le_refl _), List.drop_of_length_le (by omega)])
  refine Ev.congr (fun k => ?_) h
  simp only [dioramaref02_Compare.f]
  rw [if_pos (by omega), w64 (by omega) (by omega)]
 ·by_cases h1 : a.length < b.length
  ·rw [cmp1 (dv_len (by decide) ha.dg hb h1)]
   refine Ev.congr (f := fun _ => some (-1)) (fun k => ?_) (Ev.now _)
   simp only [dioramaref02_Compare.f]
   rw [if_neg (by omega), if_pos (by omega)]
  ·rw [cmp2 (dv_len (by decide) hb.dg ha (by omega))]
   refine Ev.congr (f := fun _ => some 1) (fun k => ?_) (Ev.now _)
   simp only [dioramaref02_Compare.f]
   rw [if_neg (by omega), if_neg (by omega)]
end Go.Proofs.Ytpbhepdgamoiaaa.Pa
namespace Go.Proofs.Ytpbhepdgamoiaaa.Pb
open Go.RowKit Go.Proofs.Ytpbhepdgamoiaaa.P Go.Proofs.Ytpbhepdgamoiaaa.E Go.Proofs.YtpbhepdgamoiaaaW.PrintWords Go.Proofs.YtpbhepdgamoiaaaW.PrintLast Go.Proofs.Ytpbhepdgamoiaaa.Ml Go.Proofs.Ytpbhepdgamoiaaa.Mn Go.Proofs.Ytpbhepdgamoiaaa.Pa
set_option linter.unusedVariables false
set_option linter.unusedSimpArgs false
theorem nv_take_all {l : List Int} {n : Nat} (h : l.length ≤ n) : dv 1000000000 (l.take n) = dv 1000000000 l := by rw [List.take_of_length_le h]
theorem dg_snoc {l : List Int} {x : Int} (h : Dg 1000000000 l) (h0 : 0 ≤ x) (h1 : x < 1000000000) : Dg 1000000000 (l ++ [x]) := h.append (Dg.cons h0 h1 (Dg.nil _))
theorem w1 {i : Nat} (h : i ≤ 10000000) : wrap64 ((i : Int) + 1) = ((i + 1 : Nat) : Int) := by rw [w64 (by omega) (by omega)]; omega
theorem minus_l (a b : List Int) (ha : Dg 1000000000 a) (hb : Dg 1000000000 b) (hn : a.length ≤ 1000000) (hlb : b.length ≤ a.length) (hle : dv 1000000000 b ≤ dv 1000000000 a) :
  ∀ (d i : Nat) (out : List Int) (c : Int), i + d = a.length → out.length = i → Dg 1000000000 out → 0 ≤ c → c ≤ 1 → dv 1000000000 out = dv 1000000000 (a.take i) - dv 1000000000 (b.take i) + c * pw 1000000000 i →
  ∃ r, Ev (fun k => dioramaref02_Minus.l0 k a b out c (i : Int)) r ∧ Nn r ∧ dv 1000000000 r = dv 1000000000 a - dv 1000000000 b ∧ r.length ≤ a.length := by
 intro d
 induction d with
 | zero =>
  intro i out c hi hl hd h0 h1 hv
  obtain ⟨r, he, hc, hr, hlr⟩ := trimmed_f out hd (by omega)
  have hlt := dv_lt (by decide) hd
  rw [hl] at hlt
  rw [nv_take_all (by omega), nv_take_all (by omega)] at hv
  have c0 : c = 0 := by
   rcases (show c = 0 ∨ c = 1 by omega) with h | h
   ·exact h
   ·rw [h] at hv
    omega
  refine ⟨r, Ev.step (f := fun k => (dioramaref02_trimmed.f k out).bind fun t => some t) (fun k => ?_) (Ev.bind he (Ev.now _)), hc, by rw [hr, hv, c0]; omega, by omega⟩
  simp only [dioramaref02_Minus.l0]
  rw [if_neg (by omega)]
 | succ d ih =>
  intro i out c hi hl hd h0 h1 hv
  have hx := ha.getD (by decide) i
  have hy := hb.getD (by decide) i
  have e1 := dv_take_succ' 1000000000 a i
  have e2 := dv_take_succ' 1000000000 b i
  have e3 := pw_succ 1000000000 i
  generalize hxv : a.getD i 0 = x at *
  generalize hyv : b.getD i 0 = y at *
  have hw : wrap64 (wrap64 (x - y) - c) = x - y - c := by rw [w64 (x := x - y) (by omega) (by omega), w64 (by omega) (by omega)]
  have hw2 : wrap64 (x - y - c + 1000000000) = x - y - c + 1000000000 := w64 (by omega) (by omega)
  by_cases hneg : x - y - c < 0
  ·obtain ⟨r, he, h⟩ := ih (i + 1) (out ++ [x - y - c + 1000000000]) 1 (by omega) (by simp [hl]) (dg_snoc hd (by omega) (by omega)) (by decide) (by decide) (by
    rw [dv_snoc, hl, hv, e1, e2, e3]
    grind)
   refine ⟨r, Ev.step (fun k => ?_) he, h⟩
   simp only [dioramaref02_Minus.l0]
   rw [if_pos (by omega), digit_f, digit_f, hxv, hyv]
   simp only [Option.bind_some, hw, hw2]
   rw [if_pos hneg, if_pos (by omega), w1 (by omega)]
  ·obtain ⟨r, he, h⟩ := ih (i + 1) (out ++ [x - y - c]) 0 (by omega) (by simp [hl]) (dg_snoc hd (by omega) (by omega)) (by decide) (by decide) (by
    rw [dv_snoc, hl, hv, e1, e2]
    grind)
   refine ⟨r, Ev.step (fun k => ?_) he, h⟩
   simp only [dioramaref02_Minus.l0]
   rw [if_pos (by omega), digit_f, digit_f, hxv, hyv]
   simp only [Option.bind_some, hw, hw2]
   rw [if_neg hneg, if_pos (by omega), w1 (by omega)]
theorem len_le {a b : List Int} (ha : Nn a) (hb : Nn b) (h : dv 1000000000 b ≤ dv 1000000000 a) : b.length ≤ a.length := by
 refine Nat.le_of_not_lt fun hl => ?_
 have := dv_len (by decide) ha.dg hb hl
 omega
theorem minus_f (a b : List Int) (ha : Nn a) (hb : Nn b) (hn : a.length ≤ 1000000) (hle : dv 1000000000 b ≤ dv 1000000000 a) : ∃ r, Ev (fun k => dioramaref02_Minus.f k a b) r ∧ Nn r ∧ dv 1000000000 r = dv 1000000000 a - dv 1000000000 b ∧ r.length ≤ a.length :=
 minus_l a b ha.dg hb.dg hn (len_le ha hb hle) hle a.length 0 [] 0 (by omega) rfl (Dg.nil _) (by decide) (by decide) (by simp [dv])
theorem mulB {c x y o : Int} (hc0 : 0 ≤ c) (hc1 : c < 1000000000) (hx0 : 0 ≤ x) (hx1 : x < 1000000000) (hy0 : 0 ≤ y) (hy1 : y < 1000000000) (ho0 : 0 ≤ o) (ho1 : o < 1000000000) :
  wrap64 (wrap64 (o + wrap64 (x * y)) + c) = o + x * y + c ∧ 0 ≤ o + x * y + c ∧ wrap64 (Int.tdiv (o + x * y + c) 1000000000) = (o + x * y + c) / 1000000000 ∧ (o + x * y + c) / 1000000000 < 1000000000 := by
 obtain ⟨h1, h2⟩ := mul_lt_sq hx0 hx1 hy0 hy1
 have h2' : x * y ≤ 999999998000000001 := h2
 rw [w64 (x := x * y) (by omega) (by omega), w64 (x := o + x * y) (by omega) (by omega), w64 (x := o + x * y + c) (by omega) (by omega), tdivB (by omega), w64 (by omega) (by omega)]
 refine ⟨rfl, by omega, rfl, by omega⟩
set_option maxHeartbeats 1000000 in
theorem times_l1 (a b : List Int) (i : Nat) (x : Int) (hx : a.getD i 0 = x) (hi : i < a.length) (hb : Dg 1000000000 b) (hx0 : 0 ≤ x) (hx1 : x < 1000000000) (hn : a.length + b.length ≤ 1000000) :
  ∀ (d j : Nat) (out : List Int) (c : Int), j + d = b.length → Dg 1000000000 out → out.length = a.length + b.length → 0 ≤ c → c < 1000000000 → (∀ m, i + b.length ≤ m → out.getD m 0 = 0) →
  ∃ out', (∀ r, Ev (fun k => dioramaref02_Times.l0 k a b out' ((i + 1 : Nat) : Int)) r → Ev (fun k => dioramaref02_Times.l1 k a b out (i : Int) c (j : Int)) r) ∧ out'.length = a.length + b.length ∧ Dg 1000000000 out' ∧
   dv 1000000000 out' = dv 1000000000 out + c * pw 1000000000 (i + j) + x * dv 1000000000 (b.drop j) * pw 1000000000 (i + j) ∧ ∀ m, i + 1 + b.length ≤ m → out'.getD m 0 = 0 := by
 intro d
 induction d with
 | zero =>
  intro j out c hj hd hl h0 h1 hz
  obtain rfl : j = b.length := by omega
  have hend : ∀ (out : List Int) (j : Nat) r, b.length ≤ j → Ev (fun k => dioramaref02_Times.l0 k a b out ((i + 1 : Nat) : Int)) r → Ev (fun k => dioramaref02_Times.l1 k a b out (i : Int) 0 (j : Int)) r := by
   intro out j r hj he
   refine Ev.step (fun k => ?_) he
   simp only [dioramaref02_Times.l1]
   rw [if_neg (by omega), if_neg (by omega), w1 (by omega)]
  rw [List.drop_of_length_le (Nat.le_refl _)]
  by_cases hc : c = 0
  ·subst hc
   exact ⟨out, fun r he => hend out _ r (Nat.le_refl _) he, hl, hd, by simp [dv], fun m hm => hz m (by omega)⟩
  ·refine ⟨out.set (i + b.length) c, fun r he => ?_, by simp [hl], hd.set _ h0 h1, ?_, fun m hm => by rw [getD_set (by omega)]; exact hz m (by omega)⟩
   ·have h2 := hend (out.set (i + b.length) c) (b.length + 1) r (by omega) he
    refine Ev.step (fun k => ?_) h2
    have hw : wrap64 ((i : Int) + (b.length : Int)) = ((i + b.length : Nat) : Int) := by rw [w64 (by omega) (by omega)]; omega
    obtain ⟨g1, g2, g3, g4⟩ := mulB (o := 0) (y := 0) h0 h1 hx0 hx1 (by decide) (by decide) (by decide) (by decide)
    have e0 : (0 : Int) + x * 0 + c = c := by omega
    rw [e0] at g1 g3
    simp only [dioramaref02_Times.l1, hw, rd_nat, hx, Int.toNat_natCast]
    rw [if_neg (by omega), if_pos (by omega), if_pos (by omega), if_pos (by omega), if_pos (by omega), if_pos (by omega), digit_f, getD_ge (Nat.le_refl _), hz _ (Nat.le_refl _)]
    simp only [Option.bind_some, g1, g3]
    rw [tmodB h0, Int.emod_eq_of_lt h0 h1, Int.ediv_eq_zero_of_lt h0 h1, w1 (by omega)]
   ·rw [dv_set _ _ _ _ (by omega), hz _ (Nat.le_refl _)]
    simp [dv]
 | succ d ih =>
  intro j out c hj hd hl h0 h1 hz
  have hy := hb.getD (by decide) j
  have ho := hd.getD (by decide) (i + j)
  have c1 : (j : Int) < (b.length : Int) := by omega
  have c2 : 0 ≤ ((i + j : Nat) : Int) := by omega
  have c3 : ((i + j : Nat) : Int) < (out.length : Int) := by omega
  have c4 : 0 ≤ (i : Int) := by omega
  have c5 : (i : Int) < (a.length : Int) := by omega
  have c6 : i + j < out.length := by omega
  have c7 : j < b.length := by omega
  have hw : wrap64 ((i : Int) + (j : Int)) = ((i + j : Nat) : Int) := by rw [w64 (by omega) (by omega)]; omega
  have hw1 := w1 (i := j) (by omega)
  have HW := Aside0.mk (And.intro hw hw1)
  clear hw hw1
  generalize hyv : b.getD j 0 = y at *
  generalize hov : out.getD (i + j) 0 = o at *
  obtain ⟨g1, g2, g3, g4⟩ := mulB h0 h1 hx0 hx1 hy.1 hy.2 ho.1 ho.2
  have gm := Int.mul_ediv_add_emod (o + x * y + c) 1000000000
  have gr0 := Int.emod_nonneg (o + x * y + c) (show (1000000000 : Int) ≠ 0 by decide)
  have gr1 := Int.emod_lt_of_pos (o + x * y + c) (show (0 : Int) < 1000000000 by decide)
  have gq0 : 0 ≤ (o + x * y + c) / 1000000000 := Int.ediv_nonneg g2 (by decide)
  have gt := tmodB g2
  generalize (o + x * y + c) / 1000000000 = q at *
  generalize (o + x * y + c) % 1000000000 = r' at *
  have hs : r' + 1000000000 * q = c + (x * y + o) := by clear g1 g3 gt; omega
  have HG := Aside0.mk (And.intro g1 (And.intro g3 gt))
  clear g1 g3 gt gm
  obtain ⟨out', k1, k2, k3, k4, k5⟩ := ih (j + 1) (out.set (i + j) r') q (by omega) (hd.set _ gr0 gr1) (by simp [hl]) gq0 g4 (fun m hm => by rw [getD_set (by omega)]; exact hz m hm)
  refine ⟨out', fun r he => ?_, k2, k3, ?_, k5⟩
  ·refine Ev.step (fun k => ?_) (k1 r he)
   simp only [dioramaref02_Times.l1, HW.out.1, rd_nat, hx, Int.toNat_natCast]
   rw [if_pos c1, if_pos c2, if_pos c3, if_pos c4, if_pos c5, digit_f, hyv, hov]
   simp only [Option.bind_some, HG.out.1, HG.out.2.1, HG.out.2.2, HW.out.2]
  ·rw [k4, dv_set _ _ _ _ c6, hov, dv_drop 1000000000 b j c7, hyv, ← Nat.add_assoc, pw_succ]
   exact (mul_step hs).symm
theorem times_l0 (a b : List Int) (ha : Dg 1000000000 a) (hb : Dg 1000000000 b) (hn : a.length + b.length ≤ 1000000) :
  ∀ (d i : Nat) (out : List Int), i + d = a.length → Dg 1000000000 out → out.length = a.length + b.length → dv 1000000000 out = dv 1000000000 (a.take i) * dv 1000000000 b → (∀ m, i + b.length ≤ m → out.getD m 0 = 0) →
  ∃ r, Ev (fun k => dioramaref02_Times.l0 k a b out (i : Int)) r ∧ Nn r ∧ dv 1000000000 r = dv 1000000000 a * dv 1000000000 b ∧ r.length ≤ a.length + b.length := by
 intro d
 induction d with
 | zero =>
  intro i out hi hd hl hv hz
  obtain ⟨r, he, hc, hr, hlr⟩ := trimmed_f out hd (by omega)
  refine ⟨r, Ev.step (f := fun k => (dioramaref02_trimmed.f k out).bind fun t => some t) (fun k => ?_) (Ev.bind he (Ev.now _)), hc, by rw [hr, hv, nv_take_all (by omega)], by omega⟩
  simp only [dioramaref02_Times.l0]
  rw [if_neg (by omega)]
 | succ d ih =>
  intro i out hi hd hl hv hz
  have hx := ha.getD (by decide) i
  obtain ⟨out', k1, k2, k3, k4, k5⟩ := times_l1 a b i (a.getD i 0) rfl (by omega) hb hx.1 hx.2 hn b.length 0 out 0 (by omega) hd hl (by decide) (by decide) hz
  obtain ⟨r, he, h⟩ := ih (i + 1) out' (by omega) k3 k2 (by
   rw [k4, hv, dv_take_succ' _ a i]
   simp only [List.drop_zero, Nat.add_zero]
   grind) (fun m hm => k5 m (by omega))
  refine ⟨r, Ev.step (fun k => ?_) (k1 r he), h⟩
  simp only [dioramaref02_Times.l0]
  rw [if_pos (by omega)]
  rfl
theorem times_f (a b : List Int) (ha : Nn a) (hb : Nn b) (hn : a.length + b.length ≤ 1000000) : ∃ r, Ev (fun k => dioramaref02_Times.f k a b) r ∧ Nn r ∧ dv 1000000000 r = dv 1000000000 a * dv 1000000000 b ∧ r.length ≤ a.length + b.length := by
 have e1 : wrap64 ((a.length : Int) + (b.length : Int)) = ((a.length + b.length : Nat) : Int) := by rw [w64 (by omega) (by omega)]; omega
 obtain ⟨r, he, h⟩ := times_l0 a b ha.dg hb.dg hn a.length 0 (List.replicate (a.length + b.length) 0) (by omega) (Dg.replicate (by decide) _) (by simp) (by rw [dv_replicate]; simp [dv]) (fun m _ => by
  rw [List.getD_eq_getElem?_getD, List.getElem?_replicate]
  split <;> rfl)
 refine ⟨r, Ev.congr (fun k => ?_) he, h⟩
 simp only [dioramaref02_Times.f, e1, Int.toNat_natCast]
 rw [if_pos (by omega), if_pos (by omega)]
 rfl
theorem drop_le (l : List Int) (hd : Dg 1000000000 l) (i : Nat) : dv 1000000000 (l.drop i) ≤ dv 1000000000 l ∧ 0 ≤ dv 1000000000 (l.drop i) := by
 have h0 := dv_nonneg (by decide) (hd.drop i)
 refine ⟨?_, h0⟩
 by_cases hi : i ≤ l.length
 ·have h1 := dv_split 1000000000 l i hi
  have h2 := dv_nonneg (by decide) (hd.take i)
  have h3 : 0 < pw 1000000000 i := pow_pos (by decide) i
  have h4 : 1 * dv 1000000000 (l.drop i) ≤ pw 1000000000 i * dv 1000000000 (l.drop i) := Int.mul_le_mul_of_nonneg_right (by omega) h0
  omega
 ·rw [List.drop_of_length_le (by omega)]
  exact dv_nonneg (by decide) hd
theorem small_l (l : List Int) (hd : Dg 1000000000 l) (hn : l.length ≤ 1000000) (hs : dv 1000000000 l ≤ 9223372036854775807) : ∀ i : Nat, i ≤ l.length → Ev (fun k => dioramaref02_Small.l0 k l (dv 1000000000 (l.drop i)) ((i : Int) - 1)) (dv 1000000000 l, true) := by
 intro i
 induction i with
 | zero =>
  intro _
  refine Ev.step (f := fun _ => some (dv 1000000000 l, true)) (fun k => ?_) (Ev.now _)
  simp [dioramaref02_Small.l0]
 | succ i ih =>
  intro hi
  have e : (((i + 1 : Nat) : Int) - 1) = (i : Int) := by omega
  have h1 := dv_drop 1000000000 l i (by omega)
  have h2 := drop_le l hd i
  have h3 := drop_le l hd (i + 1)
  have hx := hd.getD (by decide) i
  rw [e]
  refine Ev.step (fun k => ?_) (ih (by omega))
  simp only [dioramaref02_Small.l0, rd_nat]
  rw [if_pos (by omega), if_pos (by omega), if_pos (by omega), w64 (x := _ * 1000000000) (by omega) (by omega), w64 (x := _ + _) (by omega) (by omega), w64 (x := (i : Int) - 1) (by omega) (by omega), h1]
  congr 1
  omega
theorem small_f (l : List Int) (most : Int) (hl : Nn l) (hn : l.length ≤ 1000000) (h0 : 0 ≤ most) (h1 : most ≤ 9223372036854775807) : Ev (fun k => dioramaref02_Small.f k l most) (if most < dv 1000000000 l then (0, false) else (dv 1000000000 l, true)) := by
 obtain ⟨r, he, hr, hv, hlr⟩ := of_f most h0 h1
 have hc := compare_f l r hl hr hn (by omega)
 rw [hv] at hc
 by_cases hb : most < dv 1000000000 l
 ·rw [if_pos hb]
  rw [cmp2 hb] at hc
  exact Ev.bind he (Ev.bind hc (Ev.congr (f := fun _ => some (0, false)) (fun k => by simp) (Ev.now _)))
 ·rw [if_neg hb]
  have hle : ¬ (Nd.cmpI (dv 1000000000 l) most > 0) := by
   unfold Nd.cmpI
   by_cases h2 : dv 1000000000 l < most
   ·rw [if_pos h2]; decide
   ·rw [if_neg h2, if_neg hb]; decide
  have h2 := small_l l hl.dg hn (by omega) l.length (Nat.le_refl _)
  rw [List.drop_of_length_le (Nat.le_refl _)] at h2
  refine Ev.bind he (Ev.bind hc (Ev.congr (fun k => ?_) h2))
  rw [if_neg hle, w64 (by omega) (by omega)]
  rfl
end Go.Proofs.Ytpbhepdgamoiaaa.Pb
namespace Go.Proofs.Ytpbhepdgamoiaaa.Pc
open Go.RowKit Go.Proofs.Ytpbhepdgamoiaaa.P Go.Proofs.Ytpbhepdgamoiaaa.E Go.Proofs.YtpbhepdgamoiaaaW.PrintWords Go.Proofs.YtpbhepdgamoiaaaW.PrintLast Go.Proofs.Ytpbhepdgamoiaaa.Ml Go.Proofs.Ytpbhepdgamoiaaa.Mn Go.Proofs.Ytpbhepdgamoiaaa.Pa Go.Proofs.Ytpbhepdgamoiaaa.Pb
set_option linter.unusedVariables false
set_option linter.unusedSimpArgs false
theorem drop_set' {l : List Int} {i : Nat} {v : Int} : (l.set i v).drop (i + 1) = l.drop (i + 1) := by
 rw [List.drop_set]
 simp
theorem over_l1 (a b q rest : List Int) (i : Nat) (hb : Nn b) (hr : Nn rest) (hi : i < q.length) (hq : q.length ≤ 1000000) (hlb : b.length ≤ 100000) (hlr : rest.length ≤ 200000) (hbp : 0 < dv 1000000000 b) :
  ∀ (m : Nat) (low high : Int), high - low ≤ m → 0 ≤ low → low ≤ high → high ≤ 999999999 → low * dv 1000000000 b ≤ dv 1000000000 rest → dv 1000000000 rest < (high + 1) * dv 1000000000 b →
  ∃ t rest', 0 ≤ t ∧ t < 1000000000 ∧ Nn rest' ∧ dv 1000000000 rest = t * dv 1000000000 b + dv 1000000000 rest' ∧ dv 1000000000 rest' < dv 1000000000 b ∧ (∀ r, Ev (fun k => dioramaref02_Over.l0 k a b (q.set i t) rest' ((i : Int) - 1)) r → Ev (fun k => dioramaref02_Over.l1 k a b q rest (i : Int) low high) r) := by
 intro m
 induction m with
 | zero =>
  intro low high hm h0 h1 h2 hlo hhi
  obtain rfl : low = high := by omega
  obtain ⟨o, eo, ho, vo, lo⟩ := of_f low h0 (by omega)
  obtain ⟨p, ep, hp, vp, lp⟩ := times_f b o hb ho (by omega)
  have e1 : dv 1000000000 p = low * dv 1000000000 b := by rw [vp, vo, Int.mul_comm]
  obtain ⟨s, es, hs, vs, ls⟩ := minus_f rest p hr hp (by omega) (by omega)
  have e2 : (low + 1) * dv 1000000000 b = low * dv 1000000000 b + dv 1000000000 b := by rw [Int.add_mul]; omega
  refine ⟨low, s, h0, by omega, hs, by omega, by omega, fun r he => ?_⟩
  refine Ev.step (f := fun k => (dioramaref02_Of.f k low).bind fun t197 => ((dioramaref02_Times.f k b t197).bind fun t200 => ((dioramaref02_Minus.f k rest t200).bind fun t203 => (dioramaref02_Over.l0 k a b (q.set i low) t203 ((i : Int) - 1))))) (fun k => ?_) (Ev.bind eo (Ev.bind ep (Ev.bind es he)))
  simp only [dioramaref02_Over.l1, Int.toNat_natCast]
  rw [if_neg (by omega), if_pos (by omega), if_pos (by omega), w64 (by omega) (by omega)]
 | succ m ih =>
  intro low high hm h0 h1 h2 hlo hhi
  by_cases hlt : low < high
  ·have hmid : wrap64 (Int.tdiv (wrap64 (wrap64 (low + high) + 1)) 2) = (low + high + 1) / 2 := by
    rw [w64 (x := low + high) (by omega) (by omega), w64 (x := low + high + 1) (by omega) (by omega), Int.tdiv_eq_ediv_of_nonneg (by omega), w64 (by omega) (by omega)]
   have hm1 : low < (low + high + 1) / 2 := by omega
   have hm2 : (low + high + 1) / 2 ≤ high := by omega
   generalize (low + high + 1) / 2 = mid at *
   obtain ⟨o, eo, ho, vo, lo⟩ := of_f mid (by omega) (by omega)
   obtain ⟨p, ep, hp, vp, lp⟩ := times_f b o hb ho (by omega)
   have e1 : dv 1000000000 p = mid * dv 1000000000 b := by rw [vp, vo, Int.mul_comm]
   have ec := compare_f p rest hp hr (by omega) (by omega)
   rw [e1] at ec
   by_cases hc : mid * dv 1000000000 b ≤ dv 1000000000 rest
   ·obtain ⟨t, rest', g1, g2, g3, g4, g5, g6⟩ := ih mid high (by omega) (by omega) hm2 h2 hc hhi
    have hle : Nd.cmpI (mid * dv 1000000000 b) (dv 1000000000 rest) ≤ 0 := by
     unfold Nd.cmpI
     by_cases h2 : mid * dv 1000000000 b < dv 1000000000 rest
     ·rw [if_pos h2]; decide
     ·rw [if_neg h2, if_neg (by omega)]; decide
    refine ⟨t, rest', g1, g2, g3, g4, g5, fun r he => ?_⟩
    refine Ev.step (f := fun k => (dioramaref02_Of.f k mid).bind fun t206 => ((dioramaref02_Times.f k b t206).bind fun t209 => ((dioramaref02_Compare.f k t209 rest).bind fun t212 => (if t212 ≤ 0 then (dioramaref02_Over.l1 k a b q rest (i : Int) mid high) else (dioramaref02_Over.l1 k a b q rest (i : Int) low (wrap64 (mid - 1))))))) (fun k => ?_) (Ev.bind eo (Ev.bind ep (Ev.bind ec (Ev.congr (fun k => ?_) (g6 r he)))))
    ·simp only [dioramaref02_Over.l1, hmid]
     rw [if_pos hlt]
    ·rw [if_pos hle]
   ·have hw : wrap64 (mid - 1) = mid - 1 := w64 (by omega) (by omega)
    obtain ⟨t, rest', g1, g2, g3, g4, g5, g6⟩ := ih low (mid - 1) (by omega) h0 (by omega) (by omega) hlo (by rw [Int.sub_add_cancel]; omega)
    have hle : ¬ Nd.cmpI (mid * dv 1000000000 b) (dv 1000000000 rest) ≤ 0 := by
     rw [cmp2 (by omega)]; decide
    refine ⟨t, rest', g1, g2, g3, g4, g5, fun r he => ?_⟩
    refine Ev.step (f := fun k => (dioramaref02_Of.f k mid).bind fun t206 => ((dioramaref02_Times.f k b t206).bind fun t209 => ((dioramaref02_Compare.f k t209 rest).bind fun t212 => (if t212 ≤ 0 then (dioramaref02_Over.l1 k a b q rest (i : Int) mid high) else (dioramaref02_Over.l1 k a b q rest (i : Int) low (wrap64 (mid - 1))))))) (fun k => ?_) (Ev.bind eo (Ev.bind ep (Ev.bind ec (Ev.congr (fun k => ?_) (g6 r he)))))
    ·simp only [dioramaref02_Over.l1, hmid]
     rw [if_pos hlt]
    ·rw [if_neg hle, hw]
  ·exact ih low high (by omega) h0 h1 h2 hlo hhi
theorem over_l0 (a b : List Int) (ha : Dg 1000000000 a) (hb : Nn b) (hla : a.length ≤ 100000) (hlb : b.length ≤ 100000) (hbp : 0 < dv 1000000000 b) :
  ∀ (i : Nat) (q rest : List Int), i ≤ a.length → q.length = a.length → Dg 1000000000 q → Nn rest → dv 1000000000 rest < dv 1000000000 b → dv 1000000000 (a.drop i) = dv 1000000000 (q.drop i) * dv 1000000000 b + dv 1000000000 rest →
  ∃ r1 r2, Ev (fun k => dioramaref02_Over.l0 k a b q rest ((i : Int) - 1)) (r1, r2) ∧ Nn r1 ∧ Nn r2 ∧ dv 1000000000 a = dv 1000000000 r1 * dv 1000000000 b + dv 1000000000 r2 ∧ dv 1000000000 r2 < dv 1000000000 b ∧ r1.length ≤ a.length ∧ r2.length ≤ b.length := by
 have hlen : ∀ {l : List Int}, Nn l → dv 1000000000 l < dv 1000000000 b → l.length ≤ b.length := by
  intro l hl h
  refine Nat.le_of_not_lt fun h2 => ?_
  have := dv_len (by decide) hb.dg hl h2
  omega
 intro i
 induction i with
 | zero =>
  intro q rest _ hq dq hr hlt hv
  obtain ⟨r, he, hc, hvr, hlr⟩ := trimmed_f q dq (by omega)
  rw [List.drop_zero, List.drop_zero] at hv
  refine ⟨r, rest, Ev.step (f := fun k => (dioramaref02_trimmed.f k q).bind fun t => some (t, rest)) (fun k => ?_) (Ev.bind he (Ev.now _)), hc, hr, by rw [hvr]; exact hv, hlt, by omega, hlen hr hlt⟩
  simp [dioramaref02_Over.l0]
 | succ i ih =>
  intro q rest hi hq dq hr hlt hv
  have e : (((i + 1 : Nat) : Int) - 1) = (i : Int) := by omega
  have hx := ha.getD (by decide) i
  have hlr := hlen hr hlt
  obtain ⟨u, eu, hu, vu, lu⟩ := trimmed_f (a.getD i 0 :: rest) (Dg.cons hx.1 hx.2 hr.dg) (by simp; omega)
  have vu2 : dv 1000000000 u = a.getD i 0 + 1000000000 * dv 1000000000 rest := vu
  have r0 := dv_nonneg (by decide) hr.dg
  simp only [List.length_cons] at lu
  obtain ⟨t, rest', g1, g2, g3, g4, g5, g6⟩ := over_l1 a b q u i hb hu (by omega) (by omega) hlb (by omega) hbp 999999999 0 999999999 (by decide) (by decide) (by decide) (by decide) (by have := dv_nonneg (by decide) hu.dg ; omega) (by
   have : (1000000000 : Int) * (dv 1000000000 rest + 1) ≤ 1000000000 * dv 1000000000 b := Int.mul_le_mul_of_nonneg_left (by omega) (by decide)
   rw [vu2]
   omega)
  obtain ⟨r1, r2, he, h⟩ := ih (q.set i t) rest' (by omega) (by simpa using hq) (dq.set _ g1 g2) g3 g5 (by
   rw [dv_drop _ a i (by omega), dv_drop _ (q.set i t) i (by simp; omega), drop_set', getD_set_self (by omega), hv]
   have := vu2
   rw [g4] at this
   grind)
  refine ⟨r1, r2, ?_, h⟩
  rw [e]
  refine Ev.step (f := fun k => (dioramaref02_trimmed.f k (a.getD i 0 :: rest)).bind fun t193 => (dioramaref02_Over.l1 k a b q t193 (i : Int) 0 999999999)) (fun k => ?_) (Ev.bind eu (g6 _ he))
  simp only [dioramaref02_Over.l0, rd_nat, Option.bind_some, List.singleton_append, List.length_singleton]
  rw [if_pos (by omega), if_pos (by omega), if_pos (by omega), if_pos (by omega)]
theorem over_f (a b : List Int) (ha : Nn a) (hb : Nn b) (hla : a.length ≤ 100000) (hlb : b.length ≤ 100000) (hbp : 0 < dv 1000000000 b) :
  ∃ r1 r2, Ev (fun k => dioramaref02_Over.f k a b) (r1, r2) ∧ Nn r1 ∧ Nn r2 ∧ dv 1000000000 a = dv 1000000000 r1 * dv 1000000000 b + dv 1000000000 r2 ∧ dv 1000000000 r2 < dv 1000000000 b ∧ r1.length ≤ a.length ∧ r2.length ≤ b.length := by
 obtain ⟨r1, r2, he, h⟩ := over_l0 a b ha.dg hb hla hlb hbp a.length (List.replicate a.length 0) [] (Nat.le_refl _) (by simp) (Dg.replicate (by decide) _) (Cn.nil _) hbp (by rw [List.drop_of_length_le (Nat.le_refl _), List.drop_of_length_le (by simp)]; simp [dv])
 refine ⟨r1, r2, Ev.congr (fun k => ?_) he, h⟩
 simp only [dioramaref02_Over.f, Int.toNat_natCast]
 rw [if_pos (by omega), if_pos (by omega), w64 (by omega) (by omega)]
end Go.Proofs.Ytpbhepdgamoiaaa.Pc
namespace Go.Proofs.Ytpbhepdgamoiaaa.Qr
open Go.RowKit Go Go.Proofs.YtpbhepdgamoiaaaW.PrintWords Go.Proofs.YtpbhepdgamoiaaaW.PrintLast Go.Proofs.YtpbhepdgamoiaaaW.PrintMore Go.Proofs.Ytpbhepdgamoiaaa.Ml Go.Proofs.Ytpbhepdgamoiaaa.Mn Go.Proofs.Ytpbhepdgamoiaaa.Nd Go.Proofs.Ytpbhepdgamoiaaa.Pa Go.Proofs.Ytpbhepdgamoiaaa.Pb Go.Proofs.Ytpbhepdgamoiaaa.Rf Go.Proofs.Ytpbhepdgamoiaaa.Er Go.Proofs.Ytpbhepdgamoiaaa.Ek Go.Proofs.Ytpbhepdgamoiaaa.E Go.Proofs.Ytpbhepdgamoiaaa.Pe Go.Proofs.Ytpbhepdgamoiaaa.Pf
set_option linter.unusedVariables false
set_option linter.unusedSimpArgs false
structure RV (b : Bool) (x y : List Int) (q : Rat) (n : Nat) : Prop where
 nx : Nn x
 ny : Nn y
 pos : 0 < dv 1000000000 y
 eq : q = qq (sg b (dv 1000000000 x)) (dv 1000000000 y)
 lx : x.length ≤ n
 ly : y.length ≤ n
theorem RV.mono {b : Bool} {x y : List Int} {q : Rat} {n m : Nat} (h : RV b x y q n) (hm : n ≤ m) : RV b x y q m := ⟨h.nx, h.ny, h.pos, h.eq, Nat.le_trans h.lx hm, Nat.le_trans h.ly hm⟩
theorem RV.x0 {b : Bool} {x y : List Int} {q : Rat} {n : Nat} (h : RV b x y q n) : 0 ≤ dv 1000000000 x := dv_nonneg (by decide) h.nx.dg
def RE (f : Nat → Option (Bool × List Int × List Int)) (q : Rat) (n : Nat) : Prop := ∃ b x y, Ev f (b, x, y) ∧ RV b x y q n
theorem qq_parts {a b : Int} (hb : 0 < b) : ∃ g : Int, 0 < g ∧ a = (qq a b).num * g ∧ b = ((qq a b).den : Int) * g := by
 obtain ⟨h1, h2⟩ := rat_low (a := a) (b := b) (by omega)
 refine ⟨(Int.gcd a b : Nat), ?_, ?_, ?_⟩
 ·have := Int.gcd_pos_of_ne_zero_right a (show b ≠ 0 by omega)
  omega
 ·rw [← h1]
  unfold Ra.ratN Ea.lowN
  rw [if_neg (by omega)]
  exact (Int.ediv_mul_cancel (Int.gcd_dvd_left a b)).symm
 ·rw [← h2]
  unfold Ra.ratD Ea.lowD
  rw [if_neg (by omega)]
  exact (Int.ediv_mul_cancel (Int.gcd_dvd_right a b)).symm
theorem qq_lt {a b c d : Int} (hb : 0 < b) (hd : 0 < d) : qq a b < qq c d ↔ a * d < c * b := by
 obtain ⟨g, hg, e1, e2⟩ := qq_parts (a := a) hb
 obtain ⟨h, hh, e3, e4⟩ := qq_parts (a := c) hd
 rw [Rat.lt_iff]
 generalize (qq a b).num = N1 at *
 generalize ((qq a b).den : Int) = D1 at *
 generalize (qq c d).num = N2 at *
 generalize ((qq c d).den : Int) = D2 at *
 subst e1 e2 e3 e4
 have k1 : N1 * g * (D2 * h) = N1 * D2 * (g * h) := by grind
 have k2 : N2 * h * (D1 * g) = N2 * D1 * (g * h) := by grind
 rw [k1, k2]
 exact (Int.mul_lt_mul_right (Int.mul_pos hg hh)).symm
theorem sg_ne (a b : Bool) (x y : Int) : sg (a != b) (x * y) = sg a x * sg b y := by cases a <;> cases b <;> simp [sg, Int.neg_mul, Int.mul_neg]
theorem timesR_f {b1 b2 : Bool} {x1 y1 x2 y2 : List Int} {p q : Rat} {n m : Nat} (h1 : RV b1 x1 y1 p n) (h2 : RV b2 x2 y2 q m) (hl : n + m ≤ 1000000) : RE (fun k => dioramaref10_times.f k b1 x1 y1 b2 x2 y2) (p * q) (n + m) := by
 have l1 := h1.lx
 have l2 := h1.ly
 have l3 := h2.lx
 have l4 := h2.ly
 obtain ⟨x, ex, nx, vx, lx⟩ := times_f x1 x2 h1.nx h2.nx (by omega)
 obtain ⟨y, ey, ny, vy, ly⟩ := times_f y1 y2 h1.ny h2.ny (by omega)
 refine ⟨b1 != b2, x, y, Ev.congr (fun k => rfl) (Ev.bind ex (Ev.bind ey (Ev.now _))), ⟨nx, ny, by rw [vy]; exact Int.mul_pos h1.pos h2.pos, ?_, by omega, by omega⟩⟩
 rw [h1.eq, h2.eq, vx, vy, sg_ne]
 unfold qq
 rw [Rat.divInt_mul_divInt]
theorem RV.neg {b : Bool} {x y : List Int} {q : Rat} {n : Nat} (h : RV b x y q n) : RV (!b) x y (-q) n := by
 refine ⟨h.nx, h.ny, h.pos, ?_, h.lx, h.ly⟩
 rw [h.eq]
 unfold qq
 rw [Rat.neg_divInt]
 congr 1
 cases b <;> simp [sg]
end Go.Proofs.Ytpbhepdgamoiaaa.Qr
namespace Go.Proofs.Ytpbhepdgamoiaaa.Qn
open Go.RowKit Go Go.Proofs.YtpbhepdgamoiaaaW.PrintWords Go.Proofs.YtpbhepdgamoiaaaW.PrintLast Go.Proofs.YtpbhepdgamoiaaaW.PrintMore Go.Proofs.Ytpbhepdgamoiaaa.Ml Go.Proofs.Ytpbhepdgamoiaaa.Mn Go.Proofs.Ytpbhepdgamoiaaa.Nd Go.Proofs.Ytpbhepdgamoiaaa.Pa Go.Proofs.Ytpbhepdgamoiaaa.Pb Go.Proofs.Ytpbhepdgamoiaaa.Rf Go.Proofs.Ytpbhepdgamoiaaa.Er Go.Proofs.Ytpbhepdgamoiaaa.Ek Go.Proofs.Ytpbhepdgamoiaaa.E Go.Proofs.Ytpbhepdgamoiaaa.Pe Go.Proofs.Ytpbhepdgamoiaaa.Pf Go.Proofs.Ytpbhepdgamoiaaa.Pg Go.Proofs.Ytpbhepdgamoiaaa.Qr
set_option linter.unusedVariables false
set_option linter.unusedSimpArgs false
theorem qq_eq {a b c d : Int} (hb : b ≠ 0) (hd : d ≠ 0) : qq a b = qq c d ↔ a * d = c * b := by
 unfold qq
 exact Rat.divInt_eq_divInt_iff hb hd
theorem qq_div (a b : Int) : qq a b = (a : Rat) / (b : Rat) := by unfold qq; exact Rat.divInt_eq_div a b
end Go.Proofs.Ytpbhepdgamoiaaa.Qn
namespace Go.Proofs.Ytpbhepdgamoiaaa.Qo
open Go.RowKit Go Go.Proofs.YtpbhepdgamoiaaaW.PrintWords Go.Proofs.YtpbhepdgamoiaaaW.PrintLast Go.Proofs.YtpbhepdgamoiaaaW.PrintMore Go.Proofs.Ytpbhepdgamoiaaa.Ml Go.Proofs.Ytpbhepdgamoiaaa.Mn Go.Proofs.Ytpbhepdgamoiaaa.Nd Go.Proofs.Ytpbhepdgamoiaaa.Pa Go.Proofs.Ytpbhepdgamoiaaa.Pb Go.Proofs.Ytpbhepdgamoiaaa.Rf Go.Proofs.Ytpbhepdgamoiaaa.Er Go.Proofs.Ytpbhepdgamoiaaa.Ek Go.Proofs.Ytpbhepdgamoiaaa.E Go.Proofs.Ytpbhepdgamoiaaa.Pe Go.Proofs.Ytpbhepdgamoiaaa.Pf Go.Proofs.Ytpbhepdgamoiaaa.Pg Go.Proofs.Ytpbhepdgamoiaaa.Qr Go.Proofs.Ytpbhepdgamoiaaa.Qn
set_option linter.unusedVariables false
set_option linter.unusedSimpArgs false
theorem RV.int {b : Bool} {x y : List Int} {z : Int} {n : Nat} (h : RV b x y (qq z 1) n) (hy : dv 1000000000 y = 1) : sg b (dv 1000000000 x) = z := by
 have e := h.eq
 rw [hy, qq_eq (by decide) (by decide)] at e
 omega
structure RZ (b : Bool) (x y : List Int) (z : Int) (n : Nat) : Prop where
 nx : Nn x
 ny : Nn y
 y1 : dv 1000000000 y = 1
 eq : sg b (dv 1000000000 x) = z
 lx : x.length ≤ n
 ly : y.length ≤ n
end Go.Proofs.Ytpbhepdgamoiaaa.Qo
namespace Go.Proofs.Ytpbhepdgamoiaaa.Qw
open Go.RowKit Go Go.Proofs.YtpbhepdgamoiaaaW.PrintWords Go.Proofs.YtpbhepdgamoiaaaW.PrintLast Go.Proofs.YtpbhepdgamoiaaaW.PrintMore Go.Proofs.Ytpbhepdgamoiaaa.Ml Go.Proofs.Ytpbhepdgamoiaaa.Mn Go.Proofs.Ytpbhepdgamoiaaa.Nd Go.Proofs.Ytpbhepdgamoiaaa.Pa Go.Proofs.Ytpbhepdgamoiaaa.Pb Go.Proofs.Ytpbhepdgamoiaaa.Pc Go.Proofs.Ytpbhepdgamoiaaa.Rf Go.Proofs.Ytpbhepdgamoiaaa.Er Go.Proofs.Ytpbhepdgamoiaaa.Ek Go.Proofs.Ytpbhepdgamoiaaa.E Go.Proofs.Ytpbhepdgamoiaaa.Pe Go.Proofs.Ytpbhepdgamoiaaa.Pf Go.Proofs.Ytpbhepdgamoiaaa.Qr Go.Proofs.Ytpbhepdgamoiaaa.Qn Go.Proofs.Ytpbhepdgamoiaaa.Ew
set_option linter.unusedVariables false
set_option linter.unusedSimpArgs false
theorem qq_one (z : Int) : qq z 1 = (z : Rat) := by
 rw [qq_div, show ((1 : Int) : Rat) = 1 from rfl]
 grind
end Go.Proofs.Ytpbhepdgamoiaaa.Qw
namespace Go.Proofs.Ytpbhepdgamoiaaa.Nm
open Go.RowKit Go Go.Proofs.Ytpbhepdgamoiaaa.Rf Go.Proofs.Ytpbhepdgamoiaaa.Er Go.Proofs.Ytpbhepdgamoiaaa.Ek Go.Proofs.Ytpbhepdgamoiaaa.Et Go.Proofs.Ytpbhepdgamoiaaa.E Go.Proofs.Ytpbhepdgamoiaaa.Pe Go.Proofs.Ytpbhepdgamoiaaa.Pf Go.Proofs.Ytpbhepdgamoiaaa.Qr Go.Proofs.Ytpbhepdgamoiaaa.Qn Go.Proofs.Ytpbhepdgamoiaaa.Qw
set_option linter.unusedVariables false
set_option linter.unusedSimpArgs false
theorem qq_lt1 {a b c : Int} (hc : 0 < c) : qq a c < qq b c ↔ a < b := by
 rw [qq_lt hc hc]
 exact ⟨fun h => Int.lt_of_mul_lt_mul_right h (by omega), fun h => Int.mul_lt_mul_of_pos_right h hc⟩
theorem qq_le1 {a b c : Int} (hc : 0 < c) : qq a c ≤ qq b c ↔ a ≤ b := by
 rw [← Rat.not_lt, qq_lt1 hc]
 omega
theorem qq_add1 {a b c : Int} (hc : c ≠ 0) : qq (a + b) c = qq a c + qq b c := by
 unfold qq
 rw [Rat.divInt_add_divInt _ _ hc hc, ← Int.add_mul, Rat.divInt_mul_right hc]
theorem qq_lo (n e : Int) : qq (qq n e).num ((qq n e).den : Int) = qq n e := Rat.num_divInt_den _
theorem qq_zero (e : Int) : qq 0 e = 0 := by
 unfold qq
 simp
theorem qq_split {m t : Int} (ht : t ≠ 0) : qq m 1 = qq m t * qq t 1 := by
 unfold qq
 rw [Rat.divInt_mul_divInt, Int.mul_comm m t, Int.mul_one]
 conv => rhs; rw [show t = t * 1 by omega, Int.mul_assoc, Int.one_mul]
 rw [Rat.divInt_mul_left ht]
theorem qq_ne {t : Int} (ht : t ≠ 0) : qq t 1 ≠ 0 := by
 rw [qq_one]
 exact fun h => ht (by exact_mod_cast h)
theorem lt_le {a b c : Rat} (h : a < b) (h2 : b ≤ c) : a < c := Rat.not_le.1 fun h3 => Rat.not_le.2 h (Rat.le_trans h2 h3)
abbrev noV : (Int × Int) × Bool × Int := ((0, 1), false, 0)
def shV (ts : Int) (x : Ed) (p : Rat) : (Int × Int) × Bool × Int := if x.f1 < 0 then noV else ((tmV (qq x.f1 ts + p * qq x.f2 x.f3)).1, (tmV (qq x.f1 ts + p * qq x.f2 x.f3)).2 == 0, (tmV (qq x.f1 ts + p * qq x.f2 x.f3)).2)
theorem med_cons (ms ts : Int) (q : Rat) (b : Int) (x : Ed) (t : List Ed) : medL ms ts q b (x :: t) = if q < qq b ms then medL ms ts q (b + x.f0) t else if q < qq (b + x.f0) ms then shV ts x (q - qq b ms) else medL ms ts q (b + x.f0) t := rfl
theorem med_cong {ms ts : Int} {q : Rat} {u v : List Ed} (h : ∀ b, medL ms ts q b u = medL ms ts q b v) : ∀ (p : List Ed) (b : Int), medL ms ts q b (p ++ u) = medL ms ts q b (p ++ v)
 | [], b => h b
 | x :: t, b => by
  rw [List.cons_append, List.cons_append, med_cons, med_cons, med_cong h t]
theorem sh_low (ts : Int) (x : Ed) (p : Rat) : shV ts (lowV x) p = shV ts x p := by
 unfold shV lowV
 simp only [qq_lo]
theorem med_map {ms ts : Int} {q : Rat} : ∀ (l : List Ed) (b : Int), medL ms ts q b (l.map lowV) = medL ms ts q b l
 | [], b => rfl
 | x :: t, b => by
  rw [List.map_cons, med_cons, med_cons, sh_low]
  show (if q < qq b ms then medL ms ts q (b + x.f0) (t.map lowV) else if q < qq (b + x.f0) ms then shV ts x (q - qq b ms) else medL ms ts q (b + x.f0) (t.map lowV)) = _
  rw [med_map t]
theorem cmpQ_eq {p q : Rat} (h : cmpQ p q = 0) : p = q := by
 unfold cmpQ at h
 split at h
 ·cases h
 ·split at h
  ·cases h
  ·rename_i h1 h2
   exact Rat.le_antisymm (Rat.not_lt.1 h2) (Rat.not_lt.1 h1)
theorem ov_sh {ms ts : Int} {a e : Ed} (hm : 0 < ms) (ht : 0 < ts) (h : ovV ms ts a e = true) (p : Rat) : shV ts e p = shV ts a (p + qq a.f0 ms) := by
 unfold ovV overB kinB kB kS kN kE at h
 simp only [Bool.and_eq_true, Bool.or_eq_true, beq_iff_eq, decide_eq_decide, decide_eq_true_eq] at h
 obtain ⟨⟨h1, h2, h3, h4⟩, h5⟩ := h
 unfold shV
 by_cases hn : a.f1 < 0
 ·rw [if_pos hn, if_pos (h1.1 hn)]
 ·have hn' : ¬ e.f1 < 0 := fun h => hn (h1.2 h)
  rw [if_neg hn, if_neg hn'] at h2 h3 h4
  rw [if_neg hn, if_neg hn']
  have hq : qq e.f1 ts + p * qq e.f2 e.f3 = qq a.f1 ts + (p + qq a.f0 ms) * qq a.f2 a.f3 := by
   by_cases z : a.f2 = 0
   ·rw [if_pos z] at h2 h3 h4
    by_cases z' : e.f2 = 0
    ·rw [if_pos z'] at h2
     rw [z, z', qq_zero, qq_zero, h2]
     grind
    ·rw [if_neg z'] at h3
     exact absurd h3.symm z'
   ·rw [if_neg z] at h2 h3 h4
    by_cases z' : e.f2 = 0
    ·rw [if_pos z'] at h3
     exact absurd h3 z
    ·rw [if_neg z'] at h3 h4
     have h6 : cmpQ (afterQ ms ts a.f1 a.f2 a.f3 a.f0) (qq e.f1 1) = 0 := by
      rcases h5 with (h5 | h5) | h5
      ·exact absurd h5 hn
      ·exact absurd h5 z
      ·exact h5
     have h7 := cmpQ_eq h6
     unfold afterQ at h7
     rw [qq_split (m := a.f1) (t := ts) (by omega), qq_split (m := e.f1) (t := ts) (by omega)] at h7
     have h8 : qq e.f1 ts = qq a.f0 ms * qq a.f2 a.f3 + qq a.f1 ts := by
      have h9 := qq_ne (t := ts) (by omega)
      generalize qq ts 1 = T at h7 h9
      have : (qq a.f0 ms * qq a.f2 a.f3 + qq a.f1 ts - qq e.f1 ts) * T = 0 := by grind
      rcases Rat.mul_eq_zero.1 this with h | h
      ·grind
      ·exact absurd h h9
     rw [h8, ← h3, ← h4]
     grind
  rw [hq]
theorem med_two {ms ts : Int} {q : Rat} {a e : Ed} {t : List Ed} (hm : 0 < ms) (ht : 0 < ts) (ha : 0 ≤ a.f0) (he : 0 ≤ e.f0) (h : ovV ms ts a e = true) (b : Int) : medL ms ts q b (⟨a.f0 + e.f0, a.f1, a.f2, a.f3⟩ :: t) = medL ms ts q b (a :: e :: t) := by
 rw [med_cons, med_cons, med_cons]
 have l1 := (qq_le1 (a := b) (b := b + a.f0) hm).2 (by omega)
 have l2 := (qq_le1 (a := b + a.f0) (b := b + a.f0 + e.f0) hm).2 (by omega)
 have hs : ∀ p, shV ts (⟨a.f0 + e.f0, a.f1, a.f2, a.f3⟩ : Ed) p = shV ts a p := fun p => rfl
 rw [hs]
 show (if q < qq b ms then medL ms ts q (b + (a.f0 + e.f0)) t else if q < qq (b + (a.f0 + e.f0)) ms then shV ts a (q - qq b ms) else medL ms ts q (b + (a.f0 + e.f0)) t) = _
 rw [← Int.add_assoc]
 by_cases c1 : q < qq b ms
 ·rw [if_pos c1, if_pos c1, if_pos (lt_le c1 l1)]
 ·rw [if_neg c1, if_neg c1]
  by_cases c2 : q < qq (b + a.f0) ms
  ·rw [if_pos c2, if_pos (lt_le c2 l2)]
  ·rw [if_neg c2, if_neg c2]
   by_cases c3 : q < qq (b + a.f0 + e.f0) ms
   ·rw [if_pos c3, if_pos c3, ov_sh hm ht h]
    congr 1
    rw [qq_add1 (by omega)]
    grind
   ·rw [if_neg c3, if_neg c3]
theorem push_med {ms ts : Int} {q : Rat} (hm : 0 < ms) (ht : 0 < ts) {out : List Ed} {e : Ed} (h : ∀ x ∈ out, Wd x) (he : Wd e) (t : List Ed) (b : Int) : medL ms ts q b ((push ms ts out e).reverse ++ t) = medL ms ts q b (out.reverse ++ e :: t) := by
 cases out with
 | nil => rfl
 | cons a o =>
  have ha := (h a (by simp)).d0
  have hd := he.d0
  simp only [push]
  split
  ·rename_i ho
   simp only [List.reverse_cons, List.append_assoc, List.singleton_append]
   exact med_cong (fun b' => med_two hm ht (by omega) (by omega) ho b') _ b
  ·simp only [List.reverse_cons, List.append_assoc, List.singleton_append, List.cons_append, List.nil_append]
theorem nrmR_med {ms ts : Int} {q : Rat} (hm : 0 < ms) (ht : 0 < ts) : ∀ (l out : List Ed) (b : Int), (∀ x ∈ out, Wd x) → (∀ x ∈ l, Vd x) → medL ms ts q b (nrmR ms ts out l).reverse = medL ms ts q b (out.reverse ++ l.map lowV)
 | [], out, b, _, _ => by simp [nrmR]
 | x :: t, out, b, h, hV => by
  have hw := wd_low (hV x (by simp))
  have hn : nrmR ms ts out (x :: t) = nrmR ms ts (push ms ts out (lowV x)) t := rfl
  rw [hn, nrmR_med hm ht t _ b (push_wd h hw) (fun y hy => hV y (by simp [hy])), push_med hm ht h hw]
  rfl
theorem nrm_med {ms ts : Int} {q : Rat} (hc : Ck ms ts) {l : List Ed} (hV : ∀ x ∈ l, Vd x) (b : Int) : medL ms ts q b (nrm ms ts l) = medL ms ts q b l := by
 unfold nrm
 rw [nrmR_med (by have := hc.m0; omega) (by have := hc.t0; omega) l [] b (by simp) hV]
 exact med_map l b
def Em1 (x : Ed) : Prop := x.f1 < 0 → x.f2 = 1 ∧ x.f3 = 1
theorem em_low {x : Ed} (h : Em1 x) : Em1 (lowV x) := by
 intro hm
 have := h hm
 unfold lowV
 simp only
 rw [this.1, this.2]
 decide
theorem push_em {ms ts : Int} {out : List Ed} {e : Ed} (h : ∀ x ∈ out, Em1 x) (he : Em1 e) : ∀ x ∈ push ms ts out e, Em1 x := by
 cases out with
 | nil => simpa [push] using he
 | cons a t =>
  have ha := h a (by simp)
  simp only [push]
  split
  ·intro x hx
   simp only [List.mem_cons] at hx
   rcases hx with rfl | hx
   ·exact ha
   ·exact h x (by simp [hx])
  ·intro x hx
   simp only [List.mem_cons] at hx
   rcases hx with rfl | hx
   ·exact he
   ·exact h x (by simpa using hx)
theorem nrmR_wd {ms ts : Int} : ∀ (l out : List Ed), (∀ x ∈ out, Wd x ∧ Em1 x) → (∀ x ∈ l, Vd x) → ∀ x ∈ nrmR ms ts out l, Wd x ∧ Em1 x
 | [], out, h, _ => h
 | x :: t, out, h, hV => by
  have hx := hV x (by simp)
  have hn : nrmR ms ts out (x :: t) = nrmR ms ts (push ms ts out (lowV x)) t := rfl
  rw [hn]
  refine nrmR_wd t _ (fun y hy => ⟨push_wd (fun z hz => (h z hz).1) (wd_low hx) y hy, push_em (fun z hz => (h z hz).2) (em_low hx.em) y hy⟩) (fun y hy => hV y (by simp [hy]))
theorem le_sum : ∀ (l : List Ed), (∀ x ∈ l, Wd x) → ∀ x ∈ l, x.f0 ≤ sumD l
 | [], _, x, hx => by cases hx
 | y :: t, h, x, hx => by
  have h0 := (h y (by simp)).d0
  have hs := wd_sum (l := t) (fun z hz => h z (by simp [hz]))
  simp only [sumD]
  rcases List.mem_cons.1 hx with rfl | hx
  ·omega
  ·have := le_sum t (fun z hz => h z (by simp [hz])) x hx
   omega
theorem nrm_vd {ms ts : Int} {l : List Ed} (hV : ∀ x ∈ l, Vd x) (hs : sumD l ≤ 1099511627776) : ∀ x ∈ nrm ms ts l, Vd x := by
 have h := nrmR_wd (ms := ms) (ts := ts) l [] (by simp) hV
 have h1 : ∀ x ∈ nrm ms ts l, Wd x ∧ Em1 x := fun x hx => h x (List.mem_reverse.1 hx)
 have h2 := le_sum (nrm ms ts l) (fun x hx => (h1 x hx).1)
 rw [nrm_sum] at h2
 intro x hx
 have hw := (h1 x hx).1
 have := h2 x hx
 exact ⟨hw.d0, by omega, hw.m0, hw.m1, hw.n0, hw.n1, hw.e0, hw.e1, (h1 x hx).2⟩
theorem nrmV_ok {ms ts : Int} (hc : Ck ms ts) {l : List Ed} (hV : ∀ x ∈ l, Vd x) (h : (nrmV ms ts l).2 = 0) : nrmV ms ts l = (nrm ms ts l, 0) ∧ chk (nrm ms ts l) ms ts = 0 ∧ sumD l ≤ 1099511627776 := by
 unfold nrmV at h ⊢
 by_cases h1 : 1099511627776 < sumD l
 ·rw [if_pos h1] at h
  cases h
 ·rw [if_neg h1] at h ⊢
  unfold fin at h ⊢
  by_cases h2 : 20 < (nrmR ms ts [] l).length
  ·rw [if_pos h2] at h
   cases h
  ·rw [if_neg h2]
   refine ⟨rfl, chk_ok.2 ⟨hc, ?_, nrm_vd hV (by omega), ?_⟩, by omega⟩
   ·unfold nrm
    rw [List.length_reverse]
    omega
   ·rw [nrm_sum]
    omega
end Go.Proofs.Ytpbhepdgamoiaaa.Nm
namespace Go.Proofs.Ytpbhepdgamoiaaa.Qp
open Go.RowKit Go Go.Proofs.YtpbhepdgamoiaaaW.PrintWords Go.Proofs.YtpbhepdgamoiaaaW.PrintLast Go.Proofs.YtpbhepdgamoiaaaW.PrintMore Go.Proofs.Ytpbhepdgamoiaaa.Ml Go.Proofs.Ytpbhepdgamoiaaa.Mn Go.Proofs.Ytpbhepdgamoiaaa.Nd Go.Proofs.Ytpbhepdgamoiaaa.Pa Go.Proofs.Ytpbhepdgamoiaaa.Pb Go.Proofs.Ytpbhepdgamoiaaa.Rf Go.Proofs.Ytpbhepdgamoiaaa.Er Go.Proofs.Ytpbhepdgamoiaaa.Ek Go.Proofs.Ytpbhepdgamoiaaa.E Go.Proofs.Ytpbhepdgamoiaaa.Pe Go.Proofs.Ytpbhepdgamoiaaa.Pf Go.Proofs.Ytpbhepdgamoiaaa.Pg Go.Proofs.Ytpbhepdgamoiaaa.Qr Go.Proofs.Ytpbhepdgamoiaaa.Qn Go.Proofs.Ytpbhepdgamoiaaa.Qo
set_option linter.unusedVariables false
set_option linter.unusedSimpArgs false
theorem nrmV_ok {l : List Ed} {ms ts : Int} (h : chk l ms ts = 0) : nrmV ms ts l = (nrm ms ts l, 0) := by
 obtain ⟨hc, hl, hV, hs⟩ := chk_ok.1 h
 have := nrmR_len ms ts l []
 simp only [List.length_nil] at this
 unfold nrmV fin nrm
 rw [if_neg (by omega), if_neg (by omega)]
end Go.Proofs.Ytpbhepdgamoiaaa.Qp
namespace Go.Proofs.Ytpbhepdgamoiaaa.Qe
open Go.RowKit Go Go.Proofs.YtpbhepdgamoiaaaW.PrintWords Go.Proofs.YtpbhepdgamoiaaaW.PrintLast Go.Proofs.YtpbhepdgamoiaaaW.PrintMore Go.Proofs.Ytpbhepdgamoiaaa.Mn Go.Proofs.Ytpbhepdgamoiaaa.Er Go.Proofs.Ytpbhepdgamoiaaa.Ek Go.Proofs.Ytpbhepdgamoiaaa.E Go.Proofs.Ytpbhepdgamoiaaa.Pe Go.Proofs.Ytpbhepdgamoiaaa.Pf Go.Proofs.Ytpbhepdgamoiaaa.Pg
set_option linter.unusedVariables false
set_option linter.unusedSimpArgs false
end Go.Proofs.Ytpbhepdgamoiaaa.Qe
namespace Go.Proofs.Ytpbhepdgamoiaaa.Fr
open Go.RowKit Go Go.Proofs.YtpbhepdgamoiaaaW.PrintWords Go.Proofs.YtpbhepdgamoiaaaW.PrintLast Go.Proofs.YtpbhepdgamoiaaaW.PrintMore Go.Proofs.Ytpbhepdgamoiaaa.Mn Go.Proofs.Ytpbhepdgamoiaaa.Rf Go.Proofs.Ytpbhepdgamoiaaa.Er Go.Proofs.Ytpbhepdgamoiaaa.Ek Go.Proofs.Ytpbhepdgamoiaaa.E Go.Proofs.Ytpbhepdgamoiaaa.Pe Go.Proofs.Ytpbhepdgamoiaaa.Pf Go.Proofs.Ytpbhepdgamoiaaa.Pg Go.Proofs.Ytpbhepdgamoiaaa.Qr Go.Proofs.Ytpbhepdgamoiaaa.Qn Go.Proofs.Ytpbhepdgamoiaaa.Qo Go.Proofs.Ytpbhepdgamoiaaa.Qp Go.Proofs.Ytpbhepdgamoiaaa.Qe Go.Proofs.Ytpbhepdgamoiaaa.Qw Go.Proofs.Ytpbhepdgamoiaaa.Oe
set_option linter.unusedVariables false
set_option linter.unusedSimpArgs false
def mapE (f : Ed → Int × Ed) (fin : List Ed → List Ed × Int) : List Ed → List Ed → List Ed × Int
 | out, [] => fin out
 | out, x :: t => if (f x).1 = 0 then mapE f fin (out ++ [(f x).2]) t else ([], (f x).1)
theorem mapE_ok {f : Ed → Int × Ed} {fin : List Ed → List Ed × Int} {out : List Ed} {x : Ed} {t : List Ed} {y : Ed} (h : f x = (0, y)) : mapE f fin out (x :: t) = mapE f fin (out ++ [y]) t := by
 simp only [mapE]
 rw [h, if_pos rfl]
theorem mapE_err {f : Ed → Int × Ed} {fin : List Ed → List Ed × Int} {out : List Ed} {x : Ed} {t : List Ed} {y : Ed} {e : Int} (h : f x = (e, y)) (he : e ≠ 0) : mapE f fin out (x :: t) = ([], e) := by
 simp only [mapE]
 rw [h, if_neg he]
def fstE (num den d : Int) (x : Ed) : Ed := if 0 ≤ x.f1 ∧ 0 < x.f2 then lowV ⟨d, x.f1, x.f2 * num, x.f3 * den⟩ else ⟨d, x.f1, x.f2, x.f3⟩
def fastV (num den : Int) (x : Ed) : Int × Ed :=
 if x.f0 * den % num = 0 then
  (if (0 ≤ x.f1 ∧ 0 < x.f2) ∧ (1000 < (fstE num den (x.f0 * den / num) x).f2 ∨ 1000 < (fstE num den (x.f0 * den / num) x).f3) then (33, x)
     else if 1099511627776 < x.f0 * den / num then (2, x) else (0, fstE num den (x.f0 * den / num) x))
 else (20, x)
theorem fastV_eq (num den : Int) (x : Ed) : fastV num den x =
 if x.f0 * den % num = 0 then
  (if (0 ≤ x.f1 ∧ 0 < x.f2) ∧ (1000 < (fstE num den (x.f0 * den / num) x).f2 ∨ 1000 < (fstE num den (x.f0 * den / num) x).f3) then (33, x)
     else if 1099511627776 < x.f0 * den / num then (2, x) else (0, fstE num den (x.f0 * den / num) x))
 else (20, x) := rfl
structure Rt (num den : Int) : Prop where
 n0 : 1 ≤ num
 n1 : num ≤ 1000
 d0 : 1 ≤ den
 d1 : den ≤ 1000
theorem prod_bd {a b : Int} (A B : Int) (ha : 1 ≤ a) (hA : a ≤ A) (hb : 1 ≤ b) (hB : b ≤ B) : 1 ≤ a * b ∧ a * b ≤ A * B := by
 have h1 := Int.mul_le_mul hA hB (by omega) (by omega)
 have h2 := Int.mul_pos (show 0 < a by omega) (show 0 < b by omega)
 omega
theorem quot_pos {a b : Int} (ha : 1 ≤ a) (hb : 1 ≤ b) (h : a % b = 0) : 1 ≤ a / b := by
 have h1 := Int.mul_ediv_add_emod a b
 refine Int.le_of_not_gt fun h2 => ?_
 have h3 := Int.mul_le_mul_of_nonneg_left (show a / b ≤ 0 by omega) (show 0 ≤ b by omega)
 omega
theorem quot_le {a b : Int} (ha : 0 ≤ a) : a / b ≤ a := Int.ediv_le_self b ha
theorem fast_vd {num den : Int} (hr : Rt num den) {x y : Ed} (hx : Vd x) (h : fastV num den x = (0, y)) : Vd y := by
 have hp := prod_bd 1099511627776 1000 hx.d0 hx.d1 hr.d0 hr.d1
 unfold fastV at h
 by_cases h0 : x.f0 * den % num = 0
 ·rw [if_pos h0] at h
  have hq := quot_pos hp.1 hr.n0 h0
  generalize x.f0 * den / num = d at h hq
  by_cases h1 : (0 ≤ x.f1 ∧ 0 < x.f2) ∧ (1000 < (fstE num den d x).f2 ∨ 1000 < (fstE num den d x).f3)
  ·rw [if_pos h1] at h; cases h
  ·rw [if_neg h1] at h
   by_cases h2 : 1099511627776 < d
   ·rw [if_pos h2] at h; cases h
   ·rw [if_neg h2] at h
    obtain rfl : fstE num den d x = y := (Prod.mk.inj h).2
    have m1 := hx.m1
    by_cases hm : 0 ≤ x.f1 ∧ 0 < x.f2
    ·have hb : ¬ (1000 < (fstE num den d x).f2 ∨ 1000 < (fstE num den d x).f3) := fun hc => h1 ⟨hm, hc⟩
     have hn1 := hx.n1
     have he0 := hx.e0
     have he1 := hx.e1
     have p1 := prod_bd 1000 1000 (show 1 ≤ x.f2 by omega) hn1 hr.n0 hr.n1
     have p2 := prod_bd 1000 1000 he0 he1 hr.d0 hr.d1
     have hl := qq_low (n := x.f2 * num) (e := x.f3 * den) (by omega) p2.1
     unfold fstE lowV at hb ⊢
     rw [if_pos hm] at hb ⊢
     simp only at hb ⊢
     exact ⟨hq, by simp only; omega, by simp only; omega, m1, hl.1, by simp only; omega, hl.2.2.1, by simp only; omega, fun hc => by simp only at hc; omega⟩
    ·unfold fstE
     rw [if_neg hm]
     exact ⟨hq, by simp only; omega, hx.m0, m1, hx.n0, hx.n1, hx.e0, hx.e1, hx.em⟩
 ·rw [if_neg h0] at h; cases h
theorem len_step (pre : List Ed) (x : Ed) (h : pre.length ≤ 1000000) : wrap64 ((pre.length : Int) + 1) = ((pre ++ [x]).length : Int) := by rw [w64 (by omega) (by omega)]; simp
theorem faster_l {ms ts num den : Int} (hc : Ck ms ts) (hr : Rt num den) (l : List Ed) (hV : ∀ x ∈ l, Vd x) (hl : l.length ≤ 1000) (rest : List Ed) :
  ∀ pre out, l = pre ++ rest → (∀ x ∈ out, Vd x) → out.length ≤ pre.length →
   Ev (fun k => edit_Faster.l0 k ms ts num den out l (l.length : Int) (pre.length : Int)) (mapE (fastV num den) (nrmV ms ts) out rest) := by
 induction rest with
 | nil =>
  intro pre out he hw ho
  simp only [List.append_nil] at he
  subst he
  refine Ev.step (fun k => by rw [edit_Faster.l0]) ?_
  exact Ev.congr (fun k => if_neg (by omega)) (Ev.bind (normal_f hc out hw (by omega)) (Ev.now _))
 | cons x t ih =>
  intro pre out he hw ho
  have hlen : l.length = pre.length + (t.length + 1) := by rw [he]; simp
  have hx : rd_T77 l (pre.length : Int) = x := by rw [he]; exact rd_at pre x t
  have hv : Vd x := hV x (by rw [he]; simp)
  have r0 := hr.n0
  have r1 := hr.n1
  have hp := prod_bd 1099511627776 1000 hv.d0 hv.d1 hr.d0 hr.d1
  have nx : ∀ y, fastV num den x = (0, y) → Ev (fun k => edit_Faster.l0 k ms ts num den (out ++ [y]) l (l.length : Int) (wrap64 ((pre.length : Int) + 1))) (mapE (fastV num den) (nrmV ms ts) out (x :: t)) := by
   intro y hy
   rw [mapE_ok hy, len_step pre x (by omega)]
   refine ih (pre ++ [x]) (out ++ [y]) (by rw [he]; simp) ?_ (by simp; omega)
   intro z hz
   rcases List.mem_append.1 hz with hz | hz
   ·exact hw z hz
   ·rw [List.mem_singleton] at hz
    rw [hz]
    exact fast_vd hr hv hy
  have hF := fastV_eq num den x
  have hw1 : wrap64 (x.f0 * den) = x.f0 * den := w64 (by omega) (by omega)
  have htm : Int.tmod (x.f0 * den) num = x.f0 * den % num := Int.tmod_eq_emod_of_nonneg (by omega)
  have htd : Int.tdiv (x.f0 * den) num = x.f0 * den / num := Int.tdiv_eq_ediv_of_nonneg (by omega)
  have hq1 : x.f0 * den / num ≤ x.f0 * den := quot_le (by omega)
  have hq0 : 0 ≤ x.f0 * den / num := Int.ediv_nonneg (by omega) (by omega)
  have hwq : wrap64 (x.f0 * den / num) = x.f0 * den / num := w64 (by omega) (by omega)
  refine Ev.step (fun k => by rw [edit_Faster.l0]) ?_
  refine Ev.congr (fun k => if_pos (by omega)) (Ev.congr (fun k => if_pos (by omega)) (Ev.congr (fun k => if_pos (by omega)) (Ev.congr (fun k => if_neg (by omega)) ?_)))
  rw [hx, hw1, htm, htd, hwq]
  generalize x.f0 * den = A at *
  by_cases h0 : A % num = 0
  ·rw [if_pos h0] at hF
   refine Ev.congr (fun k => if_pos h0) ?_
   generalize A / num = d at *
   have still : ¬ (0 ≤ x.f1 ∧ 0 < x.f2) → Ev (fun k => edit_Faster.j2 k ms ts num den out l (l.length : Int) (pre.length : Int) false d x.f1 x.f2 x.f3) (mapE (fastV num den) (nrmV ms ts) out (x :: t)) := by
    intro hm
    rw [if_neg (fun h => hm h.1)] at hF
    refine Ev.step (fun k => by rw [edit_Faster.j2]) ?_
    refine Ev.congr (fun k => if_neg (by decide)) ?_
    by_cases hb : 1099511627776 < d
    ·rw [if_pos hb] at hF
     rw [mapE_err hF (by decide)]
     exact Ev.congr (fun k => if_pos hb) (Ev.now _)
    ·rw [if_neg hb] at hF
     have hfe : fstE num den d x = ⟨d, x.f1, x.f2, x.f3⟩ := if_neg hm
     rw [hfe] at hF
     exact Ev.congr (fun k => if_neg hb) (Ev.congr (fun k => if_pos (by omega)) (nx _ hF))
   by_cases hm : 0 ≤ x.f1
   ·refine Ev.congr (fun k => if_pos hm) ?_
    by_cases hp2 : 0 < x.f2
    ·rw [decide_eq_true (show x.f2 > 0 from hp2)]
     have hn1 := hv.n1
     have p1 := prod_bd 1000 1000 (show 1 ≤ x.f2 by omega) hn1 hr.n0 hr.n1
     have p2 := prod_bd 1000 1000 hv.e0 hv.e1 hr.d0 hr.d1
     have hlo : edit_lowest.f d x.f1 (wrap64 (x.f2 * num)) (wrap64 (x.f3 * den)) = some (d, x.f1, (fstE num den d x).f2, (fstE num den d x).f3) := by
      rw [w64 (by omega) (by omega), w64 (by omega) (by omega)]
      unfold edit_lowest.f rateOk fstE lowV
      rw [if_pos (⟨hm, hp2⟩ : 0 ≤ x.f1 ∧ 0 < x.f2), decide_eq_true (show 0 ≤ x.f2 * num by omega), decide_eq_true (show x.f2 * num ≤ 1000000 by omega), decide_eq_true p2.1, decide_eq_true (show x.f3 * den ≤ 1000000 by omega)]
      rfl
     have hfe : fstE num den d x = ⟨d, x.f1, (fstE num den d x).f2, (fstE num den d x).f3⟩ := by
      unfold fstE
      rw [if_pos (⟨hm, hp2⟩ : 0 ≤ x.f1 ∧ 0 < x.f2)]
      rfl
     refine Ev.step (fun k => by rw [edit_Faster.j2]) ?_
     refine Ev.congr (fun k => if_pos rfl) ?_
     rw [hlo]
     simp only [Option.bind_some]
     generalize hy2 : (fstE num den d x).f2 = y2 at *
     generalize hy3 : (fstE num den d x).f3 = y3 at *
     have go : Ev (fun k => edit_Faster.j3 k ms ts num den out l (l.length : Int) (pre.length : Int) (decide (1000 < y2 ∨ 1000 < y3)) d x.f1 y2 y3) (mapE (fastV num den) (nrmV ms ts) out (x :: t)) := by
      refine Ev.step (fun k => by rw [edit_Faster.j3]) ?_
      by_cases hb : 1000 < y2 ∨ 1000 < y3
      ·rw [if_pos ⟨⟨hm, hp2⟩, hb⟩] at hF
       rw [mapE_err hF (by decide)]
       exact Ev.congr (fun k => if_pos (decide_eq_true hb)) (Ev.now _)
      ·rw [if_neg (fun h => hb h.2)] at hF
       refine Ev.congr (fun k => if_neg (by rw [decide_eq_false hb]; decide)) ?_
       by_cases hb2 : 1099511627776 < d
       ·rw [if_pos hb2] at hF
        rw [mapE_err hF (by decide)]
        exact Ev.congr (fun k => if_pos hb2) (Ev.now _)
       ·rw [if_neg hb2, hfe] at hF
        exact Ev.congr (fun k => if_neg hb2) (Ev.congr (fun k => if_pos (by omega)) (nx _ hF))
     by_cases hb : y2 > 1000
     ·rw [decide_eq_true (.inl hb)] at go
      exact Ev.congr (fun k => if_pos hb) go
     ·have e : decide (1000 < y2 ∨ 1000 < y3) = decide (y3 > 1000) := by
       congr 1
       apply propext
       omega
      rw [e] at go
      exact Ev.congr (fun k => if_neg hb) go
    ·rw [decide_eq_false (show ¬ x.f2 > 0 from hp2)]
     exact still (fun h => hp2 h.2)
   ·exact Ev.congr (fun k => if_neg hm) (still (fun h => hm h.1))
  ·rw [if_neg h0] at hF
   rw [mapE_err hF (by decide)]
   exact Ev.congr (fun k => if_neg h0) (Ev.now _)
def fasV (ms ts num den : Int) (l : List Ed) : List Ed × Int := if chk l ms ts = 0 then (if 1 ≤ num ∧ num ≤ 1000 ∧ 1 ≤ den ∧ den ≤ 1000 then mapE (fastV num den) (nrmV ms ts) [] l else ([], 1)) else ([], chk l ms ts)
theorem Faster_f (l : List Ed) (ms ts num den : Int) : Ev (fun k => edit_Faster.f k l ms ts num den) (fasV ms ts num den l) := by
 unfold fasV
 by_cases h0 : chk l ms ts = 0
 ·obtain ⟨hc, hl, hV, hs⟩ := chk_ok.1 h0
  rw [if_pos h0]
  have h1 := check_f l ms ts
  rw [h0] at h1
  refine Ev.congr (fun k => rfl) (Ev.bind h1 (Ev.congr (fun k => if_pos rfl) ?_))
  have bad : ¬ (1 ≤ num ∧ num ≤ 1000 ∧ 1 ≤ den ∧ den ≤ 1000) → Ev (fun k => edit_Faster.j0 k l ms ts num den true) (if 1 ≤ num ∧ num ≤ 1000 ∧ 1 ≤ den ∧ den ≤ 1000 then mapE (fastV num den) (nrmV ms ts) [] l else ([], 1)) := by
   intro h
   rw [if_neg h]
   exact Ev.step (fun k => by rw [edit_Faster.j0]) (Ev.congr (fun k => if_pos rfl) (Ev.now _))
  by_cases h1 : num < 1
  ·exact Ev.congr (fun k => if_pos h1) (bad (by omega))
  refine Ev.congr (fun k => if_neg h1) ?_
  by_cases h2 : num > 1000
  ·exact Ev.congr (fun k => if_pos h2) (bad (by omega))
  refine Ev.congr (fun k => if_neg h2) ?_
  by_cases h3 : den < 1
  ·exact Ev.congr (fun k => if_pos h3) (bad (by omega))
  refine Ev.congr (fun k => if_neg h3) ?_
  by_cases h4 : den > 1000
  ·rw [decide_eq_true h4]
   exact bad (by omega)
  ·rw [decide_eq_false h4, if_pos (by omega)]
   refine Ev.step (fun k => by rw [edit_Faster.j0]) (Ev.congr (fun k => if_neg (by decide)) ?_)
   exact faster_l hc ⟨by omega, by omega, by omega, by omega⟩ l hV (by omega) l [] [] rfl (by simp) (by simp)
 ·rw [if_neg h0]
  refine Ev.congr (fun k => rfl) (Ev.bind (check_f l ms ts) ?_)
  refine Ev.congr (fun k => if_neg h0) (Ev.now _)
end Go.Proofs.Ytpbhepdgamoiaaa.Fr
namespace Go.Proofs.Ytpbhepdgamoiaaa.Cl
open Go.RowKit Go Go.Proofs.YtpbhepdgamoiaaaW.PrintWords Go.Proofs.YtpbhepdgamoiaaaW.PrintLast Go.Proofs.YtpbhepdgamoiaaaW.PrintMore Go.Proofs.Ytpbhepdgamoiaaa.Mn Go.Proofs.Ytpbhepdgamoiaaa.Rf Go.Proofs.Ytpbhepdgamoiaaa.Er Go.Proofs.Ytpbhepdgamoiaaa.Ek Go.Proofs.Ytpbhepdgamoiaaa.Ew Go.Proofs.Ytpbhepdgamoiaaa.E Go.Proofs.Ytpbhepdgamoiaaa.Pe Go.Proofs.Ytpbhepdgamoiaaa.Pf Go.Proofs.Ytpbhepdgamoiaaa.Pg Go.Proofs.Ytpbhepdgamoiaaa.Qr Go.Proofs.Ytpbhepdgamoiaaa.Qn Go.Proofs.Ytpbhepdgamoiaaa.Qo Go.Proofs.Ytpbhepdgamoiaaa.Qp Go.Proofs.Ytpbhepdgamoiaaa.Qe Go.Proofs.Ytpbhepdgamoiaaa.Qw Go.Proofs.Ytpbhepdgamoiaaa.Oe Go.Proofs.Ytpbhepdgamoiaaa.Fr
set_option linter.unusedVariables false
set_option linter.unusedSimpArgs false
def scB (a : Int) : Bool := decide (1 ≤ a) && decide (a ≤ 1000000)
theorem scale_f (a : Int) : edit_isScale.f a = some (scB a) := by
 unfold edit_isScale.f scB
 by_cases h : a ≥ 1
 ·rw [if_pos h, decide_eq_true (show 1 ≤ a from h), Bool.true_and]
 ·rw [if_neg h, decide_eq_false (show ¬ 1 ≤ a from h), Bool.false_and]
end Go.Proofs.Ytpbhepdgamoiaaa.Cl
namespace Go.Proofs.Ytpbhepdgamoiaaa.So
open Go.RowKit Go Go.Proofs.Ytpbhepdgamoiaaa.Rf Go.Proofs.Ytpbhepdgamoiaaa.Er Go.Proofs.Ytpbhepdgamoiaaa.Ek Go.Proofs.Ytpbhepdgamoiaaa.Et Go.Proofs.Ytpbhepdgamoiaaa.Ew Go.Proofs.Ytpbhepdgamoiaaa.E Go.Proofs.Ytpbhepdgamoiaaa.Pe Go.Proofs.Ytpbhepdgamoiaaa.Pf Go.Proofs.Ytpbhepdgamoiaaa.Qr Go.Proofs.Ytpbhepdgamoiaaa.Qn Go.Proofs.Ytpbhepdgamoiaaa.Qw Go.Proofs.Ytpbhepdgamoiaaa.Fr Go.Proofs.Ytpbhepdgamoiaaa.Cl Go.Proofs.Ytpbhepdgamoiaaa.Nm
set_option linter.unusedVariables false
set_option linter.unusedSimpArgs false
theorem mapE_inv {f : Ed → Int × Ed} {fin : List Ed → List Ed × Int} : ∀ (l out : List Ed), (mapE f fin out l).2 = 0 → (∀ x ∈ l, (f x).1 = 0) ∧ mapE f fin out l = fin (out ++ l.map (fun x => (f x).2))
 | [], out, h => ⟨by simp, by simp [mapE]⟩
 | x :: t, out, h => by
  simp only [mapE] at h ⊢
  by_cases h0 : (f x).1 = 0
  ·rw [if_pos h0] at h ⊢
   obtain ⟨h1, h2⟩ := mapE_inv t _ h
   refine ⟨fun y hy => ?_, by rw [h2]; simp⟩
   rcases List.mem_cons.1 hy with rfl | hy
   ·exact h0
   ·exact h1 y hy
  ·rw [if_neg h0] at h
   exact absurd h h0
theorem fst_is {ms ts num den : Int} (hc : Ck ms ts) (hr : Rt num den) {x : Ed} (hx : Vd x) (h : (fastV num den x).1 = 0) : qq (fastV num den x).2.f0 ms * qq num den = qq x.f0 ms ∧ ∀ p, shV ts (fastV num den x).2 p = shV ts x (p * qq num den) := by
 have c0 := hc.m0
 have r0 := hr.n0
 have r1 := hr.d0
 unfold fastV at h ⊢
 by_cases h0 : x.f0 * den % num = 0
 ·rw [if_pos h0] at h ⊢
  have hd : x.f0 * den / num * num = x.f0 * den := by
   have := Int.mul_ediv_add_emod (x.f0 * den) num
   rw [h0, Int.add_zero] at this
   rw [Int.mul_comm]
   exact this
  generalize x.f0 * den / num = d at h hd ⊢
  by_cases h1 : (0 ≤ x.f1 ∧ 0 < x.f2) ∧ (1000 < (fstE num den d x).f2 ∨ 1000 < (fstE num den d x).f3)
  ·rw [if_pos h1] at h
   cases h
  ·rw [if_neg h1] at h ⊢
   by_cases h2 : 1099511627776 < d
   ·rw [if_pos h2] at h
    cases h
   ·rw [if_neg h2]
    have hq : qq d ms * qq num den = qq x.f0 ms := by
     unfold qq
     rw [Rat.divInt_mul_divInt, hd, Rat.divInt_mul_right (by omega)]
    simp only
    have hf : (fstE num den d x).f0 = d := by unfold fstE lowV; split <;> rfl
    rw [hf]
    refine ⟨hq, fun p => ?_⟩
    unfold fstE
    by_cases hm : 0 ≤ x.f1 ∧ 0 < x.f2
    ·rw [if_pos hm, sh_low]
     unfold shV
     simp only
     have e : qq (x.f2 * num) (x.f3 * den) = qq x.f2 x.f3 * qq num den := by
      unfold qq
      rw [Rat.divInt_mul_divInt]
     rw [e, show p * (qq x.f2 x.f3 * qq num den) = p * qq num den * qq x.f2 x.f3 by grind]
    ·rw [if_neg hm]
     unfold shV
     simp only
     by_cases hn : x.f1 < 0
     ·rw [if_pos hn, if_pos hn]
     ·have hz : x.f2 = 0 := by have := hx.n0; omega
      rw [hz, qq_zero, show p * 0 = (0 : Rat) by grind, show p * qq num den * 0 = (0 : Rat) by grind]
 ·rw [if_neg h0] at h
  cases h
theorem mul_lt {a b r : Rat} (hr : 0 < r) : a * r < b * r ↔ a < b := by
 constructor
 ·intro h
  refine Rat.not_le.1 fun h2 => ?_
  have := Rat.mul_le_mul_of_nonneg_right h2 (Rat.le_of_lt hr)
  exact absurd h (Rat.not_lt.2 this)
 ·intro h
  exact Rat.mul_lt_mul_of_pos_right h hr
theorem med_fast {ms ts num den : Int} (hc : Ck ms ts) (hr : Rt num den) {q : Rat} : ∀ (l : List Ed) (b B : Int), (∀ x ∈ l, Vd x) → (∀ x ∈ l, (fastV num den x).1 = 0) → qq B ms * qq num den = qq b ms → medL ms ts q B (l.map (fun x => (fastV num den x).2)) = medL ms ts (q * qq num den) b l
 | [], b, B, _, _, _ => rfl
 | x :: t, b, B, hV, h, hb => by
  have c0 := hc.m0
  obtain ⟨h1, h2⟩ := fst_is (ts := ts) hc hr (hV x (by simp)) (h x (by simp))
  have hb2 : qq (B + (fastV num den x).2.f0) ms * qq num den = qq (b + x.f0) ms := by
   rw [qq_add1 (by omega), qq_add1 (by omega), ← hb, ← h1]
   grind
  have hp : 0 < qq num den := by
   rw [show (0 : Rat) = qq 0 1 from (qq_zero 1).symm, qq_lt (by decide) (by have := hr.d0; omega)]
   have := hr.n0
   omega
  rw [List.map_cons, med_cons, med_cons, med_fast hc hr t (b + x.f0) (B + (fastV num den x).2.f0) (fun y hy => hV y (by simp [hy])) (fun y hy => h y (by simp [hy])) hb2, ← hb, ← hb2, h2]
  simp only [mul_lt hp]
  rw [show (q - qq B ms) * qq num den = q * qq num den - qq B ms * qq num den by grind]
theorem fas_med {ms ts num den : Int} {l : List Ed} (h : (fasV ms ts num den l).2 = 0) : chk l ms ts = 0 ∧ chk (fasV ms ts num den l).1 ms ts = 0 ∧ Rt num den ∧ ∀ q, medL ms ts q 0 (fasV ms ts num den l).1 = medL ms ts (q * qq num den) 0 l := by
 unfold fasV at h ⊢
 by_cases h0 : chk l ms ts = 0
 ·rw [if_pos h0] at h ⊢
  by_cases h1 : 1 ≤ num ∧ num ≤ 1000 ∧ 1 ≤ den ∧ den ≤ 1000
  ·rw [if_pos h1] at h ⊢
   obtain ⟨hc, hl, hV, hs⟩ := chk_ok.1 h0
   have hr : Rt num den := ⟨h1.1, h1.2.1, h1.2.2.1, h1.2.2.2⟩
   obtain ⟨h2, h3⟩ := mapE_inv l [] h
   rw [h3] at h ⊢
   rw [List.nil_append] at h ⊢
   have hV2 : ∀ y ∈ l.map (fun x => (fastV num den x).2), Vd y := by
    intro y hy
    obtain ⟨x, hx, rfl⟩ := List.mem_map.1 hy
    exact fast_vd hr (hV x hx) (Prod.ext (h2 x hx) rfl)
   obtain ⟨h4, h5, h6⟩ := nrmV_ok hc hV2 h
   rw [h4]
   refine ⟨h0, h5, hr, fun q => ?_⟩
   rw [nrm_med hc hV2]
   exact med_fast hc hr l 0 0 hV h2 (by rw [qq_zero]; grind)
  ·rw [if_neg h1] at h
   cases h
 ·rw [if_neg h0] at h
  exact absurd h h0
end Go.Proofs.Ytpbhepdgamoiaaa.So
namespace Go.Proofs.Ytpbhepdgamoiaaa.Sw
open Go.RowKit Go Go.Proofs.Ytpbhepdgamoiaaa.Rf Go.Proofs.Ytpbhepdgamoiaaa.Er Go.Proofs.Ytpbhepdgamoiaaa.Ek Go.Proofs.Ytpbhepdgamoiaaa.Et Go.Proofs.Ytpbhepdgamoiaaa.E Go.Proofs.Ytpbhepdgamoiaaa.Pe Go.Proofs.Ytpbhepdgamoiaaa.Pf Go.Proofs.Ytpbhepdgamoiaaa.Nm
set_option linter.unusedVariables false
set_option linter.unusedSimpArgs false
theorem tm_err (q : Rat) : (tmV q).2 = 0 ∨ (tmV q).2 = 2 := by
 unfold tmV
 split
 ·exact .inl rfl
 ·exact .inr rfl
theorem sh_err (ts : Int) (x : Ed) (p : Rat) : (shV ts x p).2.2 = 0 ∨ (shV ts x p).2.2 = 2 := by
 unfold shV
 split
 ·exact .inl rfl
 ·exact tm_err _
theorem med_err (ms ts : Int) (q : Rat) : ∀ (l : List Ed) (b : Int), (medL ms ts q b l).2.2 = 0 ∨ (medL ms ts q b l).2.2 = 2
 | [], b => .inl rfl
 | x :: t, b => by
  rw [med_cons]
  split
  ·exact med_err ms ts q t _
  ·split
   ·exact sh_err ts x _
   ·exact med_err ms ts q t _
theorem medV_ok {l : List Ed} {ms ts n d : Int} (h : chk l ms ts = 0) (hv : Ea.valid n d = true) : medV l ms ts n d = medL ms ts (qq n d) 0 l := by
 unfold medV
 rw [if_pos h, if_pos hv]
theorem shows_eq {l l' : List Ed} {ms ts ms' ts' n d n' d' : Int} (h : medV l ms ts n d = medV l' ms' ts' n' d') (he : (medV l ms ts n d).2.2 = 0 ∨ (medV l ms ts n d).2.2 = 2) : dioramalaw10_shows.f l ms ts n d l' ms' ts' n' d' = some true := by
 unfold dioramalaw10_shows.f edit_Media.f
 simp only [Option.bind_some]
 rw [← h]
 rcases he with he | he
 ·rw [he, if_neg (by decide), if_neg (by decide), if_pos rfl, if_pos rfl, if_pos (by simp)]
  simp
 ·rw [he, if_pos rfl]
theorem shows_f {l l' : List Ed} {ms ts ms' ts' n d n' d' : Int} (h : chk l ms ts = 0) (h' : chk l' ms' ts' = 0) (hv : Ea.valid n d = true) (hv' : Ea.valid n' d' = true) (he : medL ms ts (qq n d) 0 l = medL ms' ts' (qq n' d') 0 l') : dioramalaw10_shows.f l ms ts n d l' ms' ts' n' d' = some true := by
 refine shows_eq ?_ ?_
 ·rw [medV_ok h hv, medV_ok h' hv', he]
 ·rw [medV_ok h hv]
  exact med_err _ _ _ _ _
theorem rvalid_f (n d : Int) : dioramaref02_Valid.f n d = some (Ea.valid n d) := by
 unfold dioramaref02_Valid.f Ea.valid
 by_cases h1 : d ≥ 1
 ·rw [if_pos h1, decide_eq_true (show 1 ≤ d from h1)]
  by_cases h2 : d ≤ 1152921504606846976
  ·rw [if_pos h2, decide_eq_true h2]
   by_cases h3 : n ≥ -1152921504606846976
   ·rw [if_pos h3, decide_eq_true (show -1152921504606846976 ≤ n from h3)]
    rfl
   ·rw [if_neg h3, decide_eq_false (show ¬ -1152921504606846976 ≤ n from h3)]
    rfl
  ·rw [if_neg h2, decide_eq_false h2]
   rfl
 ·rw [if_neg h1, decide_eq_false (show ¬ 1 ≤ d from h1)]
  rfl
end Go.Proofs.Ytpbhepdgamoiaaa.Sw
namespace Go.Proofs.Ytpbhepdgamoiaaa.Qt
open Go.RowKit Go Go.Proofs.YtpbhepdgamoiaaaW.PrintWords Go.Proofs.YtpbhepdgamoiaaaW.PrintLast Go.Proofs.YtpbhepdgamoiaaaW.PrintMore Go.Proofs.Ytpbhepdgamoiaaa.Ml Go.Proofs.Ytpbhepdgamoiaaa.Mn Go.Proofs.Ytpbhepdgamoiaaa.Nd Go.Proofs.Ytpbhepdgamoiaaa.Pa Go.Proofs.Ytpbhepdgamoiaaa.Pb Go.Proofs.Ytpbhepdgamoiaaa.Pc Go.Proofs.Ytpbhepdgamoiaaa.Rf Go.Proofs.Ytpbhepdgamoiaaa.Er Go.Proofs.Ytpbhepdgamoiaaa.Ek Go.Proofs.Ytpbhepdgamoiaaa.Et Go.Proofs.Ytpbhepdgamoiaaa.E Go.Proofs.Ytpbhepdgamoiaaa.Pe Go.Proofs.Ytpbhepdgamoiaaa.Pf Go.Proofs.Ytpbhepdgamoiaaa.Qr Go.Proofs.Ytpbhepdgamoiaaa.Qn Go.Proofs.Ytpbhepdgamoiaaa.Qw
set_option linter.unusedVariables false
set_option linter.unusedSimpArgs false
theorem time_l {b : Bool} {x y : List Int} (r : Int × Int × Int) (hfin : ∀ u, Nn u → u.length ≤ 1000 → 0 < dv 1000000000 u → dv 1000000000 u = (Int.gcd (dv 1000000000 x) (dv 1000000000 y) : Nat) → Ev (fun k => dioramaref02_Time.l0 k u [] b x y) r) :
  ∀ (m : Nat) (u v : List Int), Nn u → Nn v → u.length ≤ 1000 → v.length ≤ 1000 → (0 < dv 1000000000 u ∨ 0 < dv 1000000000 v) → Int.gcd (dv 1000000000 u) (dv 1000000000 v) = Int.gcd (dv 1000000000 x) (dv 1000000000 y) → (dv 1000000000 v).toNat ≤ m → Ev (fun k => dioramaref02_Time.l0 k u v b x y) r := by
 have zero : ∀ (u v : List Int), Nn u → Nn v → u.length ≤ 1000 → (0 < dv 1000000000 u ∨ 0 < dv 1000000000 v) → Int.gcd (dv 1000000000 u) (dv 1000000000 v) = Int.gcd (dv 1000000000 x) (dv 1000000000 y) → dv 1000000000 v = 0 → Ev (fun k => dioramaref02_Time.l0 k u v b x y) r := by
  intro u v hu hv lu hp hg h0
  obtain rfl := (dv_eq_zero (by decide) hv).1 h0
  have hz : dv 1000000000 [] = 0 := rfl
  rw [hz] at hg hp
  have hpu : 0 < dv 1000000000 u := by omega
  refine hfin u hu lu hpu ?_
  rw [← hg, Int.gcd_zero_right]
  omega
 intro m
 induction m with
 | zero =>
  intro u v hu hv lu lv hp hg hm
  have : 0 ≤ dv 1000000000 v := dv_nonneg (by decide) hv.dg
  exact zero u v hu hv lu hp hg (by omega)
 | succ m ih =>
  intro u v hu hv lu lv hp hg hm
  have hv0 : 0 ≤ dv 1000000000 v := dv_nonneg (by decide) hv.dg
  by_cases h0 : dv 1000000000 v = 0
  ·exact zero u v hu hv lu hp hg h0
  ·obtain ⟨r1, r2, he, n1, n2, e1, e2, l1, l2⟩ := over_f u v hu hv (by omega) (by omega) (by omega)
   have hr0 : 0 ≤ dv 1000000000 r2 := dv_nonneg (by decide) n2.dg
   have hl : (v.length : Int) > 0 := by
    cases v with
    | nil => exact absurd rfl h0
    | cons a t => simp
   refine Ev.step (fun k => by rw [dioramaref02_Time.l0]) (Ev.congr (fun k => if_pos hl) (Ev.bind he ?_))
   exact ih v r2 hv n2 lv (by omega) (.inl (by omega)) ((Ra.gcd_step e1).trans hg) (by omega)
theorem time_f {b : Bool} {x y : List Int} {q : Rat} {n : Nat} (h : RV b x y q n) (hn : n ≤ 1000) : Ev (fun k => dioramaref02_Time.f k b x y) ((tmV q).1.1, (tmV q).1.2, (tmV q).2) := by
 have lx := h.lx
 have ly := h.ly
 have hx0 := h.x0
 have hy0 := h.pos
 by_cases hx : (x.length : Int) = 0
 ·have hxn : x = [] := by cases x with | nil => rfl | cons a t => simp at hx; omega
  have hq : q = 0 := by
   rw [h.eq, hxn]
   unfold qq
   cases b <;> simp [sg, dv]
  refine Ev.congr (f := fun _ => some (0, 1, 0)) (fun k => if_pos hx) ?_
  rw [hq]
  exact Ev.now _
 ·have hz := dv_eq_zero (by decide) h.nx
  have hX : dv 1000000000 x ≠ 0 := fun e => by rw [hz.1 e] at hx; exact hx rfl
  have hG : (Int.gcd (sg b (dv 1000000000 x)) (dv 1000000000 y) : Nat) = Int.gcd (dv 1000000000 x) (dv 1000000000 y) := by
   cases b <;> simp [sg, Int.neg_gcd]
  obtain ⟨s1, s2⟩ := Ra.sg_quo (na := b) (nb := false) (a := sg b (dv 1000000000 x)) (b := dv 1000000000 y) (A := dv 1000000000 x) (B := dv 1000000000 y) (G := (Int.gcd (sg b (dv 1000000000 x)) (dv 1000000000 y) : Nat)) rfl (by simp [sg]) hx0 hy0 rfl
  obtain ⟨t1, t2⟩ := rat_low (a := sg b (dv 1000000000 x)) (b := dv 1000000000 y) (by omega)
  rw [t1, ← h.eq] at s1
  rw [t2, ← h.eq] at s2
  have hbb : (!(b == false)) = b := by cases b <;> rfl
  rw [hbb, hG] at s1
  rw [hG] at s2
  refine Ev.congr (fun k => if_neg hx) ?_
  refine time_l _ ?_ _ x y h.nx h.ny (by omega) (by omega) (.inr hy0) rfl (Nat.le_refl _)
  intro u hu lu hup hug
  rw [← hug] at s1 s2
  have ex := Int.mul_ediv_add_emod (dv 1000000000 x) (dv 1000000000 u)
  obtain ⟨p1, p2, pe, pn1, pn2, pe1, pe2, pl1, pl2⟩ := over_f x u h.nx hu (by omega) (by omega) hup
  obtain ⟨o1, o2, oe, on1, on2, oe1, oe2, ol1, ol2⟩ := over_f y u h.ny hu (by omega) (by omega) hup
  have p0 : 0 ≤ dv 1000000000 p2 := dv_nonneg (by decide) pn2.dg
  have o0 : 0 ≤ dv 1000000000 o2 := dv_nonneg (by decide) on2.dg
  have hp := (Int.ediv_emod_unique (a := dv 1000000000 x) (b := dv 1000000000 u) (q := dv 1000000000 p1) (r := dv 1000000000 p2) hup).2 ⟨by rw [pe1, Int.add_comm, Int.mul_comm], p0, pe2⟩
  have ho := (Int.ediv_emod_unique (a := dv 1000000000 y) (b := dv 1000000000 u) (q := dv 1000000000 o1) (r := dv 1000000000 o2) hup).2 ⟨by rw [oe1, Int.add_comm, Int.mul_comm], o0, oe2⟩
  rw [hp.1] at s1
  rw [ho.1] at s2
  have q0 : 0 ≤ dv 1000000000 p1 := dv_nonneg (by decide) pn1.dg
  have hden : 1 ≤ (q.den : Int) := by have := q.den_pos; omega
  have sm1 := small_f p1 1152921504606846976 pn1 (by omega) (by decide) (by decide)
  have sm2 := small_f o1 1152921504606846976 on1 (by omega) (by decide) (by decide)
  have bad : ¬ (dv 1000000000 p1 ≤ 1152921504606846976 ∧ dv 1000000000 o1 ≤ 1152921504606846976) → tmV q = ((0, 0), 2) := by
   intro hh
   unfold tmV
   refine if_neg fun hv => hh ?_
   unfold Ea.valid at hv
   simp only [Bool.and_eq_true, decide_eq_true_eq] at hv
   rw [← s1, ← s2] at hv
   cases b <;> simp [sg] at hv <;> omega
  refine Ev.step (fun k => by rw [dioramaref02_Time.l0]) (Ev.congr (fun k => if_neg (show ¬ ((([] : List Int).length : Int) > 0) by simp)) (Ev.bind pe (Ev.bind oe (Ev.bind sm1 (Ev.bind sm2 ?_)))))
  by_cases h1 : 1152921504606846976 < dv 1000000000 p1
  ·rw [if_pos h1, bad (by omega)]
   refine Ev.congr (fun k => if_neg (show ¬ (false = true) by decide)) (Ev.step (fun k => by rw [dioramaref02_Time.j1]) (Ev.congr (fun k => if_pos rfl) (Ev.now _)))
  ·rw [if_neg h1]
   refine Ev.congr (fun k => if_pos rfl) ?_
   by_cases h2 : 1152921504606846976 < dv 1000000000 o1
   ·rw [if_pos h2, bad (by omega)]
    exact Ev.step (fun k => by rw [dioramaref02_Time.j1]) (Ev.congr (fun k => if_pos (show (!false) = true from rfl)) (Ev.now _))
   ·rw [if_neg h2]
    have hv : tmV q = ((q.num, (q.den : Int)), 0) := by
     unfold tmV
     refine if_pos ?_
     unfold Ea.valid
     simp only [Bool.and_eq_true, decide_eq_true_eq]
     rw [← s1, ← s2]
     rw [← s2] at hden
     cases b <;> simp [sg] <;> omega
    rw [hv, ← s1, ← s2]
    refine Ev.step (fun k => by rw [dioramaref02_Time.j1]) (Ev.congr (fun k => if_neg (show ¬ (!true) = true by decide)) ?_)
    cases b with
    | false => exact Ev.congr (fun k => if_neg (by decide)) (Ev.now _)
    | true =>
     refine Ev.congr (fun k => if_pos rfl) ?_
     rw [w64 (by omega) (by omega)]
     exact Ev.now _
end Go.Proofs.Ytpbhepdgamoiaaa.Qt
namespace Go.Proofs.Ytpbhepdgamoiaaa.Qm
open Go.RowKit Go Go.Proofs.YtpbhepdgamoiaaaW.PrintWords Go.Proofs.YtpbhepdgamoiaaaW.PrintLast Go.Proofs.YtpbhepdgamoiaaaW.PrintMore Go.Proofs.Ytpbhepdgamoiaaa.Ml Go.Proofs.Ytpbhepdgamoiaaa.Mn Go.Proofs.Ytpbhepdgamoiaaa.Nd Go.Proofs.Ytpbhepdgamoiaaa.Pa Go.Proofs.Ytpbhepdgamoiaaa.Pb Go.Proofs.Ytpbhepdgamoiaaa.Pc Go.Proofs.Ytpbhepdgamoiaaa.Rf Go.Proofs.Ytpbhepdgamoiaaa.Er Go.Proofs.Ytpbhepdgamoiaaa.Ek Go.Proofs.Ytpbhepdgamoiaaa.Et Go.Proofs.Ytpbhepdgamoiaaa.E Go.Proofs.Ytpbhepdgamoiaaa.Pe Go.Proofs.Ytpbhepdgamoiaaa.Pf Go.Proofs.Ytpbhepdgamoiaaa.Qr Go.Proofs.Ytpbhepdgamoiaaa.Qn Go.Proofs.Ytpbhepdgamoiaaa.Qw Go.Proofs.Ytpbhepdgamoiaaa.Qt
set_option linter.unusedVariables false
set_option linter.unusedSimpArgs false
def RM (w : World) (v : Value) (q : Rat) (n : Nat) : Prop := ∃ (b : Bool) (A1 : Option Addr) (c1 : Nat) (l1 : List Int) (A2 : Option Addr) (c2 : Nat) (l2 : List Int), v = .agg #[.bool b, .slice A1 l1.length c1, .slice A2 l2.length c2] ∧ Kd.V (Kd.int .i64) 3 w 0 (fun _ => True) (.slice A1 l1.length c1) l1 ∧ Kd.V (Kd.int .i64) 3 w 0 (fun _ => True) (.slice A2 l2.length c2) l2 ∧ RV b l1 l2 q n
theorem RM.below {w w' : World} {v : Value} {q : Rat} {n : Nat} (h : RM w v q n) (hb : Below w.heap.size w w') : RM w' v q n := by
 obtain ⟨b, A1, c1, l1, A2, c2, l2, rfl, h1, h2, hv⟩ := h
 exact ⟨b, A1, c1, l1, A2, c2, l2, rfl, Kd.V_below h1 hb, Kd.V_below h2 hb, hv⟩
theorem RM.of {w : World} {B : Nat} {o1 o2 : Nat → Prop} {b : Bool} {v1 v2 : Value} {x y : List Int} {q : Rat} {n : Nat} (h1 : Kd.R (Kd.int .i64) 3 w B o1 v1 x) (h2 : Kd.R (Kd.int .i64) 3 w B o2 v2 y) (hv : RV b x y q n) : RM w (.agg #[.bool b, v1, v2]) q n := by
 obtain ⟨A1, c1, rfl⟩ := Kd.R_slice h1
 obtain ⟨A2, c2, rfl⟩ := Kd.R_slice h2
 exact ⟨b, A1, c1, x, A2, c2, y, rfl, Kd.V_mono (Kd.R_V h1) (fun _ _ => trivial), Kd.V_mono (Kd.R_V h2) (fun _ _ => trivial), hv⟩
theorem ratOf_f (n d : Int) (hn : -9223372036854775807 ≤ n) (hn1 : n ≤ 9223372036854775807) (hd : 0 < d) (hd1 : d ≤ 9223372036854775807) : RE (fun k => dioramaref02_RatOf.f k n d) (qq n d) 3 := by
 obtain ⟨y, ey, ny, vy, ly⟩ := of_f d (by omega) hd1
 by_cases h : n < 0
 ·obtain ⟨x, ex, nx, vx, lx⟩ := of_f (-n) (by omega) (by omega)
  have hs : Ev (fun k => dioramaref02_size.f k n) x := by
   refine Ev.congr (fun k => if_pos h) ?_
   rw [w64 (by omega) (by omega)]
   exact Ev.bind ex (Ev.now _)
  refine ⟨decide (n < 0), x, y, Ev.congr (fun k => rfl) (Ev.bind hs (Ev.bind ey (Ev.now _))), ⟨nx, ny, by rw [vy]; exact hd, ?_, lx, ly⟩⟩
  rw [vx, vy, decide_eq_true h]
  simp [sg]
 ·obtain ⟨x, ex, nx, vx, lx⟩ := of_f n (by omega) hn1
  have hs : Ev (fun k => dioramaref02_size.f k n) x := Ev.congr (fun k => if_neg h) (Ev.bind ex (Ev.now _))
  refine ⟨decide (n < 0), x, y, Ev.congr (fun k => rfl) (Ev.bind hs (Ev.bind ey (Ev.now _))), ⟨nx, ny, by rw [vy]; exact hd, ?_, lx, ly⟩⟩
  rw [vx, vy, decide_eq_false h]
  simp [sg]
end Go.Proofs.Ytpbhepdgamoiaaa.Qm
namespace Go.Proofs.Ytpbhepdgamoiaaa.Sp
open Go.RowKit Go Go.Proofs.YtpbhepdgamoiaaaW.PrintWords Go.Proofs.YtpbhepdgamoiaaaW.PrintLast Go.Proofs.YtpbhepdgamoiaaaW.PrintMore Go.Proofs.Ytpbhepdgamoiaaa.Rf Go.Proofs.Ytpbhepdgamoiaaa.Er Go.Proofs.Ytpbhepdgamoiaaa.Ek Go.Proofs.Ytpbhepdgamoiaaa.Et Go.Proofs.Ytpbhepdgamoiaaa.E Go.Proofs.Ytpbhepdgamoiaaa.Pe Go.Proofs.Ytpbhepdgamoiaaa.Pf Go.Proofs.Ytpbhepdgamoiaaa.Pg Go.Proofs.Ytpbhepdgamoiaaa.Qr Go.Proofs.Ytpbhepdgamoiaaa.Qn Go.Proofs.Ytpbhepdgamoiaaa.Qt Go.Proofs.Ytpbhepdgamoiaaa.Qm Go.Proofs.Ytpbhepdgamoiaaa.Fr Go.Proofs.Ytpbhepdgamoiaaa.Nm Go.Proofs.Ytpbhepdgamoiaaa.So Go.Proofs.Ytpbhepdgamoiaaa.Sw Go.Proofs.Ytpbhepdgamoiaaa.Oe
set_option linter.unusedVariables false
set_option linter.unusedSimpArgs false
theorem valid_is {n d : Int} (h : Ea.valid n d = true) : (-1152921504606846976 ≤ n ∧ n ≤ 1152921504606846976) ∧ 1 ≤ d ∧ d ≤ 1152921504606846976 := by
 unfold Ea.valid at h
 simp only [Bool.and_eq_true, decide_eq_true_eq] at h
 omega
theorem ratOf_v {n d : Int} (h : Ea.valid n d = true) : RE (fun k => dioramaref02_RatOf.f k n d) (qq n d) 3 := by
 have := valid_is h
 exact ratOf_f n d (by omega) (by omega) (by omega) (by omega)
def mulV (n d n' d' : Int) : (Int × Int) × Int := if Ea.valid n d = true ∧ Ea.valid n' d' = true then tmV (qq n d * qq n' d') else ((0, 0), 4)
theorem Mul_f (n d n' d' : Int) : Ev (fun k => dioramaref02_Mul.f k n d n' d') ((mulV n d n' d').1.1, (mulV n d n' d').1.2, (mulV n d n' d').2) := by
 have off : ¬ (Ea.valid n d = true ∧ Ea.valid n' d' = true) → Ev (fun k => dioramaref02_Mul.j0 k true n d n' d') ((mulV n d n' d').1.1, (mulV n d n' d').1.2, (mulV n d n' d').2) := by
  intro h
  refine Ev.step (fun k => by rw [dioramaref02_Mul.j0]) (Ev.congr (fun k => if_pos rfl) ?_)
  unfold mulV
  rw [if_neg h]
  exact Ev.now _
 have hf : ∀ k, dioramaref02_Mul.f k n d n' d' = if Ea.valid n d = true then dioramaref02_Mul.j0 k (!Ea.valid n' d') n d n' d' else dioramaref02_Mul.j0 k true n d n' d' := by
  intro k
  unfold dioramaref02_Mul.f
  rw [rvalid_f, rvalid_f]
  simp only [Option.bind_some]
 refine Ev.congr hf ?_
 by_cases h1 : Ea.valid n d = true
 ·refine Ev.congr (fun k => if_pos h1) ?_
  by_cases h2 : Ea.valid n' d' = true
  ·rw [h2]
   refine Ev.step (fun k => by rw [dioramaref02_Mul.j0]) (Ev.congr (fun k => if_neg (by decide)) ?_)
   obtain ⟨b1, x1, y1, e1, v1⟩ := ratOf_v h1
   obtain ⟨b2, x2, y2, e2, v2⟩ := ratOf_v h2
   obtain ⟨b3, x3, y3, e3, v3⟩ := timesR_f v1 v2 (by decide)
   have e4 := time_f v3 (by decide)
   unfold mulV
   rw [if_pos ⟨h1, h2⟩]
   refine Ev.bind e1 (Ev.bind e2 (Ev.bind (show Ev (fun k => dioramaref02_product.f k b1 x1 y1 b2 x2 y2) (b3, x3, y3) from e3) (Ev.bind e4 (Ev.now _))))
  ·rw [show Ea.valid n' d' = false by simpa using h2]
   exact off (fun h => h2 h.2)
 ·exact Ev.congr (fun k => if_neg h1) (off (fun h => h1 h.1))
theorem tm_ok {q : Rat} (h : (tmV q).2 = 0) : Ea.valid (tmV q).1.1 (tmV q).1.2 = true ∧ qq (tmV q).1.1 (tmV q).1.2 = q := by
 unfold tmV at h ⊢
 by_cases hv : Ea.valid q.num q.den = true
 ·rw [if_pos hv]
  exact ⟨hv, Rat.num_divInt_den q⟩
 ·rw [if_neg hv] at h
  cases h
theorem mul_ok {n d n' d' : Int} (h : (mulV n d n' d').2 = 0) : Ea.valid (mulV n d n' d').1.1 (mulV n d n' d').1.2 = true ∧ qq (mulV n d n' d').1.1 (mulV n d n' d').1.2 = qq n d * qq n' d' := by
 unfold mulV at h ⊢
 by_cases hv : Ea.valid n d = true ∧ Ea.valid n' d' = true
 ·rw [if_pos hv] at h ⊢
  exact tm_ok h
 ·rw [if_neg hv] at h
  cases h
theorem pure_Sp (l : List Ed) (ms ts num den n d : Int) : Ev (fun k => dioramalaw10_EditSpeeds.f k l ms ts num den n d) true := by
 have off : Ev (fun k => dioramalaw10_EditSpeeds.j0 k true l ms ts num den n d) true := by
  refine Ev.step (fun k => by rw [dioramalaw10_EditSpeeds.j0]) ?_
  exact Ev.congr (fun k => if_pos rfl) (Ev.bind awake_f (Ev.now _))
 have hf : ∀ k, dioramalaw10_EditSpeeds.f k l ms ts num den n d = if 60 < l.length then dioramalaw10_EditSpeeds.j0 k true l ms ts num den n d else dioramalaw10_EditSpeeds.j0 k (!Ea.valid n d) l ms ts num den n d := by
  intro k
  unfold dioramalaw10_EditSpeeds.f
  rw [many_f, rvalid_f]
  simp only [Option.bind_some, decide_eq_true_eq]
 refine Ev.congr hf ?_
 by_cases h1 : 60 < l.length
 ·exact Ev.congr (fun k => if_pos h1) off
 refine Ev.congr (fun k => if_neg h1) ?_
 by_cases hv : Ea.valid n d = true
 ·rw [hv]
  refine Ev.step (fun k => by rw [dioramalaw10_EditSpeeds.j0]) ?_
  refine Ev.congr (fun k => if_neg (by decide)) (Ev.bind (Faster_f l ms ts num den) ?_)
  by_cases h2 : (fasV ms ts num den l).2 = 0
  ·obtain ⟨h3, h4, hr, h5⟩ := fas_med h2
   refine Ev.congr (fun k => if_pos h2) (Ev.bind (Mul_f n d num den) ?_)
   by_cases h6 : (mulV n d num den).2 = 0
   ·obtain ⟨h7, h8⟩ := mul_ok h6
    refine Ev.congr (fun k => if_pos h6) ?_
    rw [shows_f h4 h3 hv h7 (by rw [h5, h8])]
    simp only [Option.bind_some]
    exact Ev.congr (fun k => if_pos trivial) (Ev.bind awake_f (Ev.now _))
   ·exact Ev.congr (fun k => if_neg h6) (Ev.bind awake_f (Ev.now _))
  ·exact Ev.congr (fun k => if_neg h2) (Ev.bind awake_f (Ev.now _))
 ·rw [show Ea.valid n d = false by simpa using hv]
  exact off
theorem walk_Sp (a : Option Addr) (len c : Nat) (l : List Ed) (ms ts num den n d : Int) (w : World) (h : Eds w a len c l) (_ : (Lit.int .i64 ms).wf = true) (_ : (Lit.int .i64 ts).wf = true) (_ : (Lit.int .i64 num).wf = true) (_ : (Lit.int .i64 den).wf = true) (_ : (Lit.int .i64 n).wf = true) (_ : (Lit.int .i64 d).wf = true) :
  Calls Try.prog 8 #[.agg #[.slice a len c, .int .i64 ms, .int .i64 ts], .agg #[.int .i64 num, .int .i64 den], .agg #[.int .i64 n, .int .i64 d]] w (fun e w' => e = .returned (.bool true) ∧ Below w.heap.size w w') := by
 obtain ⟨k, hk⟩ := (pure_Sp l ms ts num den n d).rounds
 rw [← h.n]
 exact dioramalaw10_EditSpeeds.calls k a c l ms ts num den n d true w h.c h.h hk
end Go.Proofs.Ytpbhepdgamoiaaa.Sp
namespace Go.Proofs.Ytpbhepdgamoiaaa.editSpeedsRow
open Go.ChangeShapes Go.WideShapes Go.ChangeAt Go.RowKit Go.Proofs.Ytpbhepdgamoiaaa.Oe
set_option linter.unusedVariables false
set_option maxRecDepth 100000 in
theorem lifted (os : Os) (started : os.Started) (H : Type) (enc : TypeId × Value → H) :
  ReturnsInHanded {} Try.checked os 8 .any (Rows.editSpeedsSpec.pre6 enc Try.prog Try.f8 Rows.editSpeedsRow.domain false) (Rows.editSpeedsSpec.post enc Try.prog Try.f8 false true false false) := by
 refine returnsInHanded_of_change_sized (C := Try.checked) own started (by kernel_rfl) Try.func8
  (ChangeSpec.witness6 (enc := enc) (C := Try.checked) false ⟨#[], #[.agg #[.slice none 0 0, .int .i64 0, .int .i64 0], .agg #[.int .i64 0, .int .i64 0], .agg #[.int .i64 0, .int .i64 0]], []⟩ 8 (by kernel_rfl) (by kernel_rfl) (by kernel_rfl) (by kernel_rfl)) ?_
 intro W base args ds gs before hval0 hW hcnd hsz0 _
 have hval : ∀ (j : Nat) t v, Try.f8.params[j]? = some t → args[j]? = some v → Value.okWide Try.prog W .any base t v := hval0
 have hW' := hW
 obtain ⟨p, q, hA0, hV, rfl, hfz, hnd⟩ := hW
 have hA : DataW.TrodAll enc Try.prog W 0 (fun _ => true) true Try.f8.params.toList args.toList ds p := hA0
 rw [Try.params8] at hA hval
 obtain ⟨v0, vs0, d0, ds0, p0, q0, hargs, rfl, rfl, h0, r0⟩ := trodAll_cons hA
 obtain ⟨v1, vs1, d1, ds1, p1, q1, rfl, rfl, rfl, h1, r1⟩ := trodAll_cons r0
 obtain ⟨v2, vs2, d2, ds2, p2, q2, rfl, rfl, rfl, h2, r2⟩ := trodAll_cons r1
 obtain ⟨rfl, rfl, rfl⟩ := trodAll_nil r2
 obtain rfl : args = #[v0, v1, v2] := by cases args; simp_all
 obtain ⟨rfl, rfl⟩ := trodVars_none hV
 have k0 := h0
 have lt0 : ∀ x ∈ p0, x.block < W.heap.size := by obtain ⟨m, hm⟩ := k0; exact DataW.trod_lt m _ _ _ hm
 obtain ⟨a0, len0, cap0, z0, m0, t0, rfl, w0, wm0, wt0⟩ := open_list (hval 0 24 v0 rfl rfl) h0
 have k1 := h1
 have lt1 : ∀ x ∈ p1, x.block < W.heap.size := by obtain ⟨m, hm⟩ := k1; exact DataW.trod_lt m _ _ _ hm
 obtain ⟨a1_0, a1_1, rfl, w1_0, w1_1⟩ := open_rate (hval 1 44 v1 rfl rfl) h1
 have k2 := h2
 have lt2 : ∀ x ∈ p2, x.block < W.heap.size := by obtain ⟨m, hm⟩ := k2; exact DataW.trod_lt m _ _ _ hm
 obtain ⟨a2_0, a2_1, rfl, w2_0, w2_1⟩ := open_time (hval 2 37 v2 rfl rfl) h2
 clear hA0 hval0 hsz0
 refine (Sp.walk_Sp a0 len0 cap0 z0 m0 t0 a1_0 a1_1 a2_0 a2_1 W w0 wm0 wt0 w1_0 w1_1 w2_0 w2_1).mono fun e W' ⟨he, bel⟩ => ?_
 subst he
 exact ⟨_, rfl, _, _, _, [], _, [], hW', trodAll_mk1 (shut_bool Try.underlying4 _), (trodAll_cons_mk (Below.trod laidOut (by kernel_rfl) (of_decide_eq_true (by kernel_rfl)) k0 bel lt0) (trodAll_cons_mk (Below.trod laidOut (by kernel_rfl) (of_decide_eq_true (by kernel_rfl)) k1 bel lt1) (trodAll_cons_mk (Below.trod laidOut (by kernel_rfl) (of_decide_eq_true (by kernel_rfl)) k2 bel lt2) trodAll_mk0))), rfl, bel.frame _, fun h => by cases h⟩
theorem over : Rows.editSpeedsRow.holds Try.pinned (OpenSpec.ofChange Rows.editSpeedsSpec) :=
 OpenClaim.holds_of_wide 8 Try.f8 rfl rfl rfl rfl rfl rfl rfl ⟨rfl, rfl, rfl, rfl, rfl⟩ rfl rfl rfl rfl rfl (by kernel_rfl) Try.func8 (by kernel_rfl)
  (of_decide_eq_true (by kernel_rfl)) (by unfold Func.isWrapper; first | (rw [if_pos (by decide +kernel)]; kernel_rfl) | (rw [if_neg (by decide +kernel)]; exact ⟨rfl, rfl⟩))
  (fun os started H enc _ => lifted os started H enc)
end Go.Proofs.Ytpbhepdgamoiaaa.editSpeedsRow
namespace Go.Proofs.Ytpbhepdgamoiaaa
theorem editSpeeds_holds : Rows.EditSpeedsSaid := editSpeedsRow.over
#print axioms editSpeeds_holds
end Go.Proofs.Ytpbhepdgamoiaaa

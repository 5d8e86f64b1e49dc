/-
  The normal list of a list of edits as a plain value, and that the code tells it. Whether lists are equal, alike; the first example of the chapter. Whether two lists show the same. The reference's natural numbers, in digits of nine decimal places: what its printed functions compute. The reference's natural numbers: sums, differences, products, quotients, small ones. The reference divides. The reference's rational numbers as rational numbers. The reference's normal list is the same. What the reference tells of a list: its normal list, its first error, its length. The reference's whole number of a rational number. What a normal list shows, and how long it is. The reference's first error and length; lists compared. Two lists of edits with their errors, compared. EditFaster: a list that is so many times as fast is as the reference says. EditClocks: a list by other clocks is as the reference says. What a list by other clocks and a faster list show. Two lists that show the same are seen to. What is left of a list between two ticks, as a plain value, and that the code tells it. Lists put behind one another: slices.Grow and Concat, and what stands on them.
-/
import Derived.Test.YtpbhepdgamoiaaaQREditChainsa
import Derived.Test.YtpbhepdgamoiaaaQREditChainse
import Derived.Test.YtpbhepdgamoiaaaQREditChainsf
import Derived.Test.YtpbhepdgamoiaaaQREditChainsd
import Derived.Test.YtpbhepdgamoiaaaQREditChainsc
import Derived.Outline
namespace Go.Proofs.Ytpbhepdgamoiaaa.E
open Go.Proofs.Ytpbhepdgamoiaaa.Z Go.RowKit Go.Proofs.YtpbhepdgamoiaaaW.PrintWords Go.Proofs.YtpbhepdgamoiaaaW.PrintLast Go.Proofs.YtpbhepdgamoiaaaW.PrintMore
attribute [local go_sem] max2_int min2_int max_two min_two max_three min_three max_four min_four
set_option linter.unusedVariables false
set_option linter.unusedSimpArgs false
def dioramaref02_Sub.j0 : Nat → Bool → Int → Int → Int → Int → Option (Int × Int × Int)
  | 0, _, _, _, _, _ => none
  | k + 1, x14, x1137000, x1137001, x1138000, x1138001 => if x14 = true then (some (0, 0, 4)) else ((dioramaref02_RatOf.f k x1138000 x1138001).bind fun bt1141 => ((dioramaref02_RatOf.f k x1137000 x1137001).bind fun bt1149 => ((dioramaref02_Sum.f k bt1149.1 bt1149.2.1 bt1149.2.2 (!bt1141.1) bt1141.2.1 bt1141.2.2).bind fun bt1156 => ((dioramaref02_Time.f k bt1156.1 bt1156.2.1 bt1156.2.2).bind fun bt1163 => (some (bt1163.1, bt1163.2.1, bt1163.2.2))))))
def dioramaref02_Sub.f (k : Nat) (a0_0 : Int) (a0_1 : Int) (a1_0 : Int) (a1_1 : Int) : Option (Int × Int × Int) := (dioramaref02_Valid.f a0_0 a0_1).bind fun t1139 => (if t1139 = true then ((dioramaref02_Valid.f a1_0 a1_1).bind fun t1140 => (dioramaref02_Sub.j0 k (!t1140) a0_0 a0_1 a1_0 a1_1)) else (dioramaref02_Sub.j0 k true a0_0 a0_1 a1_0 a1_1))
set_option maxHeartbeats 8000000 in
set_option maxRecDepth 100000 in
theorem dioramaref02_Sub.calls (k : Nat) (a0_0 : Int) (a0_1 : Int) (a1_0 : Int) (a1_1 : Int) (r1 : Int) (r2 : Int) (r3 : Int) (w : World) (h : dioramaref02_Sub.f k a0_0 a0_1 a1_0 a1_1 = some (r1, r2, r3)) :
  Calls Try.prog 56 #[.agg #[.int .i64 a0_0, .int .i64 a0_1], .agg #[.int .i64 a1_0, .int .i64 a1_1]] w fun e w' => e = .returned (.tuple #[.agg #[.int .i64 r1, .int .i64 r2], .int .i64 r3]) ∧ Below w.heap.size w w' := by
 have hu37 := Try.underlying37; have hu95 := Try.underlying95; have HB := Aside0.mk (Below.refl w.heap.size w); have H : ((dioramaref02_Valid.f a0_0 a0_1).bind fun t1139 => (if t1139 = true then ((dioramaref02_Valid.f a1_0 a1_1).bind fun t1140 => (dioramaref02_Sub.j0 k (!t1140) a0_0 a0_1 a1_0 a1_1)) else (dioramaref02_Sub.j0 k true a0_0 a0_1 a1_0 a1_1))) = some (r1, r2, r3) := h
 clear h; have HC3 := Aside0.mk H; clear H
 go_enter Try.func56, Try.ntmps56
 go_upto_region 1 with (first | ((with_reducible refine gate_dst (N := 2) rfl ?_); refine zB 2 37 #[.int .i64 a0_0, .int .i64 a0_1] ?_; intro gb1136 hg w4 hbox hb; have BK1136 := Aside0.mk hbox; have GW1136 := gz hg; have GE1136 := gz hg; replace HB := bp hb; clear hb hbox hg) | ((with_reducible refine gate_dst (N := 3) rfl ?_); refine zB 3 37 #[.int .i64 a1_0, .int .i64 a1_1] ?_; intro gb1137 hg w5 hbox hb; have BK1137 := Aside0.mk hbox; have GW1137 := gz hg; have GE1137 := gz hg; replace HB := bp hb; have NB1136_1137 := Aside0.mk ((by rw [hg]; exact Nat.ne_of_lt (bl BK1136) : gb1136 ≠ gb1137)); have NB1137_1136 := Aside0.mk ((by rw [hg]; exact Nat.ne_of_gt (bl BK1136) : gb1137 ≠ gb1136)); replace BK1136 := kb BK1136 hb; clear hb hbox hg) | ((with_reducible refine gate_dst (N := 4) rfl ?_); refine zB 4 37 #[.int .i64 0, .int .i64 0] ?_; intro gb1138 hg w6 hbox hb; have BK1138 := Aside0.mk hbox; have GW1138 := gz hg; have GE1138 := gz hg; replace HB := bp hb; have NB1136_1138 := Aside0.mk ((by rw [hg]; exact Nat.ne_of_lt (bl BK1136) : gb1136 ≠ gb1138)); have NB1138_1136 := Aside0.mk ((by rw [hg]; exact Nat.ne_of_gt (bl BK1136) : gb1138 ≠ gb1136)); replace BK1136 := kb BK1136 hb; have NB1137_1138 := Aside0.mk ((by rw [hg]; exact Nat.ne_of_lt (bl BK1137) : gb1137 ≠ gb1138)); have NB1138_1137 := Aside0.mk ((by rw [hg]; exact Nat.ne_of_gt (bl BK1137) : gb1138 ≠ gb1137)); replace BK1137 := kb BK1137 hb; clear hb hbox hg))
 (try simp only [Act.put, List.setIfInBounds_toArray, List.set_cons_zero, List.set_cons_succ])
 go_cut [14] (fun v14 wc => ∃ (kq : Nat) (x14_2 : Bool), v14 = .bool x14_2 ∧ Aside0 (dioramaref02_Sub.j0 kq x14_2 a0_0 a0_1 a1_0 a1_1 = some (r1, r2, r3)) ∧ Aside0 (kq ≤ k) ∧ Aside0 (wc.heap[gb1136]? = some (.cells #[.int .i64 a0_0, .int .i64 a0_1] 37 (0, 0))) ∧ Aside0 (wc.heap[gb1137]? = some (.cells #[.int .i64 a1_0, .int .i64 a1_1] 37 (0, 0))) ∧ Aside0 (wc.heap[gb1138]? = some (.cells #[.int .i64 0, .int .i64 0] 37 (0, 0))) ∧ Aside0 (Below w.heap.size w wc))
 case first =>
  have H := HC3.out; clear HC3; obtain ⟨t1139, A7, H⟩ := ob H
  by_cases c8 : t1139 = true
  ·subst c8; rw [if_pos rfl] at H; obtain ⟨t1140, A9, H⟩ := ob H; have H' := Aside0.mk H; clear H; have hnb10 := NB1136_1137.out; have hnc10 := NB1137_1136.out; have hnb11 := NB1136_1138.out; have hnc11 := NB1138_1136.out; obtain ⟨hcz12_0, hcz12_1, hfz12_0, hfz12_1⟩ := xc2 BK1136
   go_wp2_with (first | ((with_reducible refine gate_callee (f := 35) rfl ?_); refine zC 8 Try.func35 #[.agg #[.int .i64 a0_0, .int .i64 a0_1]] ?_; (with_reducible refine (dioramaref02_Valid.calls a0_0 a0_1 true _ A7.out).mono ?_); rintro e w13 ⟨rfl, hb⟩; refine ⟨_, rfl, ?_⟩; replace BK1136 := kb BK1136 hb; replace BK1137 := kb BK1137 hb; replace BK1138 := kb BK1138 hb; replace HB := bp hb; clear hb; have hnb14 := NB1137_1138.out; have hnc14 := NB1138_1137.out; obtain ⟨hcz15_0, hcz15_1, hfz15_0, hfz15_1⟩ := xc2 BK1137) | (go_at_call 35; (with_reducible refine (dioramaref02_Valid.calls a1_0 a1_1 t1140 _ A9.out).mono ?_); rintro e w16 ⟨rfl, hb⟩; replace BK1136 := kb BK1136 hb; replace BK1137 := kb BK1137 hb; replace BK1138 := kb BK1138 hb; replace HB := bp hb; clear hb))
   go_meet
   case rel => exact ⟨_, (!t1140), jz, H', ⟨by first | omega | exact Nat.le_refl _⟩, ⟨kz⟩, ⟨kz⟩, ⟨kz⟩, ⟨bz⟩⟩
  ·obtain rfl := bf c8; rw [if_neg (show ¬ (false = true) by decide)] at H; have H' := Aside0.mk H; clear H; have hnb17 := NB1136_1137.out; have hnc17 := NB1137_1136.out; have hnb18 := NB1136_1138.out; have hnc18 := NB1138_1136.out; obtain ⟨hcz19_0, hcz19_1, hfz19_0, hfz19_1⟩ := xc2 BK1136
   go_wp2_with (first | ((with_reducible refine gate_callee (f := 35) rfl ?_); refine zC 8 Try.func35 #[.agg #[.int .i64 a0_0, .int .i64 a0_1]] ?_; (with_reducible refine (dioramaref02_Valid.calls a0_0 a0_1 false _ A7.out).mono ?_); rintro e w20 ⟨rfl, hb⟩; refine ⟨_, rfl, ?_⟩; replace BK1136 := kb BK1136 hb; replace BK1137 := kb BK1137 hb; replace BK1138 := kb BK1138 hb; replace HB := bp hb; clear hb))
   go_meet
   case rel => exact ⟨_, (true), jz, H', ⟨by first | omega | exact Nat.le_refl _⟩, ⟨kz⟩, ⟨kz⟩, ⟨kz⟩, ⟨bz⟩⟩
 case rest =>
  clear HC3
  try clear c1
  try clear p2
  try clear c3
  try clear c5
  try clear c8
  try clear c10
  try clear c11
  try clear c14
  try clear c17
  try clear c18
  try clear hcz12_0
  try clear hcz12_1
  try clear hcz15_0
  try clear hcz15_1
  try clear hcz19_0
  try clear hcz19_1
  try clear hfz12_0
  try clear hfz12_1
  try clear hfz15_0
  try clear hfz15_1
  try clear hfz19_0
  try clear hfz19_1
  obtain ⟨kq, x14_2, rfl, HA, HJ2, BK1136, BK1137, BK1138, HB⟩ := hcut
  cases kq with
  | zero => exact absurd HA.out (by simp [dioramaref02_Sub.j0])
  | succ kj2 =>
   have H := HA.out; clear HA; simp only [dioramaref02_Sub.j0] at H
   by_cases c21 : x14_2 = true
   ·subst c21; rw [if_pos rfl] at H; simp only [Option.some.injEq, Prod.mk.injEq] at H; obtain ⟨rfl, rfl, rfl⟩ := H; have hnb22 := NB1138_1136.out; have hnc22 := NB1136_1138.out; have hnb23 := NB1138_1137.out; have hnc23 := NB1137_1138.out; obtain ⟨hcz24_0, hcz24_1, hfz24_0, hfz24_1⟩ := xc2 BK1138
    go_wp2
    refine bodyPost_ret (results_ct rfl _ _ gb1138 37 #[.int .i64 0, .int .i64 0] (0, 0) _ rfl (by (with_reducible repeat (first | refine blk_drewN ?_ _ | refine blk_drew ?_ | refine blk_alloc ?_ _)); refine blk_put (cs := #[.int .i64 0, .int .i64 0]) ?_ 1 _ rfl; (with_reducible repeat (first | refine blk_drewN ?_ _ | refine blk_drew ?_ | refine blk_alloc ?_ _)); refine blk_put (cs := #[.int .i64 0, .int .i64 0]) ?_ 0 _ rfl; (with_reducible repeat (first | refine blk_drewN ?_ _ | refine blk_drew ?_ | refine blk_alloc ?_ _)); exact BK1138.out) Try.underlying37 rfl (by kernel_rfl)) rfl ?_
    exact ⟨ez, bz⟩
   ·obtain rfl := bf c21; rw [if_neg (show ¬ (false = true) by decide)] at H; obtain ⟨⟨t1141, t1142, t1145⟩, A25, H⟩ := ob H
    (try dsimp only at H)
    obtain ⟨⟨t1149, t1150, t1153⟩, A26, H⟩ := ob H
    (try dsimp only at H)
    obtain ⟨⟨t1156, t1157, t1160⟩, A27, H⟩ := ob H
    (try dsimp only at H)
    obtain ⟨⟨t1163, t1164, t1165⟩, A28, H⟩ := ob H
    (try dsimp only at H)
    simp only [Option.some.injEq, Prod.mk.injEq] at H; obtain ⟨rfl, rfl, rfl⟩ := H; have hnb29 := NB1137_1136.out; have hnc29 := NB1136_1137.out; have hnb30 := NB1137_1138.out; have hnc30 := NB1138_1137.out; obtain ⟨hcz31_0, hcz31_1, hfz31_0, hfz31_1⟩ := xc2 BK1137
    try go_wp2_with (first | ((with_reducible refine gate_callee (f := 85) rfl ?_); refine zC 17 Try.func85 #[.agg #[.int .i64 a1_0, .int .i64 a1_1]] ?_; (with_reducible refine (dioramaref02_RatOf.calls kj2 a1_0 a1_1 t1141 t1142 t1145 _ A25.out).mono ?_); rintro e w32 ⟨v1143, v1146, rfl, ho0, ho1, hb⟩; refine ⟨_, rfl, ?_⟩; have HO1144 := Aside0.mk (Kd.R_lower ho0 sz); have HO1147 := Aside0.mk (Kd.R_lower ho1 sz); replace BK1136 := kb BK1136 hb; replace BK1137 := kb BK1137 hb; replace BK1138 := kb BK1138 hb; replace HB := bp hb; clear hb ho0 ho1) | ((with_reducible refine gate_dst (N := 6) rfl ?_); refine zB 6 95 #[.bool false, .slice none 0 0, .slice none 0 0] ?_; intro gb1148 hg w33 hbox hb; replace HO1144 := Aside0.mk (Kd.R_below (rz HO1144) hb); replace HO1147 := Aside0.mk (Kd.R_below (rz HO1147) hb); have BK1148 := Aside0.mk hbox; have GW1148 := gz hg; have GE1148 := gz hg; replace HB := bp hb; have NB1136_1148 := Aside0.mk ((by rw [hg]; exact Nat.ne_of_lt (bl BK1136) : gb1136 ≠ gb1148)); have NB1148_1136 := Aside0.mk ((by rw [hg]; exact Nat.ne_of_gt (bl BK1136) : gb1148 ≠ gb1136)); replace BK1136 := kb BK1136 hb; have NB1137_1148 := Aside0.mk ((by rw [hg]; exact Nat.ne_of_lt (bl BK1137) : gb1137 ≠ gb1148)); have NB1148_1137 := Aside0.mk ((by rw [hg]; exact Nat.ne_of_gt (bl BK1137) : gb1148 ≠ gb1137)); replace BK1137 := kb BK1137 hb; have NB1138_1148 := Aside0.mk ((by rw [hg]; exact Nat.ne_of_lt (bl BK1138) : gb1138 ≠ gb1148)); have NB1148_1138 := Aside0.mk ((by rw [hg]; exact Nat.ne_of_gt (bl BK1138) : gb1148 ≠ gb1138)); replace BK1138 := kb BK1138 hb; clear hb hbox hg; have hnb34 := NB1148_1136.out; have hnc34 := NB1136_1148.out; have hnb35 := NB1148_1137.out; have hnc35 := NB1137_1148.out; have hnb36 := NB1148_1138.out; have hnc36 := NB1138_1148.out; obtain ⟨hcz37_0, hcz37_1, hcz37_2, hfz37_0, hfz37_1, hfz37_2⟩ := xc3 BK1148; obtain ⟨Ao38, co38, eo38⟩ := Kd.R_slice HO1144.out; subst eo38; obtain ⟨Ao39, co39, eo39⟩ := Kd.R_slice HO1147.out; subst eo39))
    have n0_ : Aside0 (Kd.R (Kd.int .i64) 3 ((((w33.setCell ⟨gb1148, 0, none⟩ (.bool t1141)).setCell ⟨gb1148, 1, none⟩ (.slice Ao38 t1142.length co38)).setCell ⟨gb1148, 2, none⟩ (.slice Ao39 t1145.length co39)).setCell ⟨gb1148, 0, none⟩ (.bool (!t1141))) w.heap.size (fun k_ => some k_ ≠ (.slice Ao39 t1145.length co39 : Value).ownBlock) (.slice Ao38 t1142.length co38) t1142) := ⟨by (with_reducible repeat (first | apply Kd.R_alloc | apply Kd.R_drewN | apply Kd.R_drew)); exact Kd.R_mono (Kd.R_far (p := ⟨gb1148, 0, none⟩) (Kd.R_far (p := ⟨gb1148, 2, none⟩) (Kd.R_far (p := ⟨gb1148, 1, none⟩) (Kd.R_far (p := ⟨gb1148, 0, none⟩) (Kd.R_types HO1144.out BK1148.out (by decide)) (fun _ hk => hk.2) (.bool t1141)) (fun _ hk => hk.2) (.slice Ao38 t1142.length co38)) (fun _ hk => hk.2) (.slice Ao39 t1145.length co39)) (fun _ hk => hk.2) (.bool (!t1141))) (fun _ hk => hk.1)⟩
    have n1_ : Aside0 (Kd.R (Kd.int .i64) 3 ((((w33.setCell ⟨gb1148, 0, none⟩ (.bool t1141)).setCell ⟨gb1148, 1, none⟩ (.slice Ao38 t1142.length co38)).setCell ⟨gb1148, 2, none⟩ (.slice Ao39 t1145.length co39)).setCell ⟨gb1148, 0, none⟩ (.bool (!t1141))) w.heap.size (fun k_ => some k_ ≠ (.slice Ao38 t1142.length co38 : Value).ownBlock) (.slice Ao39 t1145.length co39) t1145) := ⟨by (with_reducible repeat (first | apply Kd.R_alloc | apply Kd.R_drewN | apply Kd.R_drew)); exact Kd.R_mono (Kd.R_far (p := ⟨gb1148, 0, none⟩) (Kd.R_far (p := ⟨gb1148, 2, none⟩) (Kd.R_far (p := ⟨gb1148, 1, none⟩) (Kd.R_far (p := ⟨gb1148, 0, none⟩) (Kd.R_types HO1147.out BK1148.out (by decide)) (fun _ hk => hk.2) (.bool t1141)) (fun _ hk => hk.2) (.slice Ao38 t1142.length co38)) (fun _ hk => hk.2) (.slice Ao39 t1145.length co39)) (fun _ hk => hk.2) (.bool (!t1141))) (fun _ hk => hk.1)⟩
    have n2_ : Aside0 (((((w33.setCell ⟨gb1148, 0, none⟩ (.bool t1141)).setCell ⟨gb1148, 1, none⟩ (.slice Ao38 t1142.length co38)).setCell ⟨gb1148, 2, none⟩ (.slice Ao39 t1145.length co39)).setCell ⟨gb1148, 0, none⟩ (.bool (!t1141))).heap[gb1136]? = some (.cells #[.int .i64 a0_0, .int .i64 a0_1] 37 (0, 0))) := ⟨by (with_reducible repeat (first | refine blk_drewN ?_ _ | refine blk_drew ?_ | refine blk_alloc ?_ _)); refine blk_far ?_ NB1136_1148.out _; (with_reducible repeat (first | refine blk_drewN ?_ _ | refine blk_drew ?_ | refine blk_alloc ?_ _)); refine blk_far ?_ NB1136_1148.out _; (with_reducible repeat (first | refine blk_drewN ?_ _ | refine blk_drew ?_ | refine blk_alloc ?_ _)); refine blk_far ?_ NB1136_1148.out _; (with_reducible repeat (first | refine blk_drewN ?_ _ | refine blk_drew ?_ | refine blk_alloc ?_ _)); refine blk_far ?_ NB1136_1148.out _; (with_reducible repeat (first | refine blk_drewN ?_ _ | refine blk_drew ?_ | refine blk_alloc ?_ _)); exact BK1136.out⟩; have n3_ : Aside0 (((((w33.setCell ⟨gb1148, 0, none⟩ (.bool t1141)).setCell ⟨gb1148, 1, none⟩ (.slice Ao38 t1142.length co38)).setCell ⟨gb1148, 2, none⟩ (.slice Ao39 t1145.length co39)).setCell ⟨gb1148, 0, none⟩ (.bool (!t1141))).heap[gb1137]? = some (.cells #[.int .i64 a1_0, .int .i64 a1_1] 37 (0, 0))) := ⟨by (with_reducible repeat (first | refine blk_drewN ?_ _ | refine blk_drew ?_ | refine blk_alloc ?_ _)); refine blk_far ?_ NB1137_1148.out _; (with_reducible repeat (first | refine blk_drewN ?_ _ | refine blk_drew ?_ | refine blk_alloc ?_ _)); refine blk_far ?_ NB1137_1148.out _; (with_reducible repeat (first | refine blk_drewN ?_ _ | refine blk_drew ?_ | refine blk_alloc ?_ _)); refine blk_far ?_ NB1137_1148.out _; (with_reducible repeat (first | refine blk_drewN ?_ _ | refine blk_drew ?_ | refine blk_alloc ?_ _)); refine blk_far ?_ NB1137_1148.out _; (with_reducible repeat (first | refine blk_drewN ?_ _ | refine blk_drew ?_ | refine blk_alloc ?_ _)); exact BK1137.out⟩; have n4_ : Aside0 (((((w33.setCell ⟨gb1148, 0, none⟩ (.bool t1141)).setCell ⟨gb1148, 1, none⟩ (.slice Ao38 t1142.length co38)).setCell ⟨gb1148, 2, none⟩ (.slice Ao39 t1145.length co39)).setCell ⟨gb1148, 0, none⟩ (.bool (!t1141))).heap[gb1138]? = some (.cells #[.int .i64 0, .int .i64 0] 37 (0, 0))) := ⟨by (with_reducible repeat (first | refine blk_drewN ?_ _ | refine blk_drew ?_ | refine blk_alloc ?_ _)); refine blk_far ?_ NB1138_1148.out _; (with_reducible repeat (first | refine blk_drewN ?_ _ | refine blk_drew ?_ | refine blk_alloc ?_ _)); refine blk_far ?_ NB1138_1148.out _; (with_reducible repeat (first | refine blk_drewN ?_ _ | refine blk_drew ?_ | refine blk_alloc ?_ _)); refine blk_far ?_ NB1138_1148.out _; (with_reducible repeat (first | refine blk_drewN ?_ _ | refine blk_drew ?_ | refine blk_alloc ?_ _)); refine blk_far ?_ NB1138_1148.out _; (with_reducible repeat (first | refine blk_drewN ?_ _ | refine blk_drew ?_ | refine blk_alloc ?_ _)); exact BK1138.out⟩; have n5_ : Aside0 (((((w33.setCell ⟨gb1148, 0, none⟩ (.bool t1141)).setCell ⟨gb1148, 1, none⟩ (.slice Ao38 t1142.length co38)).setCell ⟨gb1148, 2, none⟩ (.slice Ao39 t1145.length co39)).setCell ⟨gb1148, 0, none⟩ (.bool (!t1141))).heap[gb1148]? = some (.cells #[.bool (!t1141), .slice Ao38 t1142.length co38, .slice Ao39 t1145.length co39] 95 (0, 0))) := ⟨by (with_reducible repeat (first | refine blk_drewN ?_ _ | refine blk_drew ?_ | refine blk_alloc ?_ _)); refine blk_put (cs := #[.bool t1141, .slice Ao38 t1142.length co38, .slice Ao39 t1145.length co39]) ?_ 0 _ rfl; (with_reducible repeat (first | refine blk_drewN ?_ _ | refine blk_drew ?_ | refine blk_alloc ?_ _)); refine blk_put (cs := #[.bool t1141, .slice Ao38 t1142.length co38, .slice none 0 0]) ?_ 2 _ rfl; (with_reducible repeat (first | refine blk_drewN ?_ _ | refine blk_drew ?_ | refine blk_alloc ?_ _)); refine blk_put (cs := #[.bool t1141, .slice none 0 0, .slice none 0 0]) ?_ 1 _ rfl; (with_reducible repeat (first | refine blk_drewN ?_ _ | refine blk_drew ?_ | refine blk_alloc ?_ _)); refine blk_put (cs := #[.bool false, .slice none 0 0, .slice none 0 0]) ?_ 0 _ rfl; (with_reducible repeat (first | refine blk_drewN ?_ _ | refine blk_drew ?_ | refine blk_alloc ?_ _)); exact BK1148.out⟩
    have n6_ : Aside0 (Below w.heap.size w ((((w33.setCell ⟨gb1148, 0, none⟩ (.bool t1141)).setCell ⟨gb1148, 1, none⟩ (.slice Ao38 t1142.length co38)).setCell ⟨gb1148, 2, none⟩ (.slice Ao39 t1145.length co39)).setCell ⟨gb1148, 0, none⟩ (.bool (!t1141)))) := ⟨bz⟩
    (try clear HO1144)
    (try clear HO1147)
    (try clear BK1136)
    (try clear BK1137)
    (try clear BK1138)
    (try clear BK1148)
    (try clear HB)
    generalize ((((w33.setCell ⟨gb1148, 0, none⟩ (.bool t1141)).setCell ⟨gb1148, 1, none⟩ (.slice Ao38 t1142.length co38)).setCell ⟨gb1148, 2, none⟩ (.slice Ao39 t1145.length co39)).setCell ⟨gb1148, 0, none⟩ (.bool (!t1141))) = w40 at n0_ n1_ n2_ n3_ n4_ n5_ n6_ ⊢; have HO1144 := n0_; have HO1147 := n1_; have BK1136 := n2_; have BK1137 := n3_; have BK1138 := n4_; have BK1148 := n5_; have HB := n6_; clear n0_ n1_ n2_ n3_ n4_ n5_ n6_; replace HO1144 := Aside0.mk (Kd.R_drew HO1144.out); replace HO1147 := Aside0.mk (Kd.R_drew HO1147.out); replace BK1136 := Aside0.mk (blk_drew BK1136.out); replace BK1137 := Aside0.mk (blk_drew BK1137.out); replace BK1138 := Aside0.mk (blk_drew BK1138.out); replace BK1148 := Aside0.mk (blk_drew BK1148.out); replace HB := Aside0.mk (below_drew1 HB.out); refine start_ (n := 9) (S := fun w' => w'.cell? ⟨gb1136, 0, none⟩ = some (.int .i64 a0_0) ∧ w'.cell? ⟨gb1136, 1, none⟩ = some (.int .i64 a0_1) ∧ w'.cell? ⟨gb1148, 0, none⟩ = some (.bool (!t1141)) ∧ w'.cell? ⟨gb1148, 1, none⟩ = some (.slice Ao38 t1142.length co38) ∧ w'.cell? ⟨gb1148, 2, none⟩ = some (.slice Ao39 t1145.length co39)) (ds := []) (bs 9 0) (by kernel_rfl) rfl rfl ⟨ct BK1136 0, ct BK1136 1, ct BK1148 0, ct BK1148 1, ct BK1148 2⟩ (fun hHeld => ?_)
    generalize w40.drew = w41 at HO1144 HO1147 BK1136 BK1137 BK1138 BK1148 HB hHeld ⊢; refine zT 0 22 9 1 hHeld ?_; refine zT 2 24 9 5 hHeld ?_; refine zN 1 (some 23) 9 7 (fun K hK => ?_); refine zG Try.func85 #[.agg #[.int .i64 a0_0, .int .i64 a0_1]] ?_
    with_reducible refine (dioramaref02_RatOf.calls kj2 a0_0 a0_1 t1149 t1150 t1153 _ A26.out).mono ?_
    rintro e w42 ⟨v1151, v1154, rfl, ho0, ho1, hb⟩; refine ⟨_, rfl, ?_⟩; have HO1152 := Aside0.mk (Kd.R_lower (Kd.R_new' (Kd.R_new' ho0 (Kd.R_lt (rz HO1144))) (Kd.R_lt (rz HO1147))) sz); have HO1155 := Aside0.mk (Kd.R_lower (Kd.R_new' (Kd.R_new' ho1 (Kd.R_lt (rz HO1144))) (Kd.R_lt (rz HO1147))) sz); replace HO1144 := Aside0.mk (Kd.R_mono (Kd.R_told (Kd.R_told (Kd.R_old (rz HO1144) hb) (Kd.R_base ho0)) (Kd.R_base ho1)) (fun _ h_ => h_.1)); replace HO1147 := Aside0.mk (Kd.R_mono (Kd.R_told (Kd.R_told (Kd.R_old (rz HO1147) hb) (Kd.R_base ho0)) (Kd.R_base ho1)) (fun _ h_ => h_.1)); replace BK1136 := kb BK1136 hb; replace BK1137 := kb BK1137 hb; replace BK1138 := kb BK1138 hb; replace BK1148 := kb BK1148 hb; replace HB := bp hb; clear hb ho0 ho1; obtain ⟨Ao43, co43, eo43⟩ := Kd.R_slice HO1152.out
    (first | subst eo43 | (injection eo43 with f1_ f2_ f3_; have f4_ := f1_.symm; have f5_ := f3_.symm; clear f1_ f2_ f3_; subst f4_; subst f5_))
    obtain ⟨Ao44, co44, eo44⟩ := Kd.R_slice HO1155.out
    (first | subst eo44 | (injection eo44 with f1_ f2_ f3_; have f4_ := f1_.symm; have f5_ := f3_.symm; clear f1_ f2_ f3_; subst f4_; subst f5_))
    refine hK.out _ _ ⟨ct BK1136 0, ct BK1136 1, ct BK1148 0, ct BK1148 1, ct BK1148 2⟩ (fun hHeld => ?_); clear hK K; refine zM 23 ?_; refine zN 3 (some 25) 9 15 (fun K hK => ?_); refine zG Try.func98 #[.agg #[.bool t1149, .slice Ao43 t1150.length co43, .slice Ao44 t1153.length co44], .agg #[.bool (!t1141), .slice Ao38 t1142.length co38, .slice Ao39 t1145.length co39]] ?_
    with_reducible refine (dioramaref02_Sum.calls kj2 t1149 _ _ t1150 _ _ t1153 (!t1141) _ _ t1142 _ _ t1145 t1156 t1157 t1160 _ ?side1 ?side2 ?side3 ?side4 ?side5 ?side6 ?side7 ?side8 A27.out).mono ?_
    (case side1 => exact cr HO1152)
    (case side2 => exact (Kd.R_reads' HO1152.out).2.1)
    (case side3 => exact cr HO1155)
    (case side4 => exact (Kd.R_reads' HO1155.out).2.1)
    (case side5 => exact cr HO1144)
    (case side6 => exact (Kd.R_reads' HO1144.out).2.1)
    (case side7 => exact cr HO1147)
    (case side8 => exact (Kd.R_reads' HO1147.out).2.1)
    rintro e w45 ⟨v1158, v1161, rfl, ho0, ho1, hb⟩; refine ⟨_, rfl, ?_⟩; have HO1159 := Aside0.mk (Kd.R_lower (Kd.R_new' (Kd.R_new' (Kd.R_new' (Kd.R_new' ho0 (Kd.R_lt (rz HO1144))) (Kd.R_lt (rz HO1147))) (Kd.R_lt (rz HO1152))) (Kd.R_lt (rz HO1155))) sz); have HO1162 := Aside0.mk (Kd.R_lower (Kd.R_new' (Kd.R_new' (Kd.R_new' (Kd.R_new' ho1 (Kd.R_lt (rz HO1144))) (Kd.R_lt (rz HO1147))) (Kd.R_lt (rz HO1152))) (Kd.R_lt (rz HO1155))) sz); replace HO1144 := Aside0.mk (Kd.R_mono (Kd.R_told (Kd.R_told (Kd.R_old (rz HO1144) hb) (Kd.R_base ho0)) (Kd.R_base ho1)) (fun _ h_ => h_.1)); replace HO1147 := Aside0.mk (Kd.R_mono (Kd.R_told (Kd.R_told (Kd.R_old (rz HO1147) hb) (Kd.R_base ho0)) (Kd.R_base ho1)) (fun _ h_ => h_.1)); replace HO1152 := Aside0.mk (Kd.R_mono (Kd.R_told (Kd.R_told (Kd.R_old (rz HO1152) hb) (Kd.R_base ho0)) (Kd.R_base ho1)) (fun _ h_ => h_.1)); replace HO1155 := Aside0.mk (Kd.R_mono (Kd.R_told (Kd.R_told (Kd.R_old (rz HO1155) hb) (Kd.R_base ho0)) (Kd.R_base ho1)) (fun _ h_ => h_.1)); replace BK1136 := kb BK1136 hb; replace BK1137 := kb BK1137 hb; replace BK1138 := kb BK1138 hb; replace BK1148 := kb BK1148 hb; replace HB := bp hb; clear hb ho0 ho1; obtain ⟨Ao46, co46, eo46⟩ := Kd.R_slice HO1159.out
    (first | subst eo46 | (injection eo46 with f1_ f2_ f3_; have f4_ := f1_.symm; have f5_ := f3_.symm; clear f1_ f2_ f3_; subst f4_; subst f5_))
    obtain ⟨Ao47, co47, eo47⟩ := Kd.R_slice HO1162.out
    (first | subst eo47 | (injection eo47 with f1_ f2_ f3_; have f4_ := f1_.symm; have f5_ := f3_.symm; clear f1_ f2_ f3_; subst f4_; subst f5_))
    refine hK.out _ _ ⟨ct BK1136 0, ct BK1136 1, ct BK1148 0, ct BK1148 1, ct BK1148 2⟩ (fun hHeld => ?_); clear hK K; refine zM 25 ?_; refine zN 4 (some 26) 9 31 (fun K hK => ?_); refine zG Try.func87 #[.agg #[.bool t1156, .slice Ao46 t1157.length co46, .slice Ao47 t1160.length co47]] ?_
    with_reducible refine (dioramaref02_Time.calls kj2 t1156 (fun k_ => some k_ = (.slice Ao46 t1157.length co46 : Value).ownBlock) _ _ t1157 (fun k_ => some k_ = (.slice Ao47 t1160.length co47 : Value).ownBlock) _ _ t1160 t1163 t1164 t1165 _ ?side1 ?side2 A28.out).mono ?_
    (case side1 => exact Kd.R_V (Kd.R_tight rfl (Kd.R_types (Kd.R_types (Kd.R_types (Kd.R_types (HO1159.out) BK1136.out (by decide)) BK1137.out (by decide)) BK1138.out (by decide)) BK1148.out (by decide))))
    (case side2 => exact Kd.R_V (Kd.R_tight rfl (Kd.R_types (Kd.R_types (Kd.R_types (Kd.R_types (HO1162.out) BK1136.out (by decide)) BK1137.out (by decide)) BK1138.out (by decide)) BK1148.out (by decide))))
    rintro e w48 ⟨rfl, hb⟩; refine ⟨_, rfl, ?_⟩; replace HO1144 := Aside0.mk (Kd.R_below (rz HO1144) hb); replace HO1147 := Aside0.mk (Kd.R_below (rz HO1147) hb); replace HO1152 := Aside0.mk (Kd.R_below (rz HO1152) hb); replace HO1155 := Aside0.mk (Kd.R_below (rz HO1155) hb); replace HO1159 := Aside0.mk (Kd.R_below (rz HO1159) hb); replace HO1162 := Aside0.mk (Kd.R_below (rz HO1162) hb); replace BK1136 := kb BK1136 hb; replace BK1137 := kb BK1137 hb; replace BK1138 := kb BK1138 hb; replace BK1148 := kb BK1148 hb; replace HB := bp hb; clear hb; refine hK.out _ _ ⟨ct BK1136 0, ct BK1136 1, ct BK1148 0, ct BK1148 1, ct BK1148 2⟩ (fun hHeld => ?_); clear hK K; refine zM 26 ?_; refine zP 5 27 9 63 ?_; refine zP 6 28 9 127 ?_; refine zN 7 none 9 255 (fun K hK => ?_); have hs49 : w48.cell? ⟨gb1138, 0, none⟩ = some (.int .i64 0) := ct BK1138 0; have hfs49 := blk_frozen BK1138.out 0; have hns49_0 := NB1136_1138.out; have hns49_1 := NB1137_1138.out; have hns49_3 := NB1148_1138.out; have hms49_0 := NB1138_1136.out; have hms49_1 := NB1138_1137.out; have hms49_3 := NB1138_1148.out; have hs50 : w48.cell? ⟨gb1138, 1, none⟩ = some (.int .i64 0) := ct BK1138 1; have hfs50 := blk_frozen BK1138.out 1; have hns50_0 := NB1136_1138.out; have hns50_1 := NB1137_1138.out; have hns50_3 := NB1148_1138.out; have hms50_0 := NB1138_1136.out; have hms50_1 := NB1138_1137.out; have hms50_3 := NB1138_1148.out; refine skip_ (w1 := ?_) (by rfl) rfl ?_ ?_
    rotate_left
    ·go_simp
     rfl
    refine hK.out _ _ ⟨((cell_far (p := ⟨gb1138, _, none⟩) NB1136_1138.out _).trans (((cell_far (p := ⟨gb1138, _, none⟩) NB1136_1138.out _).trans (hHeld.1)))), ((cell_far (p := ⟨gb1138, _, none⟩) NB1136_1138.out _).trans (((cell_far (p := ⟨gb1138, _, none⟩) NB1136_1138.out _).trans (hHeld.2.1)))), ((cell_far (p := ⟨gb1138, _, none⟩) NB1148_1138.out _).trans (((cell_far (p := ⟨gb1138, _, none⟩) NB1148_1138.out _).trans (hHeld.2.2.1)))), ((cell_far (p := ⟨gb1138, _, none⟩) NB1148_1138.out _).trans (((cell_far (p := ⟨gb1138, _, none⟩) NB1148_1138.out _).trans (hHeld.2.2.2.1)))), ((cell_far (p := ⟨gb1138, _, none⟩) NB1148_1138.out _).trans (((cell_far (p := ⟨gb1138, _, none⟩) NB1148_1138.out _).trans (hHeld.2.2.2.2))))⟩ (fun hHeld => ?_); clear hK K; refine zP 8 5 9 511 ?_; refine done_ (by kernel_rfl) ?_
    try go_wp2
    refine bodyPost_ret (results_ct rfl _ _ gb1138 37 #[.int .i64 t1163, .int .i64 t1164] (0, 0) _ rfl (by (with_reducible repeat (first | refine blk_drewN ?_ _ | refine blk_drew ?_ | refine blk_alloc ?_ _)); refine blk_put (cs := #[.int .i64 t1163, .int .i64 0]) ?_ 1 _ rfl; (with_reducible repeat (first | refine blk_drewN ?_ _ | refine blk_drew ?_ | refine blk_alloc ?_ _)); refine blk_put (cs := #[.int .i64 0, .int .i64 0]) ?_ 0 _ rfl; (with_reducible repeat (first | refine blk_drewN ?_ _ | refine blk_drew ?_ | refine blk_alloc ?_ _)); exact BK1138.out) Try.underlying37 rfl (by kernel_rfl)) rfl ?_
    exact ⟨ez, bz⟩
end Go.Proofs.Ytpbhepdgamoiaaa.E
namespace Go.Proofs.Ytpbhepdgamoiaaa.E
open Go.Proofs.Ytpbhepdgamoiaaa.Z Go.RowKit Go.Proofs.YtpbhepdgamoiaaaW.PrintWords Go.Proofs.YtpbhepdgamoiaaaW.PrintLast Go.Proofs.YtpbhepdgamoiaaaW.PrintMore
attribute [local go_sem] max2_int min2_int max_two min_two max_three min_three max_four min_four
set_option linter.unusedVariables false
set_option linter.unusedSimpArgs false
attribute [local go_sem high] eqA77
def bits_Mul64.f (a0 : Int) (a1 : Int) : Option (Int × Int) := some (IntKind.u64.wrap ((IntKind.u64.wrap ((IntKind.u64.wrap ((a0 / 4294967296) * (a1 / 4294967296))) + ((IntKind.u64.wrap ((IntKind.u64.wrap ((a0 / 4294967296) * (Go.bits .and .u64 a1 4294967295))) + ((IntKind.u64.wrap ((Go.bits .and .u64 a0 4294967295) * (Go.bits .and .u64 a1 4294967295))) / 4294967296))) / 4294967296))) + ((IntKind.u64.wrap ((Go.bits .and .u64 (IntKind.u64.wrap ((IntKind.u64.wrap ((a0 / 4294967296) * (Go.bits .and .u64 a1 4294967295))) + ((IntKind.u64.wrap ((Go.bits .and .u64 a0 4294967295) * (Go.bits .and .u64 a1 4294967295))) / 4294967296))) 4294967295) + (IntKind.u64.wrap ((Go.bits .and .u64 a0 4294967295) * (a1 / 4294967296))))) / 4294967296)), IntKind.u64.wrap (a0 * a1))
set_option maxHeartbeats 8000000 in
set_option maxRecDepth 100000 in
theorem bits_Mul64.calls (a0 : Int) (a1 : Int) (r1 : Int) (r2 : Int) (w : World) (h : bits_Mul64.f a0 a1 = some (r1, r2)) :
  Calls Try.prog 159 #[.int .u64 a0, .int .u64 a1] w fun e w' => e = .returned (.tuple #[.int .u64 r1, .int .u64 r2]) ∧ Drawn0 w w' := by
 have H : (some (IntKind.u64.wrap ((IntKind.u64.wrap ((IntKind.u64.wrap ((a0 / 4294967296) * (a1 / 4294967296))) + ((IntKind.u64.wrap ((IntKind.u64.wrap ((a0 / 4294967296) * (Go.bits .and .u64 a1 4294967295))) + ((IntKind.u64.wrap ((Go.bits .and .u64 a0 4294967295) * (Go.bits .and .u64 a1 4294967295))) / 4294967296))) / 4294967296))) + ((IntKind.u64.wrap ((Go.bits .and .u64 (IntKind.u64.wrap ((IntKind.u64.wrap ((a0 / 4294967296) * (Go.bits .and .u64 a1 4294967295))) + ((IntKind.u64.wrap ((Go.bits .and .u64 a0 4294967295) * (Go.bits .and .u64 a1 4294967295))) / 4294967296))) 4294967295) + (IntKind.u64.wrap ((Go.bits .and .u64 a0 4294967295) * (a1 / 4294967296))))) / 4294967296)), IntKind.u64.wrap (a0 * a1))) = some (r1, r2) := h; clear h; simp only [Option.some.injEq, Prod.mk.injEq] at H; obtain ⟨rfl, rfl⟩ := H
 go_enter Try.func159, Try.ntmps159
 go_wp2
 go_ret2
 exact ⟨by first | rfl | (simp; done) | (simp [*]; done), by repeat (first | exact Drawn0.refl _ | apply Drawn0.step)⟩
def bits_Mul.f (a0 : Int) (a1 : Int) : Option (Int × Int) := (bits_Mul64.f a0 a1).bind fun bt1085 => (some (bt1085.1, bt1085.2))
set_option maxHeartbeats 8000000 in
set_option maxRecDepth 100000 in
theorem bits_Mul.calls (a0 : Int) (a1 : Int) (r1 : Int) (r2 : Int) (w : World) (h : bits_Mul.f a0 a1 = some (r1, r2)) :
  Calls Try.prog 139 #[.int .u64 a0, .int .u64 a1] w fun e w' => e = .returned (.tuple #[.int .u64 r1, .int .u64 r2]) ∧ Drawn0 w w' := by
 have H : ((bits_Mul64.f a0 a1).bind fun bt1085 => (some (bt1085.1, bt1085.2))) = some (r1, r2) := h
 clear h; obtain ⟨⟨t1085, t1086⟩, A3, H⟩ := ob H
 (try dsimp only at H)
 simp only [Option.some.injEq, Prod.mk.injEq] at H; obtain ⟨rfl, rfl⟩ := H
 go_enter Try.func139, Try.ntmps139
 go_wp2_with (first | ((with_reducible refine gate_callee (f := 159) rfl ?_); refine zC 25 Try.func159 #[.int .u64 a0, .int .u64 a1] ?_; (with_reducible refine (bits_Mul64.calls a0 a1 t1085 t1086 _ A3.out).mono ?_); rintro e w' ⟨rfl, ⟨nd, rfl⟩⟩; refine ⟨_, rfl, ?_⟩))
 go_ret2
 exact ⟨by first | rfl | (simp; done) | (simp [*]; done), by repeat (first | exact Drawn0.refl _ | apply Drawn0.step)⟩
end Go.Proofs.Ytpbhepdgamoiaaa.E
namespace Go.Proofs.Ytpbhepdgamoiaaa.E
open Go.Proofs.Ytpbhepdgamoiaaa.Z Go.RowKit Go.Proofs.YtpbhepdgamoiaaaW.PrintWords Go.Proofs.YtpbhepdgamoiaaaW.PrintLast Go.Proofs.YtpbhepdgamoiaaaW.PrintMore
attribute [local go_sem] max2_int min2_int max_two min_two max_three min_three max_four min_four
set_option linter.unusedVariables false
set_option linter.unusedSimpArgs false
end Go.Proofs.Ytpbhepdgamoiaaa.E
namespace Go.Proofs.Ytpbhepdgamoiaaa.Pf
open Go.RowKit Go Go.Proofs.YtpbhepdgamoiaaaW.PrintWords Go.Proofs.YtpbhepdgamoiaaaW.PrintLast Go.Proofs.YtpbhepdgamoiaaaW.PrintMore Go.Proofs.Ytpbhepdgamoiaaa.Mn Go.Proofs.Ytpbhepdgamoiaaa.Rf Go.Proofs.Ytpbhepdgamoiaaa.Er Go.Proofs.Ytpbhepdgamoiaaa.Ek Go.Proofs.Ytpbhepdgamoiaaa.E Go.Proofs.Ytpbhepdgamoiaaa.Pe
set_option linter.unusedVariables false
set_option linter.unusedSimpArgs false
def lowV (x : Ed) : Ed := ⟨x.f0, x.f1, (qq x.f2 x.f3).num, ((qq x.f2 x.f3).den : Int)⟩
def ovV (ms ts : Int) (a b : Ed) : Bool := overB ms ts a.f0 a.f1 a.f2 a.f3 b.f1 b.f2 b.f3
def push (ms ts : Int) : List Ed → Ed → List Ed
 | [], e => [e]
 | a :: t, e => if ovV ms ts a e = true then ⟨a.f0 + e.f0, a.f1, a.f2, a.f3⟩ :: t else e :: a :: t
def nrmR (ms ts : Int) (out l : List Ed) : List Ed := (l.map lowV).foldl (push ms ts) out
def nrm (ms ts : Int) (l : List Ed) : List Ed := (nrmR ms ts [] l).reverse
def fin (out : List Ed) : List Ed × Int := if 20 < out.length then ([], 2) else (out.reverse, 0)
def nrmV (ms ts : Int) (l : List Ed) : List Ed × Int := if 1099511627776 < sumD l then ([], 2) else fin (nrmR ms ts [] l)
structure Wd (x : Ed) : Prop where
 d0 : 1 ≤ x.f0
 m0 : -1 ≤ x.f1
 m1 : x.f1 ≤ 1099511627776
 n0 : 0 ≤ x.f2
 n1 : x.f2 ≤ 1000
 e0 : 1 ≤ x.f3
 e1 : x.f3 ≤ 1000
theorem wd_low {x : Ed} (h : Vd x) : Wd (lowV x) := by
 have hq := qq_low h.n0 h.e0
 have h1 := h.n1
 have h2 := h.e1
 exact ⟨h.d0, h.m0, h.m1, hq.1, by unfold lowV; simp only; omega, hq.2.2.1, by unfold lowV; simp only; omega⟩
theorem low_f {x : Ed} (h : Vd x) : edit_lowest.f x.f0 x.f1 x.f2 x.f3 = some ((lowV x).f0, (lowV x).f1, (lowV x).f2, (lowV x).f3) := by
 unfold edit_lowest.f rateOk
 have h0 := h.n0
 have h1 := h.n1
 have h2 := h.e0
 have h3 := h.e1
 rw [decide_eq_true h0, decide_eq_true (show x.f2 ≤ 1000000 by omega), decide_eq_true h2, decide_eq_true (show x.f3 ≤ 1000000 by omega)]
 rfl
theorem over_f {ms ts : Int} {a b : Ed} (hc : Ck ms ts) (ha : Wd a) (hd : a.f0 ≤ 1099511627776) (hb : Wd b) : edit_clocks_over.f ms ts a.f0 a.f1 a.f2 a.f3 b.f0 b.f1 b.f2 b.f3 = some (ovV ms ts a b) := by
 unfold edit_clocks_over.f overOk in64
 have c0 := hc.m0
 have c1 := hc.m1
 have c2 := hc.t0
 have c3 := hc.t1
 have a0 := ha.d0
 have a1 := ha.m0
 have a2 := ha.m1
 have a3 := ha.n0
 have a4 := ha.n1
 have a5 := ha.e0
 have a6 := ha.e1
 have b1 := hb.m0
 have b2 := hb.m1
 rw [if_pos (by simp only [Bool.and_eq_true, decide_eq_true_eq]; omega)]
 rfl
theorem sumD_rev (l : List Ed) : sumD l.reverse = sumD l := by
 induction l with
 | nil => rfl
 | cons x t ih => rw [List.reverse_cons, sumD_app, ih]; simp only [sumD]; omega
theorem push_sum (ms ts : Int) (out : List Ed) (e : Ed) : sumD (push ms ts out e) = sumD out + e.f0 := by
 cases out with
 | nil => simp [push, sumD]
 | cons a t =>
  simp only [push]
  split
  ·simp only [sumD]; omega
  ·simp only [sumD]; omega
theorem push_wd {ms ts : Int} {out : List Ed} {e : Ed} (h : ∀ x ∈ out, Wd x) (he : Wd e) : ∀ x ∈ push ms ts out e, Wd x := by
 cases out with
 | nil => simpa [push] using he
 | cons a t =>
  have ha := h a (by simp)
  simp only [push]
  split
  ·intro x hx
   simp only [List.mem_cons] at hx
   rcases hx with rfl | hx
   ·have a0 := ha.d0
    have e0 := he.d0
    exact ⟨by simp only; omega, ha.m0, ha.m1, ha.n0, ha.n1, ha.e0, ha.e1⟩
   ·exact h x (by simp [hx])
  ·intro x hx
   simp only [List.mem_cons] at hx
   rcases hx with rfl | hx
   ·exact he
   ·exact h x (by simpa using hx)
theorem push_len (ms ts : Int) (out : List Ed) (e : Ed) : (push ms ts out e).length ≤ out.length + 1 := by
 cases out with
 | nil => simp [push]
 | cons a t =>
  simp only [push]
  split <;> simp
theorem wd_sum {l : List Ed} (h : ∀ x ∈ l, Wd x) : 0 ≤ sumD l := by
 induction l with
 | nil => simp [sumD]
 | cons x t ih =>
  have h1 := (h x (by simp)).d0
  have h2 := ih (fun y hy => h y (by simp [hy]))
  simp only [sumD]
  omega
theorem normal_l {ms ts : Int} (hc : Ck ms ts) (l : List Ed) (hV : ∀ x ∈ l, Vd x) (hl : l.length ≤ 1000000000) (rest : List Ed) :
  ∀ pre out, l = pre ++ rest → sumD out = sumD pre → sumD pre ≤ 1099511627776 → (∀ x ∈ out, Wd x) → out.length ≤ pre.length →
   Ev (fun k => edit_clocks_normal.l0 k out.reverse (sumD pre) l (l.length : Int) (pre.length : Int) ms ts) (if 1099511627776 < sumD l then ([], 2) else fin (nrmR ms ts out rest)) := by
 induction rest with
 | nil =>
  intro pre out he hs hp hw ho
  subst he
  rw [if_neg (by simp only [List.append_nil]; omega)]
  refine Ev.step (f := fun _ => some (fin (nrmR ms ts out []))) (fun k => ?_) (Ev.now _)
  simp only [edit_clocks_normal.l0, List.append_nil]
  rw [if_neg (by omega)]
  unfold fin nrmR
  simp only [List.map_nil, List.foldl_nil, List.length_reverse]
  by_cases h : 20 < out.length
  ·rw [if_pos h, if_pos (by omega)]
  ·rw [if_neg h, if_neg (by omega)]
 | cons x t ih =>
  intro pre out he hs hp hw ho
  have hlen : l.length = pre.length + (t.length + 1) := by rw [he]; simp
  have hx : rd_T77 l (pre.length : Int) = x := by rw [he]; exact rd_at pre x t
  have hvx : Vd x := hV x (by rw [he]; simp)
  have hst : 0 ≤ sumD t := sumD_nonneg (fun y hy => hV y (by rw [he]; simp [hy]))
  have hsl : sumD l = sumD pre + x.f0 + sumD t := by rw [he, sumD_app]; simp only [sumD]; omega
  have hs0 : 0 ≤ sumD pre := by rw [← hs]; exact wd_sum hw
  have hd0 := hvx.d0
  have hd1 := hvx.d1
  have hsp : sumD (pre ++ [x]) = sumD pre + x.f0 := by rw [sumD_app]; simp [sumD]
  by_cases hbig : sumD pre + x.f0 > 1099511627776
  ·rw [if_pos (by omega)]
   refine Ev.step (f := fun _ => some ([], 2)) (fun k => ?_) (Ev.now _)
   simp only [edit_clocks_normal.l0]
   rw [if_pos (by omega), if_pos (by omega), if_pos (by omega), hx, low_f hvx]
   simp only [Option.bind_some]
   rw [show (lowV x).f0 = x.f0 from rfl, w64 (by omega) (by omega), if_pos hbig]
  ·have hwl := wd_low hvx
   have hr := ih (pre ++ [x]) (push ms ts out (lowV x)) (by rw [he]; simp) (by rw [push_sum, hs, hsp]; rfl) (by omega) (push_wd hw hwl) (by have := push_len ms ts out (lowV x); simp only [List.length_append, List.length_cons, List.length_nil]; omega)
   have hn : nrmR ms ts out (x :: t) = nrmR ms ts (push ms ts out (lowV x)) t := rfl
   rw [hn]
   refine Ev.step (f := fun k => edit_clocks_normal.l1 k out.reverse (sumD (pre ++ [x])) (out.reverse.length : Int) l (l.length : Int) (pre.length : Int) ms ts (lowV x).f0 (lowV x).f1 (lowV x).f2 (lowV x).f3) (fun k => ?_) ?_
   ·simp only [edit_clocks_normal.l0]
    rw [if_pos (by omega), if_pos (by omega), if_pos (by omega), hx, low_f hvx]
    simp only [Option.bind_some]
    rw [show (lowV x).f0 = x.f0 from rfl, w64 (by omega) (by omega), if_neg hbig, hsp]
   ·refine Ev.step (f := fun k => edit_clocks_normal.l0 k (push ms ts out (lowV x)).reverse (sumD (pre ++ [x])) l (l.length : Int) ((pre ++ [x]).length : Int) ms ts) (fun k => ?_) hr
    simp only [edit_clocks_normal.l1]
    have hpl : wrap64 ((pre.length : Int) + 1) = ((pre ++ [x]).length : Int) := by rw [w64 (by omega) (by omega)]; simp
    rw [hpl]
    cases out with
    | nil =>
     rw [if_neg (show ¬ (([] : List Ed).reverse.length : Int) > 0 by simp), if_pos (show ([] : List Ed).reverse.length < 4398046511104 by simp)]
     rfl
    | cons a o =>
     have hla : (a :: o).reverse.length = o.length + 1 := by simp
     have hra : rd_T77 (a :: o).reverse (o.length : Int) = a := by
      rw [List.reverse_cons]
      have := rd_at o.reverse a []
      rw [List.length_reverse] at this
      exact this
     have hol : o.length + 1 ≤ pre.length := ho
     have hsa := wd_sum (l := o) (fun y hy => hw y (by simp [hy]))
     have hda : a.f0 ≤ 1099511627776 := by simp only [sumD] at hs; omega
     rw [hla, if_pos (by omega), w64 (by omega) (by omega), show ((o.length + 1 : Nat) : Int) - 1 = (o.length : Int) by omega, if_pos (by omega), if_pos (by omega), hra]
     have ha0 := (hw a (by simp)).d0
     have hov : edit_clocks_over.f ms ts a.f0 a.f1 a.f2 a.f3 (lowV x).f0 (lowV x).f1 (lowV x).f2 (lowV x).f3 = some (ovV ms ts a (lowV x)) := over_f hc (hw a (by simp)) hda hwl
     rw [hov]
     simp only [Option.bind_some, push]
     by_cases hb : ovV ms ts a (lowV x) = true
     ·rw [if_pos hb, if_pos hb]
      have hf : (lowV x).f0 = x.f0 := rfl
      simp only [sumD] at hs
      rw [w64 (by rw [hf]; omega) (by rw [hf]; omega)]
      congr 1
      rw [List.reverse_cons, List.reverse_cons, Int.toNat_natCast]
      have : o.length = o.reverse.length := by simp
      rw [this, List.set_append_right _ _ (Nat.le_refl _)]
      simp
     ·rw [if_neg hb, if_neg hb, if_pos (by omega)]
      congr 1
      simp
theorem normal_f {ms ts : Int} (hc : Ck ms ts) (l : List Ed) (hV : ∀ x ∈ l, Vd x) (hl : l.length ≤ 1000000000) : Ev (fun k => edit_clocks_normal.f k ms ts l) (nrmV ms ts l) :=
 normal_l hc l hV hl l [] [] rfl rfl (by simp [sumD]) (by simp) (by simp)
theorem nrmR_sum (ms ts : Int) (l : List Ed) : ∀ out, sumD (nrmR ms ts out l) = sumD out + sumD l := by
 induction l with
 | nil => intro out; simp [nrmR, sumD]
 | cons x t ih =>
  intro out
  have h := ih (push ms ts out (lowV x))
  have hn : nrmR ms ts out (x :: t) = nrmR ms ts (push ms ts out (lowV x)) t := rfl
  rw [hn, h, push_sum]
  simp only [sumD]
  have : (lowV x).f0 = x.f0 := rfl
  omega
theorem nrm_sum (ms ts : Int) (l : List Ed) : sumD (nrm ms ts l) = sumD l := by
 unfold nrm
 rw [sumD_rev, nrmR_sum]
 simp [sumD]
theorem nrmR_len (ms ts : Int) (l : List Ed) : ∀ out, (nrmR ms ts out l).length ≤ out.length + l.length := by
 induction l with
 | nil => intro out; simp [nrmR]
 | cons x t ih =>
  intro out
  have h := ih (push ms ts out (lowV x))
  have hn : nrmR ms ts out (x :: t) = nrmR ms ts (push ms ts out (lowV x)) t := rfl
  have h2 := push_len ms ts out (lowV x)
  rw [hn]
  simp only [List.length_cons]
  omega
def norV (ms ts : Int) (l : List Ed) : List Ed × Int := if chk l ms ts = 0 then (nrm ms ts l, 0) else ([], chk l ms ts)
theorem Normal_f (l : List Ed) (ms ts : Int) : Ev (fun k => edit_Normal.f k l ms ts) (norV ms ts l) := by
 unfold norV
 by_cases h0 : chk l ms ts = 0
 ·obtain ⟨hc, hl, hV, hs⟩ := chk_ok.1 h0
  rw [if_pos h0]
  have hr : nrmV ms ts l = (nrm ms ts l, 0) := by
   have := nrmR_len ms ts l []
   simp only [List.length_nil] at this
   unfold nrmV fin nrm
   rw [if_neg (by omega), if_neg (by omega)]
  have h1 := check_f l ms ts
  rw [h0] at h1
  refine Ev.congr (fun k => rfl) (Ev.bind h1 ?_)
  refine Ev.congr (fun k => if_pos rfl) (Ev.bind (normal_f hc l hV (by omega)) ?_)
  rw [hr]
  exact Ev.now _
 ·rw [if_neg h0]
  refine Ev.congr (fun k => rfl) (Ev.bind (check_f l ms ts) ?_)
  refine Ev.congr (fun k => if_neg h0) (Ev.now _)
end Go.Proofs.Ytpbhepdgamoiaaa.Pf
namespace Go.Proofs.Ytpbhepdgamoiaaa.Pg
open Go.RowKit Go Go.Proofs.YtpbhepdgamoiaaaW.PrintWords Go.Proofs.YtpbhepdgamoiaaaW.PrintLast Go.Proofs.YtpbhepdgamoiaaaW.PrintMore Go.Proofs.Ytpbhepdgamoiaaa.Mn Go.Proofs.Ytpbhepdgamoiaaa.Rf Go.Proofs.Ytpbhepdgamoiaaa.Er Go.Proofs.Ytpbhepdgamoiaaa.Ek Go.Proofs.Ytpbhepdgamoiaaa.E Go.Proofs.Ytpbhepdgamoiaaa.Pe Go.Proofs.Ytpbhepdgamoiaaa.Pf
set_option linter.unusedVariables false
set_option linter.unusedSimpArgs false
instance : DecidableEq Ed := fun x y =>
 decidable_of_iff (x.f0 = y.f0 ∧ x.f1 = y.f1 ∧ x.f2 = y.f2 ∧ x.f3 = y.f3) ⟨fun h => by cases x; cases y; simp_all, fun h => by subst h; simp⟩
def exL : List Ed := [⟨10, 0, 1, 1⟩, ⟨5, 10, 1, 1⟩]
theorem nrm_ex : nrm 10 10 exL = [⟨15, 0, 1, 1⟩] := by decide +kernel
theorem chk_ex : chk exL 10 10 = 0 := by decide +kernel
theorem awake_f : Ev (fun k => dioramalaw10_awake.f k) true := by
 have h := Normal_f exL 10 10
 unfold norV at h
 rw [if_pos chk_ex, nrm_ex] at h
 refine Ev.congr (fun k => rfl) (Ev.bind h ?_)
 refine Ev.congr (f := fun _ => some true) (fun k => ?_) (Ev.now _)
 rfl
theorem Length_f (l : List Ed) (h : l.length ≤ 100) (hw : ∀ x ∈ l, in64 x.f0 = true) : edit_Length.f l = some (lenB (sumD l)) := by
 unfold edit_Length.f lenOk
 rw [if_pos (by simp only [Bool.and_eq_true, decide_eq_true_eq, List.all_eq_true]; exact ⟨h, hw⟩)]
theorem many_f (l : List Ed) : dioramalaw10_many.f l = some (decide (60 < l.length)) := by
 unfold dioramalaw10_many.f
 congr 1
 by_cases h : 60 < l.length
 ·rw [decide_eq_true h, decide_eq_true (by omega)]
 ·rw [decide_eq_false h, decide_eq_false (by omega)]
end Go.Proofs.Ytpbhepdgamoiaaa.Pg
namespace Go.Proofs.Ytpbhepdgamoiaaa.Ph
open Go.RowKit Go Go.Proofs.YtpbhepdgamoiaaaW.PrintWords Go.Proofs.YtpbhepdgamoiaaaW.PrintLast Go.Proofs.YtpbhepdgamoiaaaW.PrintMore Go.Proofs.Ytpbhepdgamoiaaa.Mn Go.Proofs.Ytpbhepdgamoiaaa.Rf Go.Proofs.Ytpbhepdgamoiaaa.Er Go.Proofs.Ytpbhepdgamoiaaa.Ek Go.Proofs.Ytpbhepdgamoiaaa.E Go.Proofs.Ytpbhepdgamoiaaa.Pe Go.Proofs.Ytpbhepdgamoiaaa.Pf Go.Proofs.Ytpbhepdgamoiaaa.Pg
set_option linter.unusedVariables false
set_option linter.unusedSimpArgs false
end Go.Proofs.Ytpbhepdgamoiaaa.Ph
namespace Go.Proofs.Ytpbhepdgamoiaaa.Pa
open Go.RowKit Go.Proofs.Ytpbhepdgamoiaaa.P Go.Proofs.Ytpbhepdgamoiaaa.E Go.Proofs.YtpbhepdgamoiaaaW.PrintWords Go.Proofs.YtpbhepdgamoiaaaW.PrintLast Go.Proofs.Ytpbhepdgamoiaaa.Ml Go.Proofs.Ytpbhepdgamoiaaa.Mn
set_option linter.unusedVariables false
set_option linter.unusedSimpArgs false
abbrev Bd : Int := 1000000000
abbrev Nn (l : List Int) : Prop := Cn 1000000000 l
theorem top_cons {x : Int} {l : List Int} (h : Top l) (hx : l = [] → x ≠ 0) : Top (x :: l) := by
 intro hne
 cases l with
 | nil => simpa using hx rfl
 | cons y t =>
  rw [List.getLast_cons (by simp)]
  exact h (by simp)
theorem digit_f (l : List Int) (i : Nat) : dioramaref02_digit.f l (i : Int) = some (l.getD i 0) := by
 unfold dioramaref02_digit.f
 by_cases h : i < l.length
 ·rw [if_pos (by omega), if_pos (by omega), rd_nat]
 ·rw [if_neg (by omega), getD_ge (by omega)]
theorem tmodB {x : Int} (h : 0 ≤ x) : Int.tmod x 1000000000 = x % 1000000000 := Int.tmod_eq_emod_of_nonneg h
theorem tdivB {x : Int} (h : 0 ≤ x) : Int.tdiv x 1000000000 = x / 1000000000 := Int.tdiv_eq_ediv_of_nonneg h
theorem of_l (m : Nat) : ∀ (x : Int) (acc : List Int), 0 ≤ x → x < pw 1000000000 m → x ≤ 9223372036854775807 → acc.length + m ≤ 1000 → ∃ r, Ev (fun k => dioramaref02_Of.l0 k x acc) (acc ++ r) ∧ Nn r ∧ dv 1000000000 r = x ∧ r.length ≤ m := by
 induction m with
 | zero =>
  intro x acc h0 h1 _ _
  have hx : x = 0 := by simp [pw] at h1; omega
  subst hx
  exact ⟨[], Ev.step (f := fun _ => some (acc ++ [])) (fun k => by simp [dioramaref02_Of.l0]) (Ev.now _), Cn.nil _, rfl, Nat.le_refl _⟩
 | succ m ih =>
  intro x acc h0 h1 h2 hl
  by_cases hx : x = 0
  ·subst hx
   exact ⟨[], Ev.step (f := fun _ => some (acc ++ [])) (fun k => by simp [dioramaref02_Of.l0]) (Ev.now _), Cn.nil _, rfl, Nat.zero_le _⟩
  ·have hd : x / 1000000000 < pw 1000000000 m := by
    rw [pw_succ] at h1
    omega
   obtain ⟨r, he, hc, hv, hr⟩ := ih (x / 1000000000) (acc ++ [x % 1000000000]) (by omega) hd (by omega) (by simp; omega)
   refine ⟨x % 1000000000 :: r, ?_, ⟨Dg.cons (by omega) (by omega) hc.dg, top_cons hc.top (fun h => ?_)⟩, ?_, by simp; omega⟩
   ·rw [List.append_assoc, List.singleton_append] at he
    refine Ev.step (fun k => ?_) he
    simp only [dioramaref02_Of.l0]
    rw [if_pos (by omega), if_pos (by omega), tdivB h0, tmodB h0, w64 (by omega) (by omega)]
   ·subst h
    simp only [dv] at hv
    omega
   ·simp only [dv] at hv ⊢
    rw [hv]
    omega
theorem of_f (x : Int) (h0 : 0 ≤ x) (h1 : x ≤ 9223372036854775807) : ∃ r, Ev (fun k => dioramaref02_Of.f k x) r ∧ Nn r ∧ dv 1000000000 r = x ∧ r.length ≤ 3 := by
 obtain ⟨r, he, h⟩ := of_l 3 x [] h0 (by simp [pw]; omega) h1 (by simp)
 exact ⟨r, he, h⟩
theorem trimmed_l (l : List Int) (hd : Dg 1000000000 l) (hl : l.length ≤ 1000000) : ∀ n : Nat, n ≤ l.length → dv 1000000000 (l.take n) = dv 1000000000 l → ∃ r, Ev (fun k => dioramaref02_trimmed.l0 k l (n : Int)) r ∧ Nn r ∧ dv 1000000000 r = dv 1000000000 l ∧ r.length ≤ n := by
 intro n
 induction n with
 | zero =>
  intro _ hv
  refine ⟨[], Ev.step (f := fun _ => some []) (fun k => ?_) (Ev.now _), Cn.nil _, by rw [← hv]; rfl, Nat.le_refl _⟩
  simp [dioramaref02_trimmed.l0]
 | succ n ih =>
  intro hn hv
  have hw : wrap64 (((n + 1 : Nat) : Int) - 1) = (n : Int) := by rw [w64 (by omega) (by omega)]; omega
  by_cases hz : l.getD n 0 = 0
  ·obtain ⟨r, he, hc, hr, hlr⟩ := ih (by omega) (by rw [← hv] ; rw [dv_take_succ', hz]; omega)
   refine ⟨r, Ev.step (fun k => ?_) he, hc, hr, by omega⟩
   simp only [dioramaref02_trimmed.l0, hw, rd_nat]
   rw [if_pos (by omega), if_pos (by omega), if_pos (by omega), if_pos hz]
  ·refine ⟨l.take (n + 1), Ev.step (f := fun _ => some (l.take (n + 1))) (fun k => ?_) (Ev.now _), ⟨hd.take _, top_of_getD ?_⟩, hv, by simp; omega⟩
   ·simp only [dioramaref02_trimmed.l0, hw, rd_nat]
    rw [if_pos (by omega), if_pos (by omega), if_pos (by omega), if_neg hz, if_pos (by omega), if_pos (by omega), Int.toNat_natCast]
   ·rw [List.length_take, Nat.min_eq_left (by omega)]
    simp only [Nat.add_sub_cancel]
    rw [List.getD_eq_getElem?_getD, List.getElem?_take_of_lt (by omega), ← List.getD_eq_getElem?_getD]
    exact hz
theorem trimmed_f (l : List Int) (hd : Dg 1000000000 l) (hl : l.length ≤ 1000000) : ∃ r, Ev (fun k => dioramaref02_trimmed.f k l) r ∧ Nn r ∧ dv 1000000000 r = dv 1000000000 l ∧ r.length ≤ l.length :=
 trimmed_l l hd hl l.length (Nat.le_refl _) (by rw [List.take_length])
theorem cmp1 {x y : Int} (h : x < y) : Nd.cmpI x y = -1 := by unfold Nd.cmpI; rw [if_pos h]
theorem cmp2 {x y : Int} (h : y < x) : Nd.cmpI x y = 1 := by unfold Nd.cmpI; rw [if_neg (by omega), if_pos h]
theorem cmp0 {x y : Int} (h : x = y) : Nd.cmpI x y = 0 := by unfold Nd.cmpI; rw [if_neg (by omega), if_neg (by omega)]
theorem compare_l (a b : List Int) (ha : Dg 1000000000 a) (hb : Dg 1000000000 b) (hl : a.length = b.length) (hn : a.length ≤ 1000000) : ∀ i : Nat, i ≤ a.length → dv 1000000000 (a.drop i) = dv 1000000000 (b.drop i) →
  Ev (fun k => dioramaref02_Compare.l0 k a b ((i : Int) - 1)) (Nd.cmpI (dv 1000000000 a) (dv 1000000000 b)) := by
 intro i
 induction i with
 | zero =>
  intro _ h
  refine Ev.step (f := fun _ => some 0) (fun k => ?_) (by rw [cmp0 (by simpa using h)]; exact Ev.now _)
  simp [dioramaref02_Compare.l0]
 | succ i ih =>
  intro hi h
  have e : (((i + 1 : Nat) : Int) - 1) = (i : Int) := by omega
  have hw : wrap64 ((i : Int) - 1) = (i : Int) - 1 := w64 (by omega) (by omega)
  rw [e]
  rcases Int.lt_trichotomy (a.getD i 0) (b.getD i 0) with h1 | h1 | h1
  ·rw [cmp1 (dv_less (by decide) ha hb hl i (by omega) h h1)]
   refine Ev.step (f := fun _ => some (-1)) (fun k => ?_) (Ev.now _)
   simp only [dioramaref02_Compare.l0, rd_nat]
   rw [if_pos (by omega), if_pos (by omega), if_pos (by omega), if_pos (by omega), if_pos h1]
  ·refine Ev.step (fun k => ?_) (ih (by omega) (by rw [dv_drop _ a i (by omega), dv_drop _ b i (by omega), h1, h]))
   simp only [dioramaref02_Compare.l0, rd_nat, hw]
   rw [if_pos (by omega), if_pos (by omega), if_pos (by omega), if_pos (by omega), if_neg (by omega), if_neg (by omega)]
  ·rw [cmp2 (dv_less (by decide) hb ha hl.symm i (by omega) h.symm h1)]
   refine Ev.step (f := fun _ => some 1) (fun k => ?_) (Ev.now _)
   simp only [dioramaref02_Compare.l0, rd_nat]
   rw [if_pos (by omega), if_pos (by omega), if_pos (by omega), if_pos (by omega), if_neg (by omega), if_pos h1]
theorem compare_f (a b : List Int) (ha : Nn a) (hb : Nn b) (hn : a.length ≤ 1000000) (hm : b.length ≤ 1000000) : Ev (fun k => dioramaref02_Compare.f k a b) (Nd.cmpI (dv 1000000000 a) (dv 1000000000 b)) := by
 by_cases hl : a.length = b.length
 ·have h := compare_l a b ha.dg hb.dg hl hn a.length (Nat.le_refl _) (by rw [List.drop_of_length_le (Nat.le_refl _), List.drop_of_length_le (by omega)])
  refine Ev.congr (fun k => ?_) h
  simp only [dioramaref02_Compare.f]
  rw [if_pos (by omega), w64 (by omega) (by omega)]
 ·by_cases h1 : a.length < b.length
  ·rw [cmp1 (dv_len (by decide) ha.dg hb h1)]
   refine Ev.congr (f := fun _ => some (-1)) (fun k => ?_) (Ev.now _)
   simp only [dioramaref02_Compare.f]
   rw [if_neg (by omega), if_pos (by omega)]
  ·rw [cmp2 (dv_len (by decide) hb.dg ha (by omega))]
   refine Ev.congr (f := fun _ => some 1) (fun k => ?_) (Ev.now _)
   simp only [dioramaref02_Compare.f]
   rw [if_neg (by omega), if_neg (by omega)]
end Go.Proofs.Ytpbhepdgamoiaaa.Pa
namespace Go.Proofs.Ytpbhepdgamoiaaa.Pb
open Go.RowKit Go.Proofs.Ytpbhepdgamoiaaa.P Go.Proofs.Ytpbhepdgamoiaaa.E Go.Proofs.YtpbhepdgamoiaaaW.PrintWords Go.Proofs.YtpbhepdgamoiaaaW.PrintLast Go.Proofs.Ytpbhepdgamoiaaa.Ml Go.Proofs.Ytpbhepdgamoiaaa.Mn Go.Proofs.Ytpbhepdgamoiaaa.Pa
set_option linter.unusedVariables false
set_option linter.unusedSimpArgs false
theorem nv_take_all {l : List Int} {n : Nat} (h : l.length ≤ n) : dv 1000000000 (l.take n) = dv 1000000000 l := by rw [List.take_of_length_le h]
theorem dg_snoc {l : List Int} {x : Int} (h : Dg 1000000000 l) (h0 : 0 ≤ x) (h1 : x < 1000000000) : Dg 1000000000 (l ++ [x]) := h.append (Dg.cons h0 h1 (Dg.nil _))
theorem w1 {i : Nat} (h : i ≤ 10000000) : wrap64 ((i : Int) + 1) = ((i + 1 : Nat) : Int) := by rw [w64 (by omega) (by omega)]; omega
theorem minus_l (a b : List Int) (ha : Dg 1000000000 a) (hb : Dg 1000000000 b) (hn : a.length ≤ 1000000) (hlb : b.length ≤ a.length) (hle : dv 1000000000 b ≤ dv 1000000000 a) :
  ∀ (d i : Nat) (out : List Int) (c : Int), i + d = a.length → out.length = i → Dg 1000000000 out → 0 ≤ c → c ≤ 1 → dv 1000000000 out = dv 1000000000 (a.take i) - dv 1000000000 (b.take i) + c * pw 1000000000 i →
  ∃ r, Ev (fun k => dioramaref02_Minus.l0 k a b out c (i : Int)) r ∧ Nn r ∧ dv 1000000000 r = dv 1000000000 a - dv 1000000000 b ∧ r.length ≤ a.length := by
 intro d
 induction d with
 | zero =>
  intro i out c hi hl hd h0 h1 hv
  obtain ⟨r, he, hc, hr, hlr⟩ := trimmed_f out hd (by omega)
  have hlt := dv_lt (by decide) hd
  rw [hl] at hlt
  rw [nv_take_all (by omega), nv_take_all (by omega)] at hv
  have c0 : c = 0 := by
   rcases (show c = 0 ∨ c = 1 by omega) with h | h
   ·exact h
   ·rw [h] at hv
    omega
  refine ⟨r, Ev.step (f := fun k => (dioramaref02_trimmed.f k out).bind fun t => some t) (fun k => ?_) (Ev.bind he (Ev.now _)), hc, by rw [hr, hv, c0]; omega, by omega⟩
  simp only [dioramaref02_Minus.l0]
  rw [if_neg (by omega)]
 | succ d ih =>
  intro i out c hi hl hd h0 h1 hv
  have hx := ha.getD (by decide) i
  have hy := hb.getD (by decide) i
  have e1 := dv_take_succ' 1000000000 a i
  have e2 := dv_take_succ' 1000000000 b i
  have e3 := pw_succ 1000000000 i
  generalize hxv : a.getD i 0 = x at *
  generalize hyv : b.getD i 0 = y at *
  have hw : wrap64 (wrap64 (x - y) - c) = x - y - c := by rw [w64 (x := x - y) (by omega) (by omega), w64 (by omega) (by omega)]
  have hw2 : wrap64 (x - y - c + 1000000000) = x - y - c + 1000000000 := w64 (by omega) (by omega)
  by_cases hneg : x - y - c < 0
  ·obtain ⟨r, he, h⟩ := ih (i + 1) (out ++ [x - y - c + 1000000000]) 1 (by omega) (by simp [hl]) (dg_snoc hd (by omega) (by omega)) (by decide) (by decide) (by
    rw [dv_snoc, hl, hv, e1, e2, e3]
    grind)
   refine ⟨r, Ev.step (fun k => ?_) he, h⟩
   simp only [dioramaref02_Minus.l0]
   rw [if_pos (by omega), digit_f, digit_f, hxv, hyv]
   simp only [Option.bind_some, hw, hw2]
   rw [if_pos hneg, if_pos (by omega), w1 (by omega)]
  ·obtain ⟨r, he, h⟩ := ih (i + 1) (out ++ [x - y - c]) 0 (by omega) (by simp [hl]) (dg_snoc hd (by omega) (by omega)) (by decide) (by decide) (by
    rw [dv_snoc, hl, hv, e1, e2]
    grind)
   refine ⟨r, Ev.step (fun k => ?_) he, h⟩
   simp only [dioramaref02_Minus.l0]
   rw [if_pos (by omega), digit_f, digit_f, hxv, hyv]
   simp only [Option.bind_some, hw, hw2]
   rw [if_neg hneg, if_pos (by omega), w1 (by omega)]
theorem len_le {a b : List Int} (ha : Nn a) (hb : Nn b) (h : dv 1000000000 b ≤ dv 1000000000 a) : b.length ≤ a.length := by
 refine Nat.le_of_not_lt fun hl => ?_
 have := dv_len (by decide) ha.dg hb hl
 omega
theorem minus_f (a b : List Int) (ha : Nn a) (hb : Nn b) (hn : a.length ≤ 1000000) (hle : dv 1000000000 b ≤ dv 1000000000 a) : ∃ r, Ev (fun k => dioramaref02_Minus.f k a b) r ∧ Nn r ∧ dv 1000000000 r = dv 1000000000 a - dv 1000000000 b ∧ r.length ≤ a.length :=
 minus_l a b ha.dg hb.dg hn (len_le ha hb hle) hle a.length 0 [] 0 (by omega) rfl (Dg.nil _) (by decide) (by decide) (by simp [dv])
theorem plus_l (a b : List Int) (ha : Nn a) (hb : Nn b) (hn : a.length ≤ 1000000) (hm : b.length ≤ 1000000) :
  ∀ (d i : Nat) (out : List Int) (c : Int), i + d = max a.length b.length + 1 → out.length = i → Dg 1000000000 out → 0 ≤ c → c ≤ 1 → (i ≤ max a.length b.length ∨ c = 0) → (i < a.length ∨ i < b.length ∨ 0 < c ∨ Top out) → dv 1000000000 out = dv 1000000000 (a.take i) + dv 1000000000 (b.take i) - c * pw 1000000000 i →
  ∃ r, Ev (fun k => dioramaref02_Plus.l0 k a b out c (i : Int)) r ∧ Nn r ∧ dv 1000000000 r = dv 1000000000 a + dv 1000000000 b ∧ r.length ≤ max a.length b.length + 1 := by
 intro d
 induction d with
 | zero =>
  intro i out c hi hl hd h0 h1 hic ht hv
  have c0 : c = 0 := by omega
  subst c0
  rw [nv_take_all (by omega), nv_take_all (by omega)] at hv
  refine ⟨out, Ev.step (f := fun k => dioramaref02_Plus.j1 k a b out 0 (i : Int) (decide ((0 : Int) > 0))) (fun k => ?_) (Ev.step (f := fun _ => some out) (fun k => ?_) (Ev.now _)), ⟨hd, ?_⟩, by rw [hv]; omega, by omega⟩
  ·simp only [dioramaref02_Plus.l0]
   rw [if_neg (by omega), if_neg (by omega)]
  ·simp [dioramaref02_Plus.j1]
  ·rcases ht with h | h | h | h
   ·omega
   ·omega
   ·omega
   ·exact h
 | succ d ih =>
  intro i out c hi hl hd h0 h1 hic ht hv
  by_cases hgo : i < a.length ∨ i < b.length ∨ 0 < c
  ·have hx := ha.dg.getD (by decide) i
   have hy := hb.dg.getD (by decide) i
   have e1 := dv_take_succ' 1000000000 a i
   have e2 := dv_take_succ' 1000000000 b i
   have e3 := pw_succ 1000000000 i
   have zx : a.length ≤ i → a.getD i 0 = 0 := fun h => getD_ge h
   have zy : b.length ≤ i → b.getD i 0 = 0 := fun h => getD_ge h
   have tx : i + 1 = a.length → a.getD i 0 ≠ 0 := fun h => by have := top_getD ha.top (by omega); rwa [← h, Nat.add_sub_cancel] at this
   have ty : i + 1 = b.length → b.getD i 0 ≠ 0 := fun h => by have := top_getD hb.top (by omega); rwa [← h, Nat.add_sub_cancel] at this
   generalize hxv : a.getD i 0 = x at *
   generalize hyv : b.getD i 0 = y at *
   have hw : wrap64 (wrap64 (x + y) + c) = x + y + c := by rw [w64 (x := x + y) (by omega) (by omega), w64 (by omega) (by omega)]
   have hw2 : wrap64 ((x + y + c) / 1000000000) = (x + y + c) / 1000000000 := w64 (by omega) (by omega)
   obtain ⟨r, he, h⟩ := ih (i + 1) (out ++ [(x + y + c) % 1000000000]) ((x + y + c) / 1000000000) (by omega) (by simp [hl]) (dg_snoc hd (by omega) (by omega)) (by omega) (by omega)
    (by
     by_cases hmx : i < max a.length b.length
     ·left; omega
     ·right
      rw [zx (by omega), zy (by omega)]
      omega)
    (by
     by_cases g1 : i + 1 < a.length
     ·exact .inl g1
     ·by_cases g2 : i + 1 < b.length
      ·exact .inr (.inl g2)
      ·by_cases g3 : 0 < (x + y + c) / 1000000000
       ·exact .inr (.inr (.inl g3))
       ·refine .inr (.inr (.inr (top_of_getD ?_)))
        have hne : (x + y + c) % 1000000000 ≠ 0 := by
         rcases hgo with g | g | g
         ·have := tx (by omega); omega
         ·have := ty (by omega); omega
         ·omega
        simp only [List.length_append, List.length_singleton, Nat.add_sub_cancel]
        rw [List.getD_eq_getElem?_getD, List.getElem?_append_right (Nat.le_refl _)]
        simpa using hne)
    (by
     rw [dv_snoc, hl, hv, e1, e2, e3]
     have hdm := Int.mul_ediv_add_emod (x + y + c) 1000000000
     generalize (x + y + c) / 1000000000 = Q at *
     generalize (x + y + c) % 1000000000 = R at *
     have : R = x + y + c - 1000000000 * Q := by omega
     subst this
     grind)
   refine ⟨r, ?_, h⟩
   have hj : Ev (fun k => dioramaref02_Plus.j1 k a b out c (i : Int) true) r := by
    refine Ev.step (fun k => ?_) he
    simp only [dioramaref02_Plus.j1, if_true]
    rw [digit_f, digit_f, hxv, hyv]
    simp only [Option.bind_some, hw]
    rw [if_pos (by omega), tmodB (by omega), tdivB (by omega), hw2, w1 (by omega)]
   refine Ev.step (fun k => ?_) hj
   simp only [dioramaref02_Plus.l0]
   by_cases g1 : i < a.length
   ·rw [if_pos (by omega)]
   ·rw [if_neg (by omega)]
    by_cases g2 : i < b.length
    ·rw [if_pos (by omega)]
    ·rw [if_neg (by omega), decide_eq_true (show c > 0 by omega)]
  ·have c0 : c = 0 := by omega
   subst c0
   rw [nv_take_all (by omega), nv_take_all (by omega)] at hv
   refine ⟨out, Ev.step (f := fun k => dioramaref02_Plus.j1 k a b out 0 (i : Int) (decide ((0 : Int) > 0))) (fun k => ?_) (Ev.step (f := fun _ => some out) (fun k => ?_) (Ev.now _)), ⟨hd, ?_⟩, by rw [hv]; omega, by omega⟩
   ·simp only [dioramaref02_Plus.l0]
    rw [if_neg (by omega), if_neg (by omega)]
   ·simp [dioramaref02_Plus.j1]
   ·rcases ht with h | h | h | h
    ·omega
    ·omega
    ·omega
    ·exact h
theorem plus_f (a b : List Int) (ha : Nn a) (hb : Nn b) (hn : a.length ≤ 1000000) (hm : b.length ≤ 1000000) : ∃ r, Ev (fun k => dioramaref02_Plus.f k a b) r ∧ Nn r ∧ dv 1000000000 r = dv 1000000000 a + dv 1000000000 b ∧ r.length ≤ max a.length b.length + 1 :=
 plus_l a b ha hb hn hm (max a.length b.length + 1) 0 [] 0 (by omega) rfl (Dg.nil _) (by decide) (by decide) (.inr rfl) (.inr (.inr (.inr (fun h => absurd rfl h)))) (by simp [dv])
theorem mulB {c x y o : Int} (hc0 : 0 ≤ c) (hc1 : c < 1000000000) (hx0 : 0 ≤ x) (hx1 : x < 1000000000) (hy0 : 0 ≤ y) (hy1 : y < 1000000000) (ho0 : 0 ≤ o) (ho1 : o < 1000000000) :
  wrap64 (wrap64 (o + wrap64 (x * y)) + c) = o + x * y + c ∧ 0 ≤ o + x * y + c ∧ wrap64 (Int.tdiv (o + x * y + c) 1000000000) = (o + x * y + c) / 1000000000 ∧ (o + x * y + c) / 1000000000 < 1000000000 := by
 obtain ⟨h1, h2⟩ := mul_lt_sq hx0 hx1 hy0 hy1
 have h2' : x * y ≤ 999999998000000001 := h2
 rw [w64 (x := x * y) (by omega) (by omega), w64 (x := o + x * y) (by omega) (by omega), w64 (x := o + x * y + c) (by omega) (by omega), tdivB (by omega), w64 (by omega) (by omega)]
 refine ⟨rfl, by omega, rfl, by omega⟩
set_option maxHeartbeats 1000000 in
theorem times_l1 (a b : List Int) (i : Nat) (x : Int) (hx : a.getD i 0 = x) (hi : i < a.length) (hb : Dg 1000000000 b) (hx0 : 0 ≤ x) (hx1 : x < 1000000000) (hn : a.length + b.length ≤ 1000000) :
  ∀ (d j : Nat) (out : List Int) (c : Int), j + d = b.length → Dg 1000000000 out → out.length = a.length + b.length → 0 ≤ c → c < 1000000000 → (∀ m, i + b.length ≤ m → out.getD m 0 = 0) →
  ∃ out', (∀ r, Ev (fun k => dioramaref02_Times.l0 k a b out' ((i + 1 : Nat) : Int)) r → Ev (fun k => dioramaref02_Times.l1 k a b out (i : Int) c (j : Int)) r) ∧ out'.length = a.length + b.length ∧ Dg 1000000000 out' ∧
   dv 1000000000 out' = dv 1000000000 out + c * pw 1000000000 (i + j) + x * dv 1000000000 (b.drop j) * pw 1000000000 (i + j) ∧ ∀ m, i + 1 + b.length ≤ m → out'.getD m 0 = 0 := by
 intro d
 induction d with
 | zero =>
  intro j out c hj hd hl h0 h1 hz
  obtain rfl : j = b.length := by omega
  have hend : ∀ (out : List Int) (j : Nat) r, b.length ≤ j → Ev (fun k => dioramaref02_Times.l0 k a b out ((i + 1 : Nat) : Int)) r → Ev (fun k => dioramaref02_Times.l1 k a b out (i : Int) 0 (j : Int)) r := by
   intro out j r hj he
   refine Ev.step (fun k => ?_) he
   simp only [dioramaref02_Times.l1]
   rw [if_neg (by omega), if_neg (by omega), w1 (by omega)]
  rw [List.drop_of_length_le (Nat.le_refl _)]
  by_cases hc : c = 0
  ·subst hc
   exact ⟨out, fun r he => hend out _ r (Nat.le_refl _) he, hl, hd, by simp [dv], fun m hm => hz m (by omega)⟩
  ·refine ⟨out.set (i + b.length) c, fun r he => ?_, by simp [hl], hd.set _ h0 h1, ?_, fun m hm => by rw [getD_set (by omega)]; exact hz m (by omega)⟩
   ·have h2 := hend (out.set (i + b.length) c) (b.length + 1) r (by omega) he
    refine Ev.step (fun k => ?_) h2
    have hw : wrap64 ((i : Int) + (b.length : Int)) = ((i + b.length : Nat) : Int) := by rw [w64 (by omega) (by omega)]; omega
    obtain ⟨g1, g2, g3, g4⟩ := mulB (o := 0) (y := 0) h0 h1 hx0 hx1 (by decide) (by decide) (by decide) (by decide)
    have e0 : (0 : Int) + x * 0 + c = c := by omega
    rw [e0] at g1 g3
    simp only [dioramaref02_Times.l1, hw, rd_nat, hx, Int.toNat_natCast]
    rw [if_neg (by omega), if_pos (by omega), if_pos (by omega), if_pos (by omega), if_pos (by omega), if_pos (by omega), digit_f, getD_ge (Nat.le_refl _), hz _ (Nat.le_refl _)]
    simp only [Option.bind_some, g1, g3]
    rw [tmodB h0, Int.emod_eq_of_lt h0 h1, Int.ediv_eq_zero_of_lt h0 h1, w1 (by omega)]
   ·rw [dv_set _ _ _ _ (by omega), hz _ (Nat.le_refl _)]
    simp [dv]
 | succ d ih =>
  intro j out c hj hd hl h0 h1 hz
  have hy := hb.getD (by decide) j
  have ho := hd.getD (by decide) (i + j)
  have c1 : (j : Int) < (b.length : Int) := by omega
  have c2 : 0 ≤ ((i + j : Nat) : Int) := by omega
  have c3 : ((i + j : Nat) : Int) < (out.length : Int) := by omega
  have c4 : 0 ≤ (i : Int) := by omega
  have c5 : (i : Int) < (a.length : Int) := by omega
  have c6 : i + j < out.length := by omega
  have c7 : j < b.length := by omega
  have hw : wrap64 ((i : Int) + (j : Int)) = ((i + j : Nat) : Int) := by rw [w64 (by omega) (by omega)]; omega
  have hw1 := w1 (i := j) (by omega)
  have HW := Aside0.mk (And.intro hw hw1)
  clear hw hw1
  generalize hyv : b.getD j 0 = y at *
  generalize hov : out.getD (i + j) 0 = o at *
  obtain ⟨g1, g2, g3, g4⟩ := mulB h0 h1 hx0 hx1 hy.1 hy.2 ho.1 ho.2
  have gm := Int.mul_ediv_add_emod (o + x * y + c) 1000000000
  have gr0 := Int.emod_nonneg (o + x * y + c) (show (1000000000 : Int) ≠ 0 by decide)
  have gr1 := Int.emod_lt_of_pos (o + x * y + c) (show (0 : Int) < 1000000000 by decide)
  have gq0 : 0 ≤ (o + x * y + c) / 1000000000 := Int.ediv_nonneg g2 (by decide)
  have gt := tmodB g2
  generalize (o + x * y + c) / 1000000000 = q at *
  generalize (o + x * y + c) % 1000000000 = r' at *
  have hs : r' + 1000000000 * q = c + (x * y + o) := by clear g1 g3 gt; omega
  have HG := Aside0.mk (And.intro g1 (And.intro g3 gt))
  clear g1 g3 gt gm
  obtain ⟨out', k1, k2, k3, k4, k5⟩ := ih (j + 1) (out.set (i + j) r') q (by omega) (hd.set _ gr0 gr1) (by simp [hl]) gq0 g4 (fun m hm => by rw [getD_set (by omega)]; exact hz m hm)
  refine ⟨out', fun r he => ?_, k2, k3, ?_, k5⟩
  ·refine Ev.step (fun k => ?_) (k1 r he)
   simp only [dioramaref02_Times.l1, HW.out.1, rd_nat, hx, Int.toNat_natCast]
   rw [if_pos c1, if_pos c2, if_pos c3, if_pos c4, if_pos c5, digit_f, hyv, hov]
   simp only [Option.bind_some, HG.out.1, HG.out.2.1, HG.out.2.2, HW.out.2]
  ·rw [k4, dv_set _ _ _ _ c6, hov, dv_drop 1000000000 b j c7, hyv, ← Nat.add_assoc, pw_succ]
   exact (mul_step hs).symm
theorem times_l0 (a b : List Int) (ha : Dg 1000000000 a) (hb : Dg 1000000000 b) (hn : a.length + b.length ≤ 1000000) :
  ∀ (d i : Nat) (out : List Int), i + d = a.length → Dg 1000000000 out → out.length = a.length + b.length → dv 1000000000 out = dv 1000000000 (a.take i) * dv 1000000000 b → (∀ m, i + b.length ≤ m → out.getD m 0 = 0) →
  ∃ r, Ev (fun k => dioramaref02_Times.l0 k a b out (i : Int)) r ∧ Nn r ∧ dv 1000000000 r = dv 1000000000 a * dv 1000000000 b ∧ r.length ≤ a.length + b.length := by
 intro d
 induction d with
 | zero =>
  intro i out hi hd hl hv hz
  obtain ⟨r, he, hc, hr, hlr⟩ := trimmed_f out hd (by omega)
  refine ⟨r, Ev.step (f := fun k => (dioramaref02_trimmed.f k out).bind fun t => some t) (fun k => ?_) (Ev.bind he (Ev.now _)), hc, by rw [hr, hv, nv_take_all (by omega)], by omega⟩
  simp only [dioramaref02_Times.l0]
  rw [if_neg (by omega)]
 | succ d ih =>
  intro i out hi hd hl hv hz
  have hx := ha.getD (by decide) i
  obtain ⟨out', k1, k2, k3, k4, k5⟩ := times_l1 a b i (a.getD i 0) rfl (by omega) hb hx.1 hx.2 hn b.length 0 out 0 (by omega) hd hl (by decide) (by decide) hz
  obtain ⟨r, he, h⟩ := ih (i + 1) out' (by omega) k3 k2 (by
   rw [k4, hv, dv_take_succ' _ a i]
   simp only [List.drop_zero, Nat.add_zero]
   grind) (fun m hm => k5 m (by omega))
  refine ⟨r, Ev.step (fun k => ?_) (k1 r he), h⟩
  simp only [dioramaref02_Times.l0]
  rw [if_pos (by omega)]
  rfl
theorem times_f (a b : List Int) (ha : Nn a) (hb : Nn b) (hn : a.length + b.length ≤ 1000000) : ∃ r, Ev (fun k => dioramaref02_Times.f k a b) r ∧ Nn r ∧ dv 1000000000 r = dv 1000000000 a * dv 1000000000 b ∧ r.length ≤ a.length + b.length := by
 have e1 : wrap64 ((a.length : Int) + (b.length : Int)) = ((a.length + b.length : Nat) : Int) := by rw [w64 (by omega) (by omega)]; omega
 obtain ⟨r, he, h⟩ := times_l0 a b ha.dg hb.dg hn a.length 0 (List.replicate (a.length + b.length) 0) (by omega) (Dg.replicate (by decide) _) (by simp) (by rw [dv_replicate]; simp [dv]) (fun m _ => by
  rw [List.getD_eq_getElem?_getD, List.getElem?_replicate]
  split <;> rfl)
 refine ⟨r, Ev.congr (fun k => ?_) he, h⟩
 simp only [dioramaref02_Times.f, e1, Int.toNat_natCast]
 rw [if_pos (by omega), if_pos (by omega)]
 rfl
theorem drop_le (l : List Int) (hd : Dg 1000000000 l) (i : Nat) : dv 1000000000 (l.drop i) ≤ dv 1000000000 l ∧ 0 ≤ dv 1000000000 (l.drop i) := by
 have h0 := dv_nonneg (by decide) (hd.drop i)
 refine ⟨?_, h0⟩
 by_cases hi : i ≤ l.length
 ·have h1 := dv_split 1000000000 l i hi
  have h2 := dv_nonneg (by decide) (hd.take i)
  have h3 : 0 < pw 1000000000 i := pow_pos (by decide) i
  have h4 : 1 * dv 1000000000 (l.drop i) ≤ pw 1000000000 i * dv 1000000000 (l.drop i) := Int.mul_le_mul_of_nonneg_right (by omega) h0
  omega
 ·rw [List.drop_of_length_le (by omega)]
  exact dv_nonneg (by decide) hd
theorem small_l (l : List Int) (hd : Dg 1000000000 l) (hn : l.length ≤ 1000000) (hs : dv 1000000000 l ≤ 9223372036854775807) : ∀ i : Nat, i ≤ l.length → Ev (fun k => dioramaref02_Small.l0 k l (dv 1000000000 (l.drop i)) ((i : Int) - 1)) (dv 1000000000 l, true) := by
 intro i
 induction i with
 | zero =>
  intro _
  refine Ev.step (f := fun _ => some (dv 1000000000 l, true)) (fun k => ?_) (Ev.now _)
  simp [dioramaref02_Small.l0]
 | succ i ih =>
  intro hi
  have e : (((i + 1 : Nat) : Int) - 1) = (i : Int) := by omega
  have h1 := dv_drop 1000000000 l i (by omega)
  have h2 := drop_le l hd i
  have h3 := drop_le l hd (i + 1)
  have hx := hd.getD (by decide) i
  rw [e]
  refine Ev.step (fun k => ?_) (ih (by omega))
  simp only [dioramaref02_Small.l0, rd_nat]
  rw [if_pos (by omega), if_pos (by omega), if_pos (by omega), w64 (x := _ * 1000000000) (by omega) (by omega), w64 (x := _ + _) (by omega) (by omega), w64 (x := (i : Int) - 1) (by omega) (by omega), h1]
  congr 1
  omega
theorem small_f (l : List Int) (most : Int) (hl : Nn l) (hn : l.length ≤ 1000000) (h0 : 0 ≤ most) (h1 : most ≤ 9223372036854775807) : Ev (fun k => dioramaref02_Small.f k l most) (if most < dv 1000000000 l then (0, false) else (dv 1000000000 l, true)) := by
 obtain ⟨r, he, hr, hv, hlr⟩ := of_f most h0 h1
 have hc := compare_f l r hl hr hn (by omega)
 rw [hv] at hc
 by_cases hb : most < dv 1000000000 l
 ·rw [if_pos hb]
  rw [cmp2 hb] at hc
  exact Ev.bind he (Ev.bind hc (Ev.congr (f := fun _ => some (0, false)) (fun k => by simp) (Ev.now _)))
 ·rw [if_neg hb]
  have hle : ¬ (Nd.cmpI (dv 1000000000 l) most > 0) := by
   unfold Nd.cmpI
   by_cases h2 : dv 1000000000 l < most
   ·rw [if_pos h2]; decide
   ·rw [if_neg h2, if_neg hb]; decide
  have h2 := small_l l hl.dg hn (by omega) l.length (Nat.le_refl _)
  rw [List.drop_of_length_le (Nat.le_refl _)] at h2
  refine Ev.bind he (Ev.bind hc (Ev.congr (fun k => ?_) h2))
  rw [if_neg hle, w64 (by omega) (by omega)]
  rfl
end Go.Proofs.Ytpbhepdgamoiaaa.Pb
namespace Go.Proofs.Ytpbhepdgamoiaaa.Pc
open Go.RowKit Go.Proofs.Ytpbhepdgamoiaaa.P Go.Proofs.Ytpbhepdgamoiaaa.E Go.Proofs.YtpbhepdgamoiaaaW.PrintWords Go.Proofs.YtpbhepdgamoiaaaW.PrintLast Go.Proofs.Ytpbhepdgamoiaaa.Ml Go.Proofs.Ytpbhepdgamoiaaa.Mn Go.Proofs.Ytpbhepdgamoiaaa.Pa Go.Proofs.Ytpbhepdgamoiaaa.Pb
set_option linter.unusedVariables false
set_option linter.unusedSimpArgs false
theorem drop_set' {l : List Int} {i : Nat} {v : Int} : (l.set i v).drop (i + 1) = l.drop (i + 1) := by
 rw [List.drop_set]
 simp
theorem over_l1 (a b q rest : List Int) (i : Nat) (hb : Nn b) (hr : Nn rest) (hi : i < q.length) (hq : q.length ≤ 1000000) (hlb : b.length ≤ 100000) (hlr : rest.length ≤ 200000) (hbp : 0 < dv 1000000000 b) :
  ∀ (m : Nat) (low high : Int), high - low ≤ m → 0 ≤ low → low ≤ high → high ≤ 999999999 → low * dv 1000000000 b ≤ dv 1000000000 rest → dv 1000000000 rest < (high + 1) * dv 1000000000 b →
  ∃ t rest', 0 ≤ t ∧ t < 1000000000 ∧ Nn rest' ∧ dv 1000000000 rest = t * dv 1000000000 b + dv 1000000000 rest' ∧ dv 1000000000 rest' < dv 1000000000 b ∧ (∀ r, Ev (fun k => dioramaref02_Over.l0 k a b (q.set i t) rest' ((i : Int) - 1)) r → Ev (fun k => dioramaref02_Over.l1 k a b q rest (i : Int) low high) r) := by
 intro m
 induction m with
 | zero =>
  intro low high hm h0 h1 h2 hlo hhi
  obtain rfl : low = high := by omega
  obtain ⟨o, eo, ho, vo, lo⟩ := of_f low h0 (by omega)
  obtain ⟨p, ep, hp, vp, lp⟩ := times_f b o hb ho (by omega)
  have e1 : dv 1000000000 p = low * dv 1000000000 b := by rw [vp, vo, Int.mul_comm]
  obtain ⟨s, es, hs, vs, ls⟩ := minus_f rest p hr hp (by omega) (by omega)
  have e2 : (low + 1) * dv 1000000000 b = low * dv 1000000000 b + dv 1000000000 b := by rw [Int.add_mul]; omega
  refine ⟨low, s, h0, by omega, hs, by omega, by omega, fun r he => ?_⟩
  refine Ev.step (f := fun k => (dioramaref02_Of.f k low).bind fun t197 => ((dioramaref02_Times.f k b t197).bind fun t200 => ((dioramaref02_Minus.f k rest t200).bind fun t203 => (dioramaref02_Over.l0 k a b (q.set i low) t203 ((i : Int) - 1))))) (fun k => ?_) (Ev.bind eo (Ev.bind ep (Ev.bind es he)))
  simp only [dioramaref02_Over.l1, Int.toNat_natCast]
  rw [if_neg (by omega), if_pos (by omega), if_pos (by omega), w64 (by omega) (by omega)]
 | succ m ih =>
  intro low high hm h0 h1 h2 hlo hhi
  by_cases hlt : low < high
  ·have hmid : wrap64 (Int.tdiv (wrap64 (wrap64 (low + high) + 1)) 2) = (low + high + 1) / 2 := by
    rw [w64 (x := low + high) (by omega) (by omega), w64 (x := low + high + 1) (by omega) (by omega), Int.tdiv_eq_ediv_of_nonneg (by omega), w64 (by omega) (by omega)]
   have hm1 : low < (low + high + 1) / 2 := by omega
   have hm2 : (low + high + 1) / 2 ≤ high := by omega
   generalize (low + high + 1) / 2 = mid at *
   obtain ⟨o, eo, ho, vo, lo⟩ := of_f mid (by omega) (by omega)
   obtain ⟨p, ep, hp, vp, lp⟩ := times_f b o hb ho (by omega)
   have e1 : dv 1000000000 p = mid * dv 1000000000 b := by rw [vp, vo, Int.mul_comm]
   have ec := compare_f p rest hp hr (by omega) (by omega)
   rw [e1] at ec
   by_cases hc : mid * dv 1000000000 b ≤ dv 1000000000 rest
   ·obtain ⟨t, rest', g1, g2, g3, g4, g5, g6⟩ := ih mid high (by omega) (by omega) hm2 h2 hc hhi
    have hle : Nd.cmpI (mid * dv 1000000000 b) (dv 1000000000 rest) ≤ 0 := by
     unfold Nd.cmpI
     by_cases h2 : mid * dv 1000000000 b < dv 1000000000 rest
     ·rw [if_pos h2]; decide
     ·rw [if_neg h2, if_neg (by omega)]; decide
    refine ⟨t, rest', g1, g2, g3, g4, g5, fun r he => ?_⟩
    refine Ev.step (f := fun k => (dioramaref02_Of.f k mid).bind fun t206 => ((dioramaref02_Times.f k b t206).bind fun t209 => ((dioramaref02_Compare.f k t209 rest).bind fun t212 => (if t212 ≤ 0 then (dioramaref02_Over.l1 k a b q rest (i : Int) mid high) else (dioramaref02_Over.l1 k a b q rest (i : Int) low (wrap64 (mid - 1))))))) (fun k => ?_) (Ev.bind eo (Ev.bind ep (Ev.bind ec (Ev.congr (fun k => ?_) (g6 r he)))))
    ·simp only [dioramaref02_Over.l1, hmid]
     rw [if_pos hlt]
    ·rw [if_pos hle]
   ·have hw : wrap64 (mid - 1) = mid - 1 := w64 (by omega) (by omega)
    obtain ⟨t, rest', g1, g2, g3, g4, g5, g6⟩ := ih low (mid - 1) (by omega) h0 (by omega) (by omega) hlo (by rw [Int.sub_add_cancel]; omega)
    have hle : ¬ Nd.cmpI (mid * dv 1000000000 b) (dv 1000000000 rest) ≤ 0 := by
     rw [cmp2 (by omega)]; decide
    refine ⟨t, rest', g1, g2, g3, g4, g5, fun r he => ?_⟩
    refine Ev.step (f := fun k => (dioramaref02_Of.f k mid).bind fun t206 => ((dioramaref02_Times.f k b t206).bind fun t209 => ((dioramaref02_Compare.f k t209 rest).bind fun t212 => (if t212 ≤ 0 then (dioramaref02_Over.l1 k a b q rest (i : Int) mid high) else (dioramaref02_Over.l1 k a b q rest (i : Int) low (wrap64 (mid - 1))))))) (fun k => ?_) (Ev.bind eo (Ev.bind ep (Ev.bind ec (Ev.congr (fun k => ?_) (g6 r he)))))
    ·simp only [dioramaref02_Over.l1, hmid]
     rw [if_pos hlt]
    ·rw [if_neg hle, hw]
  ·exact ih low high (by omega) h0 h1 h2 hlo hhi
theorem over_l0 (a b : List Int) (ha : Dg 1000000000 a) (hb : Nn b) (hla : a.length ≤ 100000) (hlb : b.length ≤ 100000) (hbp : 0 < dv 1000000000 b) :
  ∀ (i : Nat) (q rest : List Int), i ≤ a.length → q.length = a.length → Dg 1000000000 q → Nn rest → dv 1000000000 rest < dv 1000000000 b → dv 1000000000 (a.drop i) = dv 1000000000 (q.drop i) * dv 1000000000 b + dv 1000000000 rest →
  ∃ r1 r2, Ev (fun k => dioramaref02_Over.l0 k a b q rest ((i : Int) - 1)) (r1, r2) ∧ Nn r1 ∧ Nn r2 ∧ dv 1000000000 a = dv 1000000000 r1 * dv 1000000000 b + dv 1000000000 r2 ∧ dv 1000000000 r2 < dv 1000000000 b ∧ r1.length ≤ a.length ∧ r2.length ≤ b.length := by
 have hlen : ∀ {l : List Int}, Nn l → dv 1000000000 l < dv 1000000000 b → l.length ≤ b.length := by
  intro l hl h
  refine Nat.le_of_not_lt fun h2 => ?_
  have := dv_len (by decide) hb.dg hl h2
  omega
 intro i
 induction i with
 | zero =>
  intro q rest _ hq dq hr hlt hv
  obtain ⟨r, he, hc, hvr, hlr⟩ := trimmed_f q dq (by omega)
  rw [List.drop_zero, List.drop_zero] at hv
  refine ⟨r, rest, Ev.step (f := fun k => (dioramaref02_trimmed.f k q).bind fun t => some (t, rest)) (fun k => ?_) (Ev.bind he (Ev.now _)), hc, hr, by rw [hvr]; exact hv, hlt, by omega, hlen hr hlt⟩
  simp [dioramaref02_Over.l0]
 | succ i ih =>
  intro q rest hi hq dq hr hlt hv
  have e : (((i + 1 : Nat) : Int) - 1) = (i : Int) := by omega
  have hx := ha.getD (by decide) i
  have hlr := hlen hr hlt
  obtain ⟨u, eu, hu, vu, lu⟩ := trimmed_f (a.getD i 0 :: rest) (Dg.cons hx.1 hx.2 hr.dg) (by simp; omega)
  have vu2 : dv 1000000000 u = a.getD i 0 + 1000000000 * dv 1000000000 rest := vu
  have r0 := dv_nonneg (by decide) hr.dg
  simp only [List.length_cons] at lu
  obtain ⟨t, rest', g1, g2, g3, g4, g5, g6⟩ := over_l1 a b q u i hb hu (by omega) (by omega) hlb (by omega) hbp 999999999 0 999999999 (by decide) (by decide) (by decide) (by decide) (by have := dv_nonneg (by decide) hu.dg ; omega) (by
   have : (1000000000 : Int) * (dv 1000000000 rest + 1) ≤ 1000000000 * dv 1000000000 b := Int.mul_le_mul_of_nonneg_left (by omega) (by decide)
   rw [vu2]
   omega)
  obtain ⟨r1, r2, he, h⟩ := ih (q.set i t) rest' (by omega) (by simpa using hq) (dq.set _ g1 g2) g3 g5 (by
   rw [dv_drop _ a i (by omega), dv_drop _ (q.set i t) i (by simp; omega), drop_set', getD_set_self (by omega), hv]
   have := vu2
   rw [g4] at this
   grind)
  refine ⟨r1, r2, ?_, h⟩
  rw [e]
  refine Ev.step (f := fun k => (dioramaref02_trimmed.f k (a.getD i 0 :: rest)).bind fun t193 => (dioramaref02_Over.l1 k a b q t193 (i : Int) 0 999999999)) (fun k => ?_) (Ev.bind eu (g6 _ he))
  simp only [dioramaref02_Over.l0, rd_nat, Option.bind_some, List.singleton_append, List.length_singleton]
  rw [if_pos (by omega), if_pos (by omega), if_pos (by omega), if_pos (by omega)]
theorem over_f (a b : List Int) (ha : Nn a) (hb : Nn b) (hla : a.length ≤ 100000) (hlb : b.length ≤ 100000) (hbp : 0 < dv 1000000000 b) :
  ∃ r1 r2, Ev (fun k => dioramaref02_Over.f k a b) (r1, r2) ∧ Nn r1 ∧ Nn r2 ∧ dv 1000000000 a = dv 1000000000 r1 * dv 1000000000 b + dv 1000000000 r2 ∧ dv 1000000000 r2 < dv 1000000000 b ∧ r1.length ≤ a.length ∧ r2.length ≤ b.length := by
 obtain ⟨r1, r2, he, h⟩ := over_l0 a b ha.dg hb hla hlb hbp a.length (List.replicate a.length 0) [] (Nat.le_refl _) (by simp) (Dg.replicate (by decide) _) (Cn.nil _) hbp (by rw [List.drop_of_length_le (Nat.le_refl _), List.drop_of_length_le (by simp)]; simp [dv])
 refine ⟨r1, r2, Ev.congr (fun k => ?_) he, h⟩
 simp only [dioramaref02_Over.f, Int.toNat_natCast]
 rw [if_pos (by omega), if_pos (by omega), w64 (by omega) (by omega)]
end Go.Proofs.Ytpbhepdgamoiaaa.Pc
namespace Go.Proofs.Ytpbhepdgamoiaaa.Qr
open Go.RowKit Go Go.Proofs.YtpbhepdgamoiaaaW.PrintWords Go.Proofs.YtpbhepdgamoiaaaW.PrintLast Go.Proofs.YtpbhepdgamoiaaaW.PrintMore Go.Proofs.Ytpbhepdgamoiaaa.Ml Go.Proofs.Ytpbhepdgamoiaaa.Mn Go.Proofs.Ytpbhepdgamoiaaa.Nd Go.Proofs.Ytpbhepdgamoiaaa.Pa Go.Proofs.Ytpbhepdgamoiaaa.Pb Go.Proofs.Ytpbhepdgamoiaaa.Rf Go.Proofs.Ytpbhepdgamoiaaa.Er Go.Proofs.Ytpbhepdgamoiaaa.Ek Go.Proofs.Ytpbhepdgamoiaaa.E Go.Proofs.Ytpbhepdgamoiaaa.Pe Go.Proofs.Ytpbhepdgamoiaaa.Pf
set_option linter.unusedVariables false
set_option linter.unusedSimpArgs false
structure RV (b : Bool) (x y : List Int) (q : Rat) (n : Nat) : Prop where
 nx : Nn x
 ny : Nn y
 pos : 0 < dv 1000000000 y
 eq : q = qq (sg b (dv 1000000000 x)) (dv 1000000000 y)
 lx : x.length ≤ n
 ly : y.length ≤ n
theorem RV.mono {b : Bool} {x y : List Int} {q : Rat} {n m : Nat} (h : RV b x y q n) (hm : n ≤ m) : RV b x y q m := ⟨h.nx, h.ny, h.pos, h.eq, Nat.le_trans h.lx hm, Nat.le_trans h.ly hm⟩
theorem RV.x0 {b : Bool} {x y : List Int} {q : Rat} {n : Nat} (h : RV b x y q n) : 0 ≤ dv 1000000000 x := dv_nonneg (by decide) h.nx.dg
def RE (f : Nat → Option (Bool × List Int × List Int)) (q : Rat) (n : Nat) : Prop := ∃ b x y, Ev f (b, x, y) ∧ RV b x y q n
theorem qq_parts {a b : Int} (hb : 0 < b) : ∃ g : Int, 0 < g ∧ a = (qq a b).num * g ∧ b = ((qq a b).den : Int) * g := by
 obtain ⟨h1, h2⟩ := rat_low (a := a) (b := b) (by omega)
 refine ⟨(Int.gcd a b : Nat), ?_, ?_, ?_⟩
 ·have := Int.gcd_pos_of_ne_zero_right a (show b ≠ 0 by omega)
  omega
 ·rw [← h1]
  unfold Ra.ratN Ea.lowN
  rw [if_neg (by omega)]
  exact (Int.ediv_mul_cancel (Int.gcd_dvd_left a b)).symm
 ·rw [← h2]
  unfold Ra.ratD Ea.lowD
  rw [if_neg (by omega)]
  exact (Int.ediv_mul_cancel (Int.gcd_dvd_right a b)).symm
theorem qq_lt {a b c d : Int} (hb : 0 < b) (hd : 0 < d) : qq a b < qq c d ↔ a * d < c * b := by
 obtain ⟨g, hg, e1, e2⟩ := qq_parts (a := a) hb
 obtain ⟨h, hh, e3, e4⟩ := qq_parts (a := c) hd
 rw [Rat.lt_iff]
 generalize (qq a b).num = N1 at *
 generalize ((qq a b).den : Int) = D1 at *
 generalize (qq c d).num = N2 at *
 generalize ((qq c d).den : Int) = D2 at *
 subst e1 e2 e3 e4
 have k1 : N1 * g * (D2 * h) = N1 * D2 * (g * h) := by grind
 have k2 : N2 * h * (D1 * g) = N2 * D1 * (g * h) := by grind
 rw [k1, k2]
 exact (Int.mul_lt_mul_right (Int.mul_pos hg hh)).symm
theorem sumR_f {b1 b2 : Bool} {x1 y1 x2 y2 : List Int} {p q : Rat} {n m : Nat} (h1 : RV b1 x1 y1 p n) (h2 : RV b2 x2 y2 q m) (hl : n + m + 2 ≤ 1000000) : RE (fun k => dioramaref02_Sum.f k b1 x1 y1 b2 x2 y2) (p + q) (n + m + 1) := by
 have l1 := h1.lx
 have l2 := h1.ly
 have l3 := h2.lx
 have l4 := h2.ly
 obtain ⟨u, eu, nu, vu, lu⟩ := times_f x1 y2 h1.nx h2.ny (by omega)
 obtain ⟨v, ev, nv, vv, lv⟩ := times_f x2 y1 h2.nx h1.ny (by omega)
 obtain ⟨y, ey, ny, vy, ly⟩ := times_f y1 y2 h1.ny h2.ny (by omega)
 have hpos : 0 < dv 1000000000 y := by rw [vy]; exact Int.mul_pos h1.pos h2.pos
 have heq : p + q = qq (sg b1 (dv 1000000000 u) + sg b2 (dv 1000000000 v)) (dv 1000000000 y) := by
  have e1 : sg b1 (dv 1000000000 u) = sg b1 (dv 1000000000 x1) * dv 1000000000 y2 := by rw [vu]; cases b1 <;> simp [sg, Int.neg_mul]
  have e2 : sg b2 (dv 1000000000 v) = sg b2 (dv 1000000000 x2) * dv 1000000000 y1 := by rw [vv]; cases b2 <;> simp [sg, Int.neg_mul]
  rw [h1.eq, h2.eq, vy, e1, e2]
  unfold qq
  rw [Rat.divInt_add_divInt _ _ (by have := h1.pos; omega) (by have := h2.pos; omega)]
 by_cases hb : b1 = b2
 ·subst hb
  obtain ⟨s, es, ns, vs, ls⟩ := plus_f u v nu nv (by omega) (by omega)
  refine ⟨b1, s, y, ?_, ⟨ns, ny, hpos, ?_, by omega, by omega⟩⟩
  ·refine Ev.congr (fun k => rfl) (Ev.bind eu (Ev.bind ev (Ev.bind ey ?_)))
   exact Ev.congr (fun k => if_pos (by simp)) (Ev.bind es (Ev.now _))
  ·rw [heq, vs]
   cases b1
   ·simp [sg]
   ·simp [sg, Int.neg_add]
 ·have hc := compare_f u v nu nv (by omega) (by omega)
  have hne : ¬ (b1 == b2) = true := by simpa using hb
  by_cases hle : dv 1000000000 v ≤ dv 1000000000 u
  ·obtain ⟨s, es, ns, vs, ls⟩ := minus_f u v nu nv (by omega) hle
   refine ⟨b1, s, y, ?_, ⟨ns, ny, hpos, ?_, by omega, by omega⟩⟩
   ·refine Ev.congr (fun k => rfl) (Ev.bind eu (Ev.bind ev (Ev.bind ey ?_)))
    refine Ev.congr (fun k => if_neg hne) (Ev.bind hc ?_)
    refine Ev.congr (fun k => if_pos ?_) (Ev.bind es (Ev.now _))
    unfold cmpI
    rw [if_neg (by omega)]
    split <;> decide
   ·rw [heq, vs]
    cases b1 <;> cases b2 <;> simp [sg] at hb ⊢ <;> congr 1 <;> omega
  ·obtain ⟨s, es, ns, vs, ls⟩ := minus_f v u nv nu (by omega) (by omega)
   refine ⟨b2, s, y, ?_, ⟨ns, ny, hpos, ?_, by omega, by omega⟩⟩
   ·refine Ev.congr (fun k => rfl) (Ev.bind eu (Ev.bind ev (Ev.bind ey ?_)))
    refine Ev.congr (fun k => if_neg hne) (Ev.bind hc ?_)
    refine Ev.congr (fun k => if_neg ?_) (Ev.bind es (Ev.now _))
    unfold cmpI
    rw [if_pos (by omega)]
    decide
   ·rw [heq, vs]
    cases b1 <;> cases b2 <;> simp [sg] at hb ⊢ <;> congr 1 <;> omega
theorem RV.neg {b : Bool} {x y : List Int} {q : Rat} {n : Nat} (h : RV b x y q n) : RV (!b) x y (-q) n := by
 refine ⟨h.nx, h.ny, h.pos, ?_, h.lx, h.ly⟩
 rw [h.eq]
 unfold qq
 rw [Rat.neg_divInt]
 congr 1
 cases b <;> simp [sg]
end Go.Proofs.Ytpbhepdgamoiaaa.Qr
namespace Go.Proofs.Ytpbhepdgamoiaaa.Qn
open Go.RowKit Go Go.Proofs.YtpbhepdgamoiaaaW.PrintWords Go.Proofs.YtpbhepdgamoiaaaW.PrintLast Go.Proofs.YtpbhepdgamoiaaaW.PrintMore Go.Proofs.Ytpbhepdgamoiaaa.Ml Go.Proofs.Ytpbhepdgamoiaaa.Mn Go.Proofs.Ytpbhepdgamoiaaa.Nd Go.Proofs.Ytpbhepdgamoiaaa.Pa Go.Proofs.Ytpbhepdgamoiaaa.Pb Go.Proofs.Ytpbhepdgamoiaaa.Rf Go.Proofs.Ytpbhepdgamoiaaa.Er Go.Proofs.Ytpbhepdgamoiaaa.Ek Go.Proofs.Ytpbhepdgamoiaaa.E Go.Proofs.Ytpbhepdgamoiaaa.Pe Go.Proofs.Ytpbhepdgamoiaaa.Pf Go.Proofs.Ytpbhepdgamoiaaa.Pg Go.Proofs.Ytpbhepdgamoiaaa.Qr
set_option linter.unusedVariables false
set_option linter.unusedSimpArgs false
theorem qq_eq {a b c d : Int} (hb : b ≠ 0) (hd : d ≠ 0) : qq a b = qq c d ↔ a * d = c * b := by
 unfold qq
 exact Rat.divInt_eq_divInt_iff hb hd
theorem qq_div (a b : Int) : qq a b = (a : Rat) / (b : Rat) := by unfold qq; exact Rat.divInt_eq_div a b
end Go.Proofs.Ytpbhepdgamoiaaa.Qn
namespace Go.Proofs.Ytpbhepdgamoiaaa.Qo
open Go.RowKit Go Go.Proofs.YtpbhepdgamoiaaaW.PrintWords Go.Proofs.YtpbhepdgamoiaaaW.PrintLast Go.Proofs.YtpbhepdgamoiaaaW.PrintMore Go.Proofs.Ytpbhepdgamoiaaa.Ml Go.Proofs.Ytpbhepdgamoiaaa.Mn Go.Proofs.Ytpbhepdgamoiaaa.Nd Go.Proofs.Ytpbhepdgamoiaaa.Pa Go.Proofs.Ytpbhepdgamoiaaa.Pb Go.Proofs.Ytpbhepdgamoiaaa.Rf Go.Proofs.Ytpbhepdgamoiaaa.Er Go.Proofs.Ytpbhepdgamoiaaa.Ek Go.Proofs.Ytpbhepdgamoiaaa.E Go.Proofs.Ytpbhepdgamoiaaa.Pe Go.Proofs.Ytpbhepdgamoiaaa.Pf Go.Proofs.Ytpbhepdgamoiaaa.Pg Go.Proofs.Ytpbhepdgamoiaaa.Qr Go.Proofs.Ytpbhepdgamoiaaa.Qn
set_option linter.unusedVariables false
set_option linter.unusedSimpArgs false
theorem RV.int {b : Bool} {x y : List Int} {z : Int} {n : Nat} (h : RV b x y (qq z 1) n) (hy : dv 1000000000 y = 1) : sg b (dv 1000000000 x) = z := by
 have e := h.eq
 rw [hy, qq_eq (by decide) (by decide)] at e
 omega
structure RZ (b : Bool) (x y : List Int) (z : Int) (n : Nat) : Prop where
 nx : Nn x
 ny : Nn y
 y1 : dv 1000000000 y = 1
 eq : sg b (dv 1000000000 x) = z
 lx : x.length ≤ n
 ly : y.length ≤ n
end Go.Proofs.Ytpbhepdgamoiaaa.Qo
namespace Go.Proofs.Ytpbhepdgamoiaaa.Qw
open Go.RowKit Go Go.Proofs.YtpbhepdgamoiaaaW.PrintWords Go.Proofs.YtpbhepdgamoiaaaW.PrintLast Go.Proofs.YtpbhepdgamoiaaaW.PrintMore Go.Proofs.Ytpbhepdgamoiaaa.Ml Go.Proofs.Ytpbhepdgamoiaaa.Mn Go.Proofs.Ytpbhepdgamoiaaa.Nd Go.Proofs.Ytpbhepdgamoiaaa.Pa Go.Proofs.Ytpbhepdgamoiaaa.Pb Go.Proofs.Ytpbhepdgamoiaaa.Pc Go.Proofs.Ytpbhepdgamoiaaa.Rf Go.Proofs.Ytpbhepdgamoiaaa.Er Go.Proofs.Ytpbhepdgamoiaaa.Ek Go.Proofs.Ytpbhepdgamoiaaa.E Go.Proofs.Ytpbhepdgamoiaaa.Pe Go.Proofs.Ytpbhepdgamoiaaa.Pf Go.Proofs.Ytpbhepdgamoiaaa.Qr Go.Proofs.Ytpbhepdgamoiaaa.Qn Go.Proofs.Ytpbhepdgamoiaaa.Ew
set_option linter.unusedVariables false
set_option linter.unusedSimpArgs false
theorem qq_one (z : Int) : qq z 1 = (z : Rat) := by
 rw [qq_div, show ((1 : Int) : Rat) = 1 from rfl]
 grind
end Go.Proofs.Ytpbhepdgamoiaaa.Qw
namespace Go.Proofs.Ytpbhepdgamoiaaa.Nm
open Go.RowKit Go Go.Proofs.Ytpbhepdgamoiaaa.Rf Go.Proofs.Ytpbhepdgamoiaaa.Er Go.Proofs.Ytpbhepdgamoiaaa.Ek Go.Proofs.Ytpbhepdgamoiaaa.Et Go.Proofs.Ytpbhepdgamoiaaa.E Go.Proofs.Ytpbhepdgamoiaaa.Pe Go.Proofs.Ytpbhepdgamoiaaa.Pf Go.Proofs.Ytpbhepdgamoiaaa.Qr Go.Proofs.Ytpbhepdgamoiaaa.Qn Go.Proofs.Ytpbhepdgamoiaaa.Qw
set_option linter.unusedVariables false
set_option linter.unusedSimpArgs false
theorem qq_lt1 {a b c : Int} (hc : 0 < c) : qq a c < qq b c ↔ a < b := by
 rw [qq_lt hc hc]
 exact ⟨fun h => Int.lt_of_mul_lt_mul_right h (by omega), fun h => Int.mul_lt_mul_of_pos_right h hc⟩
theorem qq_le1 {a b c : Int} (hc : 0 < c) : qq a c ≤ qq b c ↔ a ≤ b := by
 rw [← Rat.not_lt, qq_lt1 hc]
 omega
theorem qq_add1 {a b c : Int} (hc : c ≠ 0) : qq (a + b) c = qq a c + qq b c := by
 unfold qq
 rw [Rat.divInt_add_divInt _ _ hc hc, ← Int.add_mul, Rat.divInt_mul_right hc]
theorem qq_lo (n e : Int) : qq (qq n e).num ((qq n e).den : Int) = qq n e := Rat.num_divInt_den _
theorem qq_zero (e : Int) : qq 0 e = 0 := by
 unfold qq
 simp
theorem qq_split {m t : Int} (ht : t ≠ 0) : qq m 1 = qq m t * qq t 1 := by
 unfold qq
 rw [Rat.divInt_mul_divInt, Int.mul_comm m t, Int.mul_one]
 conv => rhs; rw [show t = t * 1 by omega, Int.mul_assoc, Int.one_mul]
 rw [Rat.divInt_mul_left ht]
theorem qq_ne {t : Int} (ht : t ≠ 0) : qq t 1 ≠ 0 := by
 rw [qq_one]
 exact fun h => ht (by exact_mod_cast h)
theorem lt_le {a b c : Rat} (h : a < b) (h2 : b ≤ c) : a < c := Rat.not_le.1 fun h3 => Rat.not_le.2 h (Rat.le_trans h2 h3)
abbrev noV : (Int × Int) × Bool × Int := ((0, 1), false, 0)
def shV (ts : Int) (x : Ed) (p : Rat) : (Int × Int) × Bool × Int := if x.f1 < 0 then noV else ((tmV (qq x.f1 ts + p * qq x.f2 x.f3)).1, (tmV (qq x.f1 ts + p * qq x.f2 x.f3)).2 == 0, (tmV (qq x.f1 ts + p * qq x.f2 x.f3)).2)
theorem med_cons (ms ts : Int) (q : Rat) (b : Int) (x : Ed) (t : List Ed) : medL ms ts q b (x :: t) = if q < qq b ms then medL ms ts q (b + x.f0) t else if q < qq (b + x.f0) ms then shV ts x (q - qq b ms) else medL ms ts q (b + x.f0) t := rfl
theorem med_low {ms ts : Int} (hm : 0 < ms) {q : Rat} : ∀ (l : List Ed) (b : Int), (∀ x ∈ l, 0 ≤ x.f0) → q < qq b ms → medL ms ts q b l = noV
 | [], _, _, _ => rfl
 | x :: t, b, h, hq => by
  rw [med_cons, if_pos hq]
  exact med_low hm t _ (fun y hy => h y (by simp [hy])) (lt_le hq ((qq_le1 hm).2 (by have := h x (by simp); omega)))
theorem sum0 : ∀ (l : List Ed), (∀ x ∈ l, 0 ≤ x.f0) → 0 ≤ sumD l
 | [], _ => by simp [sumD]
 | x :: t, h => by
  have h1 := h x (by simp)
  have h2 := sum0 t (fun y hy => h y (by simp [hy]))
  simp only [sumD]
  omega
theorem med_app {ms ts : Int} (hm : 0 < ms) {q : Rat} : ∀ (l m : List Ed) (b : Int), (∀ x ∈ l, 0 ≤ x.f0) → (∀ x ∈ m, 0 ≤ x.f0) → medL ms ts q b (l ++ m) = if q < qq (b + sumD l) ms then medL ms ts q b l else medL ms ts q (b + sumD l) m
 | [], m, b, h, h' => by
  simp only [List.nil_append, sumD, Int.add_zero]
  split
  ·rename_i hq
   rw [med_low hm m b h' hq]
   rfl
  ·rfl
 | x :: t, m, b, h, h' => by
  have h0 := h x (by simp)
  have hs := sum0 t (fun y hy => h y (by simp [hy]))
  have ih := med_app (ts := ts) hm (q := q) t m (b + x.f0) (fun y hy => h y (by simp [hy])) h'
  have e : b + sumD (x :: t) = b + x.f0 + sumD t := by
   simp only [sumD]
   omega
  rw [List.cons_append, med_cons, med_cons, ih, e]
  have l1 := (qq_le1 (a := b) (b := b + x.f0) hm).2 (by omega)
  have l2 := (qq_le1 (a := b + x.f0) (b := b + x.f0 + sumD t) hm).2 (by omega)
  by_cases c1 : q < qq b ms
  ·rw [if_pos c1, if_pos c1]
  ·by_cases c2 : q < qq (b + x.f0) ms
   ·rw [if_neg c1, if_pos c2, if_neg c1, if_pos c2, if_pos (lt_le c2 l2)]
   ·rw [if_neg c1, if_neg c2, if_neg c1, if_neg c2]
theorem med_cong {ms ts : Int} {q : Rat} {u v : List Ed} (h : ∀ b, medL ms ts q b u = medL ms ts q b v) : ∀ (p : List Ed) (b : Int), medL ms ts q b (p ++ u) = medL ms ts q b (p ++ v)
 | [], b => h b
 | x :: t, b => by
  rw [List.cons_append, List.cons_append, med_cons, med_cons, med_cong h t]
theorem sh_low (ts : Int) (x : Ed) (p : Rat) : shV ts (lowV x) p = shV ts x p := by
 unfold shV lowV
 simp only [qq_lo]
theorem med_map {ms ts : Int} {q : Rat} : ∀ (l : List Ed) (b : Int), medL ms ts q b (l.map lowV) = medL ms ts q b l
 | [], b => rfl
 | x :: t, b => by
  rw [List.map_cons, med_cons, med_cons, sh_low]
  show (if q < qq b ms then medL ms ts q (b + x.f0) (t.map lowV) else if q < qq (b + x.f0) ms then shV ts x (q - qq b ms) else medL ms ts q (b + x.f0) (t.map lowV)) = _
  rw [med_map t]
theorem cmpQ_eq {p q : Rat} (h : cmpQ p q = 0) : p = q := by
 unfold cmpQ at h
 split at h
 ·cases h
 ·split at h
  ·cases h
  ·rename_i h1 h2
   exact Rat.le_antisymm (Rat.not_lt.1 h2) (Rat.not_lt.1 h1)
theorem ov_sh {ms ts : Int} {a e : Ed} (hm : 0 < ms) (ht : 0 < ts) (h : ovV ms ts a e = true) (p : Rat) : shV ts e p = shV ts a (p + qq a.f0 ms) := by
 unfold ovV overB kinB kB kS kN kE at h
 simp only [Bool.and_eq_true, Bool.or_eq_true, beq_iff_eq, decide_eq_decide, decide_eq_true_eq] at h
 obtain ⟨⟨h1, h2, h3, h4⟩, h5⟩ := h
 unfold shV
 by_cases hn : a.f1 < 0
 ·rw [if_pos hn, if_pos (h1.1 hn)]
 ·have hn' : ¬ e.f1 < 0 := fun h => hn (h1.2 h)
  rw [if_neg hn, if_neg hn'] at h2 h3 h4
  rw [if_neg hn, if_neg hn']
  have hq : qq e.f1 ts + p * qq e.f2 e.f3 = qq a.f1 ts + (p + qq a.f0 ms) * qq a.f2 a.f3 := by
   by_cases z : a.f2 = 0
   ·rw [if_pos z] at h2 h3 h4
    by_cases z' : e.f2 = 0
    ·rw [if_pos z'] at h2
     rw [z, z', qq_zero, qq_zero, h2]
     grind
    ·rw [if_neg z'] at h3
     exact absurd h3.symm z'
   ·rw [if_neg z] at h2 h3 h4
    by_cases z' : e.f2 = 0
    ·rw [if_pos z'] at h3
     exact absurd h3 z
    ·rw [if_neg z'] at h3 h4
     have h6 : cmpQ (afterQ ms ts a.f1 a.f2 a.f3 a.f0) (qq e.f1 1) = 0 := by
      rcases h5 with (h5 | h5) | h5
      ·exact absurd h5 hn
      ·exact absurd h5 z
      ·exact h5
     have h7 := cmpQ_eq h6
     unfold afterQ at h7
     rw [qq_split (m := a.f1) (t := ts) (by omega), qq_split (m := e.f1) (t := ts) (by omega)] at h7
     have h8 : qq e.f1 ts = qq a.f0 ms * qq a.f2 a.f3 + qq a.f1 ts := by
      have h9 := qq_ne (t := ts) (by omega)
      generalize qq ts 1 = T at h7 h9
      have : (qq a.f0 ms * qq a.f2 a.f3 + qq a.f1 ts - qq e.f1 ts) * T = 0 := by grind
      rcases Rat.mul_eq_zero.1 this with h | h
      ·grind
      ·exact absurd h h9
     rw [h8, ← h3, ← h4]
     grind
  rw [hq]
theorem med_two {ms ts : Int} {q : Rat} {a e : Ed} {t : List Ed} (hm : 0 < ms) (ht : 0 < ts) (ha : 0 ≤ a.f0) (he : 0 ≤ e.f0) (h : ovV ms ts a e = true) (b : Int) : medL ms ts q b (⟨a.f0 + e.f0, a.f1, a.f2, a.f3⟩ :: t) = medL ms ts q b (a :: e :: t) := by
 rw [med_cons, med_cons, med_cons]
 have l1 := (qq_le1 (a := b) (b := b + a.f0) hm).2 (by omega)
 have l2 := (qq_le1 (a := b + a.f0) (b := b + a.f0 + e.f0) hm).2 (by omega)
 have hs : ∀ p, shV ts (⟨a.f0 + e.f0, a.f1, a.f2, a.f3⟩ : Ed) p = shV ts a p := fun p => rfl
 rw [hs]
 show (if q < qq b ms then medL ms ts q (b + (a.f0 + e.f0)) t else if q < qq (b + (a.f0 + e.f0)) ms then shV ts a (q - qq b ms) else medL ms ts q (b + (a.f0 + e.f0)) t) = _
 rw [← Int.add_assoc]
 by_cases c1 : q < qq b ms
 ·rw [if_pos c1, if_pos c1, if_pos (lt_le c1 l1)]
 ·rw [if_neg c1, if_neg c1]
  by_cases c2 : q < qq (b + a.f0) ms
  ·rw [if_pos c2, if_pos (lt_le c2 l2)]
  ·rw [if_neg c2, if_neg c2]
   by_cases c3 : q < qq (b + a.f0 + e.f0) ms
   ·rw [if_pos c3, if_pos c3, ov_sh hm ht h]
    congr 1
    rw [qq_add1 (by omega)]
    grind
   ·rw [if_neg c3, if_neg c3]
theorem push_med {ms ts : Int} {q : Rat} (hm : 0 < ms) (ht : 0 < ts) {out : List Ed} {e : Ed} (h : ∀ x ∈ out, Wd x) (he : Wd e) (t : List Ed) (b : Int) : medL ms ts q b ((push ms ts out e).reverse ++ t) = medL ms ts q b (out.reverse ++ e :: t) := by
 cases out with
 | nil => rfl
 | cons a o =>
  have ha := (h a (by simp)).d0
  have hd := he.d0
  simp only [push]
  split
  ·rename_i ho
   simp only [List.reverse_cons, List.append_assoc, List.singleton_append]
   exact med_cong (fun b' => med_two hm ht (by omega) (by omega) ho b') _ b
  ·simp only [List.reverse_cons, List.append_assoc, List.singleton_append, List.cons_append, List.nil_append]
theorem nrmR_med {ms ts : Int} {q : Rat} (hm : 0 < ms) (ht : 0 < ts) : ∀ (l out : List Ed) (b : Int), (∀ x ∈ out, Wd x) → (∀ x ∈ l, Vd x) → medL ms ts q b (nrmR ms ts out l).reverse = medL ms ts q b (out.reverse ++ l.map lowV)
 | [], out, b, _, _ => by simp [nrmR]
 | x :: t, out, b, h, hV => by
  have hw := wd_low (hV x (by simp))
  have hn : nrmR ms ts out (x :: t) = nrmR ms ts (push ms ts out (lowV x)) t := rfl
  rw [hn, nrmR_med hm ht t _ b (push_wd h hw) (fun y hy => hV y (by simp [hy])), push_med hm ht h hw]
  rfl
theorem nrm_med {ms ts : Int} {q : Rat} (hc : Ck ms ts) {l : List Ed} (hV : ∀ x ∈ l, Vd x) (b : Int) : medL ms ts q b (nrm ms ts l) = medL ms ts q b l := by
 unfold nrm
 rw [nrmR_med (by have := hc.m0; omega) (by have := hc.t0; omega) l [] b (by simp) hV]
 exact med_map l b
def Em1 (x : Ed) : Prop := x.f1 < 0 → x.f2 = 1 ∧ x.f3 = 1
theorem em_low {x : Ed} (h : Em1 x) : Em1 (lowV x) := by
 intro hm
 have := h hm
 unfold lowV
 simp only
 rw [this.1, this.2]
 decide
theorem push_em {ms ts : Int} {out : List Ed} {e : Ed} (h : ∀ x ∈ out, Em1 x) (he : Em1 e) : ∀ x ∈ push ms ts out e, Em1 x := by
 cases out with
 | nil => simpa [push] using he
 | cons a t =>
  have ha := h a (by simp)
  simp only [push]
  split
  ·intro x hx
   simp only [List.mem_cons] at hx
   rcases hx with rfl | hx
   ·exact ha
   ·exact h x (by simp [hx])
  ·intro x hx
   simp only [List.mem_cons] at hx
   rcases hx with rfl | hx
   ·exact he
   ·exact h x (by simpa using hx)
theorem nrmR_wd {ms ts : Int} : ∀ (l out : List Ed), (∀ x ∈ out, Wd x ∧ Em1 x) → (∀ x ∈ l, Vd x) → ∀ x ∈ nrmR ms ts out l, Wd x ∧ Em1 x
 | [], out, h, _ => h
 | x :: t, out, h, hV => by
  have hx := hV x (by simp)
  have hn : nrmR ms ts out (x :: t) = nrmR ms ts (push ms ts out (lowV x)) t := rfl
  rw [hn]
  refine nrmR_wd t _ (fun y hy => ⟨push_wd (fun z hz => (h z hz).1) (wd_low hx) y hy, push_em (fun z hz => (h z hz).2) (em_low hx.em) y hy⟩) (fun y hy => hV y (by simp [hy]))
theorem le_sum : ∀ (l : List Ed), (∀ x ∈ l, Wd x) → ∀ x ∈ l, x.f0 ≤ sumD l
 | [], _, x, hx => by cases hx
 | y :: t, h, x, hx => by
  have h0 := (h y (by simp)).d0
  have hs := wd_sum (l := t) (fun z hz => h z (by simp [hz]))
  simp only [sumD]
  rcases List.mem_cons.1 hx with rfl | hx
  ·omega
  ·have := le_sum t (fun z hz => h z (by simp [hz])) x hx
   omega
theorem nrm_vd {ms ts : Int} {l : List Ed} (hV : ∀ x ∈ l, Vd x) (hs : sumD l ≤ 1099511627776) : ∀ x ∈ nrm ms ts l, Vd x := by
 have h := nrmR_wd (ms := ms) (ts := ts) l [] (by simp) hV
 have h1 : ∀ x ∈ nrm ms ts l, Wd x ∧ Em1 x := fun x hx => h x (List.mem_reverse.1 hx)
 have h2 := le_sum (nrm ms ts l) (fun x hx => (h1 x hx).1)
 rw [nrm_sum] at h2
 intro x hx
 have hw := (h1 x hx).1
 have := h2 x hx
 exact ⟨hw.d0, by omega, hw.m0, hw.m1, hw.n0, hw.n1, hw.e0, hw.e1, (h1 x hx).2⟩
theorem nrmV_ok {ms ts : Int} (hc : Ck ms ts) {l : List Ed} (hV : ∀ x ∈ l, Vd x) (h : (nrmV ms ts l).2 = 0) : nrmV ms ts l = (nrm ms ts l, 0) ∧ chk (nrm ms ts l) ms ts = 0 ∧ sumD l ≤ 1099511627776 := by
 unfold nrmV at h ⊢
 by_cases h1 : 1099511627776 < sumD l
 ·rw [if_pos h1] at h
  cases h
 ·rw [if_neg h1] at h ⊢
  unfold fin at h ⊢
  by_cases h2 : 20 < (nrmR ms ts [] l).length
  ·rw [if_pos h2] at h
   cases h
  ·rw [if_neg h2]
   refine ⟨rfl, chk_ok.2 ⟨hc, ?_, nrm_vd hV (by omega), ?_⟩, by omega⟩
   ·unfold nrm
    rw [List.length_reverse]
    omega
   ·rw [nrm_sum]
    omega
end Go.Proofs.Ytpbhepdgamoiaaa.Nm
namespace Go.Proofs.Ytpbhepdgamoiaaa.Qp
open Go.RowKit Go Go.Proofs.YtpbhepdgamoiaaaW.PrintWords Go.Proofs.YtpbhepdgamoiaaaW.PrintLast Go.Proofs.YtpbhepdgamoiaaaW.PrintMore Go.Proofs.Ytpbhepdgamoiaaa.Ml Go.Proofs.Ytpbhepdgamoiaaa.Mn Go.Proofs.Ytpbhepdgamoiaaa.Nd Go.Proofs.Ytpbhepdgamoiaaa.Pa Go.Proofs.Ytpbhepdgamoiaaa.Pb Go.Proofs.Ytpbhepdgamoiaaa.Rf Go.Proofs.Ytpbhepdgamoiaaa.Er Go.Proofs.Ytpbhepdgamoiaaa.Ek Go.Proofs.Ytpbhepdgamoiaaa.E Go.Proofs.Ytpbhepdgamoiaaa.Pe Go.Proofs.Ytpbhepdgamoiaaa.Pf Go.Proofs.Ytpbhepdgamoiaaa.Pg Go.Proofs.Ytpbhepdgamoiaaa.Qr Go.Proofs.Ytpbhepdgamoiaaa.Qn Go.Proofs.Ytpbhepdgamoiaaa.Qo
set_option linter.unusedVariables false
set_option linter.unusedSimpArgs false
theorem nrmV_ok {l : List Ed} {ms ts : Int} (h : chk l ms ts = 0) : nrmV ms ts l = (nrm ms ts l, 0) := by
 obtain ⟨hc, hl, hV, hs⟩ := chk_ok.1 h
 have := nrmR_len ms ts l []
 simp only [List.length_nil] at this
 unfold nrmV fin nrm
 rw [if_neg (by omega), if_neg (by omega)]
end Go.Proofs.Ytpbhepdgamoiaaa.Qp
namespace Go.Proofs.Ytpbhepdgamoiaaa.Qe
open Go.RowKit Go Go.Proofs.YtpbhepdgamoiaaaW.PrintWords Go.Proofs.YtpbhepdgamoiaaaW.PrintLast Go.Proofs.YtpbhepdgamoiaaaW.PrintMore Go.Proofs.Ytpbhepdgamoiaaa.Mn Go.Proofs.Ytpbhepdgamoiaaa.Er Go.Proofs.Ytpbhepdgamoiaaa.Ek Go.Proofs.Ytpbhepdgamoiaaa.E Go.Proofs.Ytpbhepdgamoiaaa.Pe Go.Proofs.Ytpbhepdgamoiaaa.Pf Go.Proofs.Ytpbhepdgamoiaaa.Pg
set_option linter.unusedVariables false
set_option linter.unusedSimpArgs false
end Go.Proofs.Ytpbhepdgamoiaaa.Qe
namespace Go.Proofs.Ytpbhepdgamoiaaa.Fr
open Go.RowKit Go Go.Proofs.YtpbhepdgamoiaaaW.PrintWords Go.Proofs.YtpbhepdgamoiaaaW.PrintLast Go.Proofs.YtpbhepdgamoiaaaW.PrintMore Go.Proofs.Ytpbhepdgamoiaaa.Mn Go.Proofs.Ytpbhepdgamoiaaa.Rf Go.Proofs.Ytpbhepdgamoiaaa.Er Go.Proofs.Ytpbhepdgamoiaaa.Ek Go.Proofs.Ytpbhepdgamoiaaa.E Go.Proofs.Ytpbhepdgamoiaaa.Pe Go.Proofs.Ytpbhepdgamoiaaa.Pf Go.Proofs.Ytpbhepdgamoiaaa.Pg Go.Proofs.Ytpbhepdgamoiaaa.Qr Go.Proofs.Ytpbhepdgamoiaaa.Qn Go.Proofs.Ytpbhepdgamoiaaa.Qo Go.Proofs.Ytpbhepdgamoiaaa.Qp Go.Proofs.Ytpbhepdgamoiaaa.Qe Go.Proofs.Ytpbhepdgamoiaaa.Qw Go.Proofs.Ytpbhepdgamoiaaa.Oe
set_option linter.unusedVariables false
set_option linter.unusedSimpArgs false
structure Rt (num den : Int) : Prop where
 n0 : 1 ≤ num
 n1 : num ≤ 1000
 d0 : 1 ≤ den
 d1 : den ≤ 1000
end Go.Proofs.Ytpbhepdgamoiaaa.Fr
namespace Go.Proofs.Ytpbhepdgamoiaaa.Cl
open Go.RowKit Go Go.Proofs.YtpbhepdgamoiaaaW.PrintWords Go.Proofs.YtpbhepdgamoiaaaW.PrintLast Go.Proofs.YtpbhepdgamoiaaaW.PrintMore Go.Proofs.Ytpbhepdgamoiaaa.Mn Go.Proofs.Ytpbhepdgamoiaaa.Rf Go.Proofs.Ytpbhepdgamoiaaa.Er Go.Proofs.Ytpbhepdgamoiaaa.Ek Go.Proofs.Ytpbhepdgamoiaaa.Ew Go.Proofs.Ytpbhepdgamoiaaa.E Go.Proofs.Ytpbhepdgamoiaaa.Pe Go.Proofs.Ytpbhepdgamoiaaa.Pf Go.Proofs.Ytpbhepdgamoiaaa.Pg Go.Proofs.Ytpbhepdgamoiaaa.Qr Go.Proofs.Ytpbhepdgamoiaaa.Qn Go.Proofs.Ytpbhepdgamoiaaa.Qo Go.Proofs.Ytpbhepdgamoiaaa.Qp Go.Proofs.Ytpbhepdgamoiaaa.Qe Go.Proofs.Ytpbhepdgamoiaaa.Qw Go.Proofs.Ytpbhepdgamoiaaa.Oe Go.Proofs.Ytpbhepdgamoiaaa.Fr
set_option linter.unusedVariables false
set_option linter.unusedSimpArgs false
def scB (a : Int) : Bool := decide (1 ≤ a) && decide (a ≤ 1000000)
theorem scale_f (a : Int) : edit_isScale.f a = some (scB a) := by
 unfold edit_isScale.f scB
 by_cases h : a ≥ 1
 ·rw [if_pos h, decide_eq_true (show 1 ≤ a from h), Bool.true_and]
 ·rw [if_neg h, decide_eq_false (show ¬ 1 ≤ a from h), Bool.false_and]
end Go.Proofs.Ytpbhepdgamoiaaa.Cl
namespace Go.Proofs.Ytpbhepdgamoiaaa.So
open Go.RowKit Go Go.Proofs.Ytpbhepdgamoiaaa.Rf Go.Proofs.Ytpbhepdgamoiaaa.Er Go.Proofs.Ytpbhepdgamoiaaa.Ek Go.Proofs.Ytpbhepdgamoiaaa.Et Go.Proofs.Ytpbhepdgamoiaaa.Ew Go.Proofs.Ytpbhepdgamoiaaa.E Go.Proofs.Ytpbhepdgamoiaaa.Pe Go.Proofs.Ytpbhepdgamoiaaa.Pf Go.Proofs.Ytpbhepdgamoiaaa.Qr Go.Proofs.Ytpbhepdgamoiaaa.Qn Go.Proofs.Ytpbhepdgamoiaaa.Qw Go.Proofs.Ytpbhepdgamoiaaa.Fr Go.Proofs.Ytpbhepdgamoiaaa.Cl Go.Proofs.Ytpbhepdgamoiaaa.Nm
set_option linter.unusedVariables false
set_option linter.unusedSimpArgs false
end Go.Proofs.Ytpbhepdgamoiaaa.So
namespace Go.Proofs.Ytpbhepdgamoiaaa.Sw
open Go.RowKit Go Go.Proofs.Ytpbhepdgamoiaaa.Rf Go.Proofs.Ytpbhepdgamoiaaa.Er Go.Proofs.Ytpbhepdgamoiaaa.Ek Go.Proofs.Ytpbhepdgamoiaaa.Et Go.Proofs.Ytpbhepdgamoiaaa.E Go.Proofs.Ytpbhepdgamoiaaa.Pe Go.Proofs.Ytpbhepdgamoiaaa.Pf Go.Proofs.Ytpbhepdgamoiaaa.Nm
set_option linter.unusedVariables false
set_option linter.unusedSimpArgs false
theorem tm_err (q : Rat) : (tmV q).2 = 0 ∨ (tmV q).2 = 2 := by
 unfold tmV
 split
 ·exact .inl rfl
 ·exact .inr rfl
theorem sh_err (ts : Int) (x : Ed) (p : Rat) : (shV ts x p).2.2 = 0 ∨ (shV ts x p).2.2 = 2 := by
 unfold shV
 split
 ·exact .inl rfl
 ·exact tm_err _
theorem med_err (ms ts : Int) (q : Rat) : ∀ (l : List Ed) (b : Int), (medL ms ts q b l).2.2 = 0 ∨ (medL ms ts q b l).2.2 = 2
 | [], b => .inl rfl
 | x :: t, b => by
  rw [med_cons]
  split
  ·exact med_err ms ts q t _
  ·split
   ·exact sh_err ts x _
   ·exact med_err ms ts q t _
theorem medV_ok {l : List Ed} {ms ts n d : Int} (h : chk l ms ts = 0) (hv : Ea.valid n d = true) : medV l ms ts n d = medL ms ts (qq n d) 0 l := by
 unfold medV
 rw [if_pos h, if_pos hv]
theorem shows_eq {l l' : List Ed} {ms ts ms' ts' n d n' d' : Int} (h : medV l ms ts n d = medV l' ms' ts' n' d') (he : (medV l ms ts n d).2.2 = 0 ∨ (medV l ms ts n d).2.2 = 2) : dioramalaw10_shows.f l ms ts n d l' ms' ts' n' d' = some true := by
 unfold dioramalaw10_shows.f edit_Media.f
 simp only [Option.bind_some]
 rw [← h]
 rcases he with he | he
 ·rw [he, if_neg (by decide), if_neg (by decide), if_pos rfl, if_pos rfl, if_pos (by simp)]
  simp
 ·rw [he, if_pos rfl]
theorem shows_f {l l' : List Ed} {ms ts ms' ts' n d n' d' : Int} (h : chk l ms ts = 0) (h' : chk l' ms' ts' = 0) (hv : Ea.valid n d = true) (hv' : Ea.valid n' d' = true) (he : medL ms ts (qq n d) 0 l = medL ms' ts' (qq n' d') 0 l') : dioramalaw10_shows.f l ms ts n d l' ms' ts' n' d' = some true := by
 refine shows_eq ?_ ?_
 ·rw [medV_ok h hv, medV_ok h' hv', he]
 ·rw [medV_ok h hv]
  exact med_err _ _ _ _ _
theorem rvalid_f (n d : Int) : dioramaref02_Valid.f n d = some (Ea.valid n d) := by
 unfold dioramaref02_Valid.f Ea.valid
 by_cases h1 : d ≥ 1
 ·rw [if_pos h1, decide_eq_true (show 1 ≤ d from h1)]
  by_cases h2 : d ≤ 1152921504606846976
  ·rw [if_pos h2, decide_eq_true h2]
   by_cases h3 : n ≥ -1152921504606846976
   ·rw [if_pos h3, decide_eq_true (show -1152921504606846976 ≤ n from h3)]
    rfl
   ·rw [if_neg h3, decide_eq_false (show ¬ -1152921504606846976 ≤ n from h3)]
    rfl
  ·rw [if_neg h2, decide_eq_false h2]
   rfl
 ·rw [if_neg h1, decide_eq_false (show ¬ 1 ≤ d from h1)]
  rfl
end Go.Proofs.Ytpbhepdgamoiaaa.Sw
namespace Go.Proofs.Ytpbhepdgamoiaaa.Ct
open Go.RowKit Go Go.Proofs.YtpbhepdgamoiaaaW.PrintWords Go.Proofs.YtpbhepdgamoiaaaW.PrintLast Go.Proofs.YtpbhepdgamoiaaaW.PrintMore Go.Proofs.Ytpbhepdgamoiaaa.Mn Go.Proofs.Ytpbhepdgamoiaaa.Rf Go.Proofs.Ytpbhepdgamoiaaa.Er Go.Proofs.Ytpbhepdgamoiaaa.Ek Go.Proofs.Ytpbhepdgamoiaaa.Et Go.Proofs.Ytpbhepdgamoiaaa.Ew Go.Proofs.Ytpbhepdgamoiaaa.E Go.Proofs.Ytpbhepdgamoiaaa.Pe Go.Proofs.Ytpbhepdgamoiaaa.Pf Go.Proofs.Ytpbhepdgamoiaaa.Pg Go.Proofs.Ytpbhepdgamoiaaa.Qr Go.Proofs.Ytpbhepdgamoiaaa.Qn Go.Proofs.Ytpbhepdgamoiaaa.Qw Go.Proofs.Ytpbhepdgamoiaaa.Fr Go.Proofs.Ytpbhepdgamoiaaa.Cl Go.Proofs.Ytpbhepdgamoiaaa.Nm Go.Proofs.Ytpbhepdgamoiaaa.So Go.Proofs.Ytpbhepdgamoiaaa.Sw
set_option linter.unusedVariables false
set_option linter.unusedSimpArgs false
def cutOk (fr te : Int) : Prop := (0 ≤ fr ∧ fr ≤ 1099511627776) ∧ (0 ≤ te ∧ te ≤ 1099511627776) ∧ fr ≤ te
instance (fr te : Int) : Decidable (cutOk fr te) := inferInstanceAs (Decidable (_ ∧ _))
end Go.Proofs.Ytpbhepdgamoiaaa.Ct
namespace Go.Proofs.Ytpbhepdgamoiaaa.Jn
open Go.RowKit Go Go.Proofs.YtpbhepdgamoiaaaW.PrintWords Go.Proofs.YtpbhepdgamoiaaaW.PrintLast Go.Proofs.YtpbhepdgamoiaaaW.PrintMore Go.Proofs.Ytpbhepdgamoiaaa.Mn Go.Proofs.Ytpbhepdgamoiaaa.Nd Go.Proofs.Ytpbhepdgamoiaaa.Z Go.Proofs.Ytpbhepdgamoiaaa.Rf Go.Proofs.Ytpbhepdgamoiaaa.Er Go.Proofs.Ytpbhepdgamoiaaa.Ek Go.Proofs.Ytpbhepdgamoiaaa.Et Go.Proofs.Ytpbhepdgamoiaaa.E Go.Proofs.Ytpbhepdgamoiaaa.Pe Go.Proofs.Ytpbhepdgamoiaaa.Pf Go.Proofs.Ytpbhepdgamoiaaa.Ct
set_option linter.unusedVariables false
set_option linter.unusedSimpArgs false
def LP (w : World) (l : List Ed) (e : Ending) (w' : World) : Prop := ∃ v, e = .returned v ∧ Kd.R k77 77 w' w.heap.size (fun _ => True) v l ∧ Below w.heap.size w w'
set_option maxHeartbeats 4000000 in
set_option maxRecDepth 100000 in
theorem grow_n (n : Int) (w : World) (h0 : 0 ≤ n) (h1 : n ≤ 1000) :
  Calls Try.prog 136 #[.slice none 0 0, .int .i64 n] w (LP w []) := by
 have HN := Aside0.mk (And.intro h0 h1)
 have hn0 : decide (n < 0) = false := decide_eq_false (by omega)
 have hw0 : wrap64 (n - 0) = n := by rw [Int.sub_zero]; exact w64 (by omega) (by omega)
 by_cases hn : n > 0
 ·have hnb : decide (n > 0) = true := decide_eq_true hn
  go_enter Try.func136, Try.ntmps136
  go_wp2_with (first | ((with_reducible refine gate_builtin (b := .append) (xs := #[.tmp 20, .tmp 21]) rfl ?_); at_builtin; refine Kd.R_append_zeros k77 (w0 := w) w.heap.size rfl (.tmp 20) (.tmp 21) 22 3 77 (.agg #[(.int .i64 0), (.int .i64 0), (.int .i64 0), (.int .i64 0)]) 32 rfl Try.underlying22 Try.underlying3 info77 rfl (by decide) (by omega) (.slice none 0 0) [] z77 n (fun _ => True) rfl rfl (k77_mkM _ _ _ z77) (fun _ _ => trivial) (Kd.R_nil _ _ _ _ _) HN.out.1 (Below.refl _ _) (Nat.le_refl _) (by have := HN.out; simp only [List.length_nil]; omega) ?_; intro v1 w1 ho hb hg hat; obtain ⟨A1, c1, e1⟩ := Kd.R_slice ho; subst e1; have HO := Aside0.mk (And.intro ho hb); clear ho hb hg hat))
  go_ret
  refine ⟨_, rfl, ?_, HO.out.2⟩
  have := Kd.R_take (m := 0) HO.out.1 (Nat.zero_le _)
  simpa using this
 ·have hnb : decide (n > 0) = false := decide_eq_false hn
  go_enter Try.func136, Try.ntmps136
  go_wp2_with fail
  go_ret
  exact ⟨_, rfl, Kd.R_nil _ _ _ _ _, Below.refl _ _⟩
set_option maxHeartbeats 8000000 in
set_option maxRecDepth 100000 in
theorem concat_n (g : Nat) (A0 A1 : Option Addr) (c0 c1 : Nat) (l0 l1 : List Ed) (w : World) (hg : w.heap[g]? = some (.cells #[.slice A0 l0.length c0, .slice A1 l1.length c1] 22 (0, 0))) (h0 : Kd.C k77 w A0 l0.length l0) (h1 : Kd.C k77 w A1 l1.length l1) (hl0 : l0.length ≤ 400) (hl1 : l1.length ≤ 400) :
  Calls Try.prog 95 #[.slice (some ⟨g, 0, none⟩) 2 2] w (LP w (l0 ++ l1)) := by
 have HG := Aside0.mk (And.intro hg (And.intro h0 h1))
 have HL := Aside0.mk (And.intro hl0 hl1)
 have hwa : wrap64 (l0.length : Int) = l0.length := w64 (by omega) (by omega)
 have hwb : wrap64 ((l0.length : Int) + (l1.length : Int)) = (l0.length : Int) + l1.length := w64 (by omega) (by omega)
 have hna : decide (wrap64 (l0.length : Int) < 0) = false := decide_eq_false (by rw [hwa]; omega)
 have hnb : decide (wrap64 ((l0.length : Int) + (l1.length : Int)) < 0) = false := decide_eq_false (by rw [hwb]; omega)
 clear hg h0 h1 hl0 hl1
 go_enter Try.func95, Try.ntmps95
 go_wp2_with fail
 go_loopg [3, 11] 2 (fun kq v3 v11 w' => ∃ i s : Int, v3 = .int .i64 s ∧ v11 = .int .i64 i ∧ Aside0 (Below w.heap.size w w') ∧ Aside0 ((i = 0 ∧ s = 0 ∧ kq = 2) ∨ (i = 1 ∧ s = l0.length ∧ kq = 1) ∨ (i = 2 ∧ s = (l0.length : Int) + l1.length ∧ kq = 0)))
 case atStart => exact ⟨0, 0, rfl, rfl, ⟨Below.refl _ _⟩, ⟨.inl ⟨rfl, rfl, rfl⟩⟩⟩
 case round =>
  obtain ⟨i, s, rfl, rfl, HB, hi⟩ := hrel
  have hg1 := blk_below HG.out.1 HB.out
  rcases hi.out with ⟨rfl, rfl, rfl⟩ | ⟨rfl, rfl, rfl⟩ | ⟨rfl, rfl, rfl⟩
  ·have q0 : wr.cell? ⟨g, 0, none⟩ = some (.slice A0 l0.length c0) := (blk_cell hg1 0).trans rfl
   clear hg1 hi
   go_wp2_with fail
   go_roundg 1
   case measure => omega
   case rel => exact ⟨1, l0.length, by first | rfl | (rw [hwa]), by first | rfl | decide, ⟨HB.out⟩, ⟨.inr (.inl ⟨rfl, rfl, rfl⟩)⟩⟩
  ·have q0 : wr.cell? ⟨g, 1, none⟩ = some (.slice A1 l1.length c1) := (blk_cell hg1 1).trans rfl
   clear hg1 hi
   go_wp2_with fail
   go_roundg 0
   case measure => omega
   case rel => exact ⟨2, (l0.length : Int) + l1.length, by first | rfl | (rw [hwb]), by first | rfl | decide, ⟨HB.out⟩, ⟨.inr (.inr ⟨rfl, rfl, rfl⟩)⟩⟩
  ·clear hg1 hi
   go_wp2_with fail
   refine (grow_n ((l0.length : Int) + l1.length) wr (by omega) (by have := HL.out; omega)).mono ?_
   rintro e w2 ⟨v, rfl, hr2, hb2⟩
   have HB1 := Aside0.mk (HB.out.trans (hb2.mono HB.out.size))
   have HO1 := Aside0.mk (Kd.R_lower hr2 HB.out.size)
   clear hr2 hb2 HB
   go_wp2_with fail
   go_loopg [6, 27] 2 (fun kq v6 v27 w' => ∃ (i : Int) (x : List Ed), v27 = .int .i64 i ∧ Aside0 (Below w.heap.size w w') ∧ Aside0 (Kd.R k77 77 w' w.heap.size (fun _ => True) v6 x) ∧ Aside0 ((i = 0 ∧ x = [] ∧ kq = 2) ∨ (i = 1 ∧ x = l0 ∧ kq = 1) ∨ (i = 2 ∧ x = l0 ++ l1 ∧ kq = 0)))
   case atStart => exact ⟨0, [], rfl, ⟨HB1.out⟩, ⟨HO1.out⟩, ⟨.inl ⟨rfl, rfl, rfl⟩⟩⟩
   case round =>
    clear HB1 HO1
    obtain ⟨i, x, rfl, HB, HO, hi⟩ := hrel
    have hg1 := blk_below HG.out.1 HB.out
    rcases hi.out with ⟨rfl, rfl, rfl⟩ | ⟨rfl, rfl, rfl⟩ | ⟨rfl, rfl, rfl⟩
    ·have q0 : wr.cell? ⟨g, 0, none⟩ = some (.slice A0 l0.length c0) := (blk_cell hg1 0).trans rfl
     clear hg1 hi
     go_wp2_with (first | ((with_reducible refine gate_builtin (b := .append) (xs := #[.tmp 31, .tmp 32]) rfl ?_); at_builtin; refine Kd.R_append_rows k77 (w0 := w) w.heap.size rfl (.tmp 31) (.tmp 32) 22 77 (.agg #[(.int .i64 0), (.int .i64 0), (.int .i64 0), (.int .i64 0)]) 32 rfl Try.underlying22 info77 rfl (by decide) (by omega) u6 [] l0 _ _ _ (fun _ => True) (fun _ => False) rfl rfl HO.out (Kd.C_below HG.out.2.1 HB.out) (fun _ _ h => h) (fun _ h => h.elim) (fun _ _ => trivial) HB.out HB.out.size (by have := HL.out; (try simp only [List.length_nil]); omega) ?_; intro v6' w9 ho hb hg hat; have HO2 := Aside0.mk ho; have HB2 := Aside0.mk hb; clear ho hb hg hat))
     go_roundg 1
     case measure => omega
     case rel => exact ⟨1, l0, by first | rfl | decide, ⟨HB2.out⟩, ⟨HO2.out⟩, ⟨.inr (.inl ⟨rfl, rfl, rfl⟩)⟩⟩
    ·have q0 : wr.cell? ⟨g, 1, none⟩ = some (.slice A1 l1.length c1) := (blk_cell hg1 1).trans rfl
     clear hg1 hi
     go_wp2_with (first | ((with_reducible refine gate_builtin (b := .append) (xs := #[.tmp 31, .tmp 32]) rfl ?_); at_builtin; refine Kd.R_append_rows k77 (w0 := w) w.heap.size rfl (.tmp 31) (.tmp 32) 22 77 (.agg #[(.int .i64 0), (.int .i64 0), (.int .i64 0), (.int .i64 0)]) 32 rfl Try.underlying22 info77 rfl (by decide) (by omega) u6 x l1 _ _ _ (fun _ => True) (fun _ => False) rfl rfl HO.out (Kd.C_below HG.out.2.2 HB.out) (fun _ _ h => h) (fun _ h => h.elim) (fun _ _ => trivial) HB.out HB.out.size (by have := HL.out; (try simp only [List.length_nil]); omega) ?_; intro v6' w9 ho hb hg hat; have HO2 := Aside0.mk ho; have HB2 := Aside0.mk hb; clear ho hb hg hat))
     go_roundg 0
     case measure => omega
     case rel => exact ⟨2, x ++ l1, by first | rfl | decide, ⟨HB2.out⟩, ⟨HO2.out⟩, ⟨.inr (.inr ⟨rfl, rfl, rfl⟩)⟩⟩
    ·clear hg1 hi
     go_wp2_with fail
     go_ret
     exact ⟨_, rfl, HO.out, HB.out⟩
def TP (w : World) (r : List Ed × Int) (e : Ending) (w' : World) : Prop := ∃ v, e = .returned (.tuple #[v, .int .i64 r.2]) ∧ Kd.R k77 77 w' w.heap.size (fun _ => True) v r.1 ∧ Below w.heap.size w w'
theorem TP.below {w w1 : World} {r : List Ed × Int} {e : Ending} {w' : World} (h : TP w1 r e w') (hb : Below w.heap.size w w1) : TP w r e w' := by
 obtain ⟨v, he, hr, hb2⟩ := h
 exact ⟨v, he, Kd.R_lower hr hb.size, hb.trans (hb2.mono hb.size)⟩
theorem normal_n {ms ts : Int} (hc : Ck ms ts) (A : Option Addr) (c : Nat) (l : List Ed) (hV : ∀ x ∈ l, Vd x) (hl : l.length ≤ 1000000000) (w : World) (hr : Kd.C k77 w A l.length l) (hcc : l.length ≤ c) :
  Calls Try.prog 57 #[.agg #[.int .i64 ms, .int .i64 ts], .slice A l.length c] w (TP w (nrmV ms ts l)) := by
 obtain ⟨k, hk⟩ := (normal_f hc l hV hl).rounds
 exact edit_clocks_normal.calls k ms ts A c l _ _ w hr hcc hk
def joinV (ms ts : Int) (a b : List Ed) : List Ed × Int := if chk a ms ts = 0 then (if chk b ms ts = 0 then nrmV ms ts (a ++ b) else ([], chk b ms ts)) else ([], chk a ms ts)
set_option maxHeartbeats 8000000 in
set_option maxRecDepth 100000 in
theorem join_n (A0 A1 : Option Addr) (c0 c1 : Nat) (l0 l1 : List Ed) (ms ts : Int) (w : World) (h0 : Kd.C k77 w A0 l0.length l0) (hc0 : l0.length ≤ c0) (h1 : Kd.C k77 w A1 l1.length l1) (hc1 : l1.length ≤ c1) :
  Calls Try.prog 48 #[.slice A0 l0.length c0, .slice A1 l1.length c1, .int .i64 ms, .int .i64 ts] w (TP w (joinV ms ts l0 l1)) := by
 have hu := Try.underlying79
 have hu2 := Try.underlying115
 have HG := Aside0.mk (And.intro (And.intro h0 hc0) (And.intro h1 hc1))
 have HV := Aside0.mk (show joinV ms ts l0 l1 = if chk l0 ms ts = 0 then (if chk l1 ms ts = 0 then nrmV ms ts (l0 ++ l1) else ([], chk l1 ms ts)) else ([], chk l0 ms ts) from rfl)
 have HK := Aside0.mk (show chk l0 ms ts = 0 → chk l1 ms ts = 0 → Ck ms ts ∧ (∀ x ∈ l0 ++ l1, Vd x) ∧ l0.length ≤ 20 ∧ l1.length ≤ 20 by
  intro e1 e2
  obtain ⟨a1, a2, a3, a4⟩ := chk_ok.1 e1
  obtain ⟨b1, b2, b3, b4⟩ := chk_ok.1 e2
  exact ⟨a1, fun x hx => (List.mem_append.1 hx).elim (a3 x) (b3 x), a2, b2⟩)
 generalize joinV ms ts l0 l1 = V at *
 clear h0 hc0 h1 hc1
 go_enter Try.func48, Try.ntmps48
 go_wp2_with fail
 have hst := Aside0.mk (And.intro (blk_new w (.cells #[.slice A0 l0.length c0, .slice A1 l1.length c1] 22 (0, 0))) (below_alloc (Below.refl w.heap.size w) (.cells #[.slice A0 l0.length c0, .slice A1 l1.length c1] 22 (0, 0))))
 go_loopg [17] 2 (fun kq v17 w' => ∃ i : Int, v17 = .int .i64 i ∧ Aside0 (w'.heap[w.heap.size]? = some (.cells #[.slice A0 l0.length c0, .slice A1 l1.length c1] 22 (0, 0)) ∧ Below w.heap.size w w') ∧ Aside0 ((i = 0 ∧ kq = 2) ∨ (i = 1 ∧ chk l0 ms ts = 0 ∧ kq = 1) ∨ (i = 2 ∧ chk l0 ms ts = 0 ∧ chk l1 ms ts = 0 ∧ kq = 0)))
 case atStart => exact ⟨0, rfl, ⟨hst.out⟩, ⟨.inl ⟨rfl, rfl⟩⟩⟩
 case round =>
  clear hst
  obtain ⟨i, rfl, HB, hi⟩ := hrel
  rcases hi.out with ⟨rfl, rfl⟩ | ⟨rfl, e1, rfl⟩ | ⟨rfl, e1, e2, rfl⟩
  ·have q0 : wr.cell? ⟨w.heap.size, 0, none⟩ = some (.slice A0 l0.length c0) := (blk_cell HB.out.1 0).trans rfl
   clear hi
   go_wp2_with fail
   refine (check_n A0 c0 l0 ms ts wr (Kd.C_below HG.out.1.1 HB.out.2) HG.out.1.2).mono ?_
   rintro e w2 ⟨rfl, hb2⟩
   have HB2 := Aside0.mk (And.intro (blk_below HB.out.1 hb2) (HB.out.2.trans (hb2.mono HB.out.2.size)))
   clear hb2 HB q0
   by_cases hz : chk l0 ms ts = 0
   ·have HZ := Aside0.mk hz
    rw [hz]
    clear hz
    go_wp2_with fail
    go_roundg 1
    case measure => omega
    case rel => exact ⟨1, by first | rfl | decide, ⟨HB2.out⟩, ⟨.inr (.inl ⟨rfl, HZ.out, rfl⟩)⟩⟩
   ·have HV2 := Aside0.mk (show V = ([], chk l0 ms ts) by rw [HV.out, if_neg hz])
    clear HV HK
    generalize chk l0 ms ts = C at *
    go_wp2_with fail
    go_ret2
    rw [HV2.out]
    exact ⟨_, rfl, Kd.R_nil _ _ _ _ _, HB2.out.2⟩
  ·have q0 : wr.cell? ⟨w.heap.size, 1, none⟩ = some (.slice A1 l1.length c1) := (blk_cell HB.out.1 1).trans rfl
   have E1 := Aside0.mk e1
   clear hi e1
   go_wp2_with fail
   refine (check_n A1 c1 l1 ms ts wr (Kd.C_below HG.out.2.1 HB.out.2) HG.out.2.2).mono ?_
   rintro e w2 ⟨rfl, hb2⟩
   have HB2 := Aside0.mk (And.intro (blk_below HB.out.1 hb2) (HB.out.2.trans (hb2.mono HB.out.2.size)))
   clear hb2 HB q0
   by_cases hz : chk l1 ms ts = 0
   ·have HZ := Aside0.mk hz
    rw [hz]
    clear hz
    go_wp2_with fail
    go_roundg 0
    case measure => omega
    case rel => exact ⟨2, by first | rfl | decide, ⟨HB2.out⟩, ⟨.inr (.inr ⟨rfl, E1.out, HZ.out, rfl⟩)⟩⟩
   ·have HV2 := Aside0.mk (show V = ([], chk l1 ms ts) by rw [HV.out, if_pos E1.out, if_neg hz])
    clear HV HK E1
    generalize chk l1 ms ts = C at *
    go_wp2_with fail
    go_ret2
    rw [HV2.out]
    exact ⟨_, rfl, Kd.R_nil _ _ _ _ _, HB2.out.2⟩
  ·have HV2 := Aside0.mk (show V = nrmV ms ts (l0 ++ l1) by rw [HV.out, if_pos e1, if_pos e2])
   have HQ := Aside0.mk (HK.out e1 e2)
   clear HV HK hi e1 e2
   have hg2 := Aside0.mk (blk_new wr (.cells #[.slice A0 l0.length c0, .slice A1 l1.length c1] 22 (0, 0)))
   have hb2 := Aside0.mk (HB.out.2.trans ((below_alloc (Below.refl wr.heap.size wr) (.cells #[.slice A0 l0.length c0, .slice A1 l1.length c1] 22 (0, 0))).mono HB.out.2.size))
   go_wp2_with fail
   refine (concat_n wr.heap.size A0 A1 c0 c1 l0 l1 _ hg2.out (Kd.C_below HG.out.1.1 hb2.out) (Kd.C_below HG.out.2.1 hb2.out) (by have := HQ.out.2.2.1; omega) (by have := HQ.out.2.2.2; omega)).mono ?_
   rintro e w3 ⟨v, rfl, hr3, hb3⟩
   have HB3 := Aside0.mk (And.intro hr3 (hb2.out.trans (hb3.mono hb2.out.size)))
   obtain ⟨A3, c3, rfl⟩ := Kd.R_slice hr3
   have HQ2 := Aside0.mk (And.intro HQ.out.1 (And.intro HQ.out.2.1 (show (l0 ++ l1).length ≤ 1000000000 by have := HQ.out.2.2; simp only [List.length_append]; omega)))
   clear hr3 hb3 hg2 hb2 HB HQ
   generalize l0 ++ l1 = L at *
   go_wp2_with fail
   refine (normal_n HQ2.out.1 A3 c3 L HQ2.out.2.1 HQ2.out.2.2 w3 (Kd.R_reads' HB3.out.1).2.2 (Kd.R_reads' HB3.out.1).2.1).mono ?_
   rintro e w4 ⟨v4, rfl, hr4, hb4⟩
   have H4 := Aside0.mk (And.intro (Kd.R_lower hr4 HB3.out.2.size) (HB3.out.2.trans (hb4.mono HB3.out.2.size)))
   obtain ⟨A4, c4, rfl⟩ := Kd.R_slice hr4
   clear hr4 hb4
   rw [← HV2.out] at H4 ⊢
   go_wp2_with fail
   go_ret2
   exact ⟨_, rfl, H4.out.1, H4.out.2⟩
structure Dx (w W : World) (ms ts : Int) (g : Nat) : Prop where
 c : W.heap[g]? = some (clO ms ts)
 below : Below w.heap.size w W
theorem Dx.step {w W W2 : World} {ms ts : Int} {g : Nat} (h : Dx w W ms ts g) (hb : Below W.heap.size W W2) : Dx w W2 ms ts g := ⟨blk_below h.c hb, h.below.trans (hb.mono h.below.size)⟩
theorem Dx.start {w W : World} (ms ts : Int) (h : Below w.heap.size w W) : Dx w (W.alloc (clO ms ts)) ms ts W.heap.size := ⟨blk_new W _, h.trans ((below_alloc (Below.refl W.heap.size W) _).mono h.size)⟩
end Go.Proofs.Ytpbhepdgamoiaaa.Jn
namespace Go.Proofs.Ytpbhepdgamoiaaa.E
open Go.RowKit Go Go.Proofs.YtpbhepdgamoiaaaW.PrintWords Go.Proofs.YtpbhepdgamoiaaaW.PrintLast Go.Proofs.YtpbhepdgamoiaaaW.PrintMore Go.Proofs.Ytpbhepdgamoiaaa.Pe Go.Proofs.Ytpbhepdgamoiaaa.Jn
def edit_Join.f (l0 : List (S77)) (l1 : List (S77)) (a2 : Int) (a3 : Int) : Option ((List (S77)) × Int) := some (joinV a2 a3 l0 l1)
theorem edit_Join.calls (A0 : Option Addr) (c0 : Nat) (l0 : List (S77)) (A1 : Option Addr) (c1 : Nat) (l1 : List (S77)) (a2 : Int) (a3 : Int) (r1 : List (S77)) (r2 : Int) (w : World) (hr0 : Kd.C k77 w A0 l0.length l0) (hc0 : l0.length ≤ c0) (hr1 : Kd.C k77 w A1 l1.length l1) (hc1 : l1.length ≤ c1) (h : edit_Join.f l0 l1 a2 a3 = some (r1, r2)) :
  Calls Try.prog 48 #[.slice A0 l0.length c0, .slice A1 l1.length c1, .int .i64 a2, .int .i64 a3] w fun e w' => ∃ v0_ : Value, e = .returned (.tuple #[v0_, .int .i64 r2]) ∧ Kd.R k77 77 w' w.heap.size (fun _ => True) v0_ r1 ∧ Below w.heap.size w w' := by
 have hV : joinV a2 a3 l0 l1 = (r1, r2) := Option.some.inj h
 have := join_n A0 A1 c0 c1 l0 l1 a2 a3 w hr0 hc0 hr1 hc1
 rw [hV] at this
 exact this
end Go.Proofs.Ytpbhepdgamoiaaa.E

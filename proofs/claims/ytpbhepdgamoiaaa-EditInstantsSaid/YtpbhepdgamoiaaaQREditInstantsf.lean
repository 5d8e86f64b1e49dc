/-
  The normal list of a list of edits as a plain value, and that the code tells it. Whether lists are equal, alike; the first example of the chapter. Whether two lists show the same. The reference's natural numbers, in digits of nine decimal places: what its printed functions compute. The reference's natural numbers: sums, differences, products, quotients, small ones. The reference divides. The reference's rational numbers as rational numbers. The reference's normal list is the same. What the reference tells of a list: its normal list, its first error, its length. The reference's whole number of a rational number.
-/
import Derived.Test.YtpbhepdgamoiaaaQREditInstantsa
import Derived.Test.YtpbhepdgamoiaaaQREditInstantsc
import Derived.Test.YtpbhepdgamoiaaaQREditInstantsd
import Derived.Test.YtpbhepdgamoiaaaQREditInstantse
namespace Go.Proofs.Ytpbhepdgamoiaaa.E
open Go.Proofs.Ytpbhepdgamoiaaa.Z Go.RowKit Go.Proofs.YtpbhepdgamoiaaaW.PrintWords Go.Proofs.YtpbhepdgamoiaaaW.PrintLast Go.Proofs.YtpbhepdgamoiaaaW.PrintMore
attribute [local go_sem] max2_int min2_int max_two min_two max_three min_three max_four min_four
set_option linter.unusedVariables false
set_option linter.unusedSimpArgs false
attribute [local go_sem high] eqA37
mutual
def dioramalaw10_EditInstants.j0 : Nat → List (S63) → Bool → List (S77) → Int → Int → Int → Int → Option (Bool)
  | 0, _, _, _, _, _, _, _ => none
  | k + 1, x5, x38, x1225000, x1225001, x1225002, x1236000, x1236001 => if x38 = true then ((dioramalaw10_awake.f k).bind fun t1236 => (some t1236)) else (dioramalaw10_EditInstants.l0 k x5 0 x1225000 x1225001 x1225002 x1236000 x1236001)
def dioramalaw10_EditInstants.l0 : Nat → List (S63) → Int → List (S77) → Int → Int → Int → Int → Option (Bool)
  | 0, _, _, _, _, _, _, _ => none
  | k + 1, x5, x9, x1225000, x1225001, x1225002, x1236000, x1236001 => if x9 < (x5.length : Int) then (if 0 ≤ x9 then ((edit_Media.f x1225000 x1225001 x1225002 ((rd_T63 x5 x9).f0.f0) ((rd_T63 x5 x9).f0.f1)).bind fun bt1238 => (if bt1238.2.2.1 = true then (if bt1238.2.2.2 = 0 then (if (!(bt1238.1 == x1236000) || (!(bt1238.2.1 == x1236001))) = true then (some false) else (dioramalaw10_EditInstants.l0 k x5 (wrap64 (x9 + 1)) x1225000 x1225001 x1225002 x1236000 x1236001)) else (some false)) else (some false))) else (none)) else ((dioramalaw10_awake.f k).bind fun t1243 => (some t1243))
end
def dioramalaw10_EditInstants.f (k : Nat) (l0_0 : List (S77)) (a0_1 : Int) (a0_2 : Int) (a1_0 : Int) (a1_1 : Int) : Option (Bool) := (dioramalaw10_many.f l0_0).bind fun t1226 => (if t1226 = true then ((dioramalaw10_awake.f k).bind fun t1227 => (some t1227)) else ((edit_Back.f l0_0 a0_1 a0_2 a1_0 a1_1).bind fun bt1228 => ((dioramaref02_Lowest.f k a1_0 a1_1).bind fun bt1232 => (if bt1228.2 = 0 then (dioramalaw10_EditInstants.j0 k bt1228.1 (bt1232.2.2 != 0) l0_0 a0_1 a0_2 bt1232.1 bt1232.2.1) else (dioramalaw10_EditInstants.j0 k bt1228.1 true l0_0 a0_1 a0_2 bt1232.1 bt1232.2.1)))))
set_option maxHeartbeats 8000000 in
set_option maxRecDepth 100000 in
theorem dioramalaw10_EditInstants.calls (k : Nat) (A0_0 : Option Addr) (c0_0 : Nat) (l0_0 : List (S77)) (a0_1 : Int) (a0_2 : Int) (a1_0 : Int) (a1_1 : Int) (r : Bool) (w : World) (hr0_0 : Kd.C k77 w A0_0 l0_0.length l0_0) (hc0_0 : l0_0.length ≤ c0_0) (h : dioramalaw10_EditInstants.f k l0_0 a0_1 a0_2 a1_0 a1_1 = some r) :
  Calls Try.prog 13 #[.agg #[.slice A0_0 l0_0.length c0_0, .int .i64 a0_1, .int .i64 a0_2], .agg #[.int .i64 a1_0, .int .i64 a1_1]] w fun e w' => e = .returned (.bool r) ∧ Below w.heap.size w w' := by
 have hu24 := Try.underlying24; have hu37 := Try.underlying37; have HR0_0 := Aside0.mk hr0_0; have HC0_0 := Aside0.mk hc0_0; clear hr0_0 hc0_0; have HB := Aside0.mk (Below.refl w.heap.size w); have H : ((dioramalaw10_many.f l0_0).bind fun t1226 => (if t1226 = true then ((dioramalaw10_awake.f k).bind fun t1227 => (some t1227)) else ((edit_Back.f l0_0 a0_1 a0_2 a1_0 a1_1).bind fun bt1228 => ((dioramaref02_Lowest.f k a1_0 a1_1).bind fun bt1232 => (if bt1228.2 = 0 then (dioramalaw10_EditInstants.j0 k bt1228.1 (bt1232.2.2 != 0) l0_0 a0_1 a0_2 bt1232.1 bt1232.2.1) else (dioramalaw10_EditInstants.j0 k bt1228.1 true l0_0 a0_1 a0_2 bt1232.1 bt1232.2.1)))))) = some r := h
 clear h; obtain ⟨t1226, A3, H⟩ := ob H
 by_cases c4 : t1226 = true
 ·subst c4; rw [if_pos rfl] at H; obtain ⟨t1227, A5, H⟩ := ob H; obtain rfl := Option.some.inj H
  go_enter Try.func13, Try.ntmps13
  go_wp2_with (first | ((with_reducible refine gate_dst (N := 2) rfl ?_); refine zB 2 24 #[.slice A0_0 l0_0.length c0_0, .int .i64 a0_1, .int .i64 a0_2] ?_; intro gb1224 hg w6 hbox hb; have BK1224 := Aside0.mk hbox; have GW1224 := gz hg; have GE1224 := gz hg; replace HB := bp hb; clear hb hbox hg) | ((with_reducible refine gate_dst (N := 3) rfl ?_); refine zB 3 37 #[.int .i64 a1_0, .int .i64 a1_1] ?_; intro gb1225 hg w7 hbox hb; have BK1225 := Aside0.mk hbox; have GW1225 := gz hg; have GE1225 := gz hg; replace HB := bp hb; have NB1224_1225 := Aside0.mk ((by rw [hg]; exact Nat.ne_of_lt (bl BK1224) : gb1224 ≠ gb1225)); have NB1225_1224 := Aside0.mk ((by rw [hg]; exact Nat.ne_of_gt (bl BK1224) : gb1225 ≠ gb1224)); replace BK1224 := kb BK1224 hb; clear hb hbox hg; have hnb8 := NB1224_1225.out; have hnc8 := NB1225_1224.out; obtain ⟨hcz9_0, hcz9_1, hcz9_2, hfz9_0, hfz9_1, hfz9_2⟩ := xc3 BK1224) | ((with_reducible refine gate_callee (f := 19) rfl ?_); refine zC 15 Try.func19 #[.slice A0_0 l0_0.length c0_0] ?_; (with_reducible refine (dioramalaw10_many.calls _ _ l0_0 true _ ?side1 ?side2 A3.out).mono ?_); (case side1 => exact cz HR0_0); (case side2 => exact HC0_0.out); rintro e w' ⟨rfl, ⟨nd, rfl⟩⟩; refine ⟨_, rfl, ?_⟩) | ((with_reducible refine gate_callee (f := 20) rfl ?_); refine zC 16 Try.func20 #[] ?_; (with_reducible refine (dioramalaw10_awake.calls k  t1227 _ A5.out).mono ?_); rintro e w10 ⟨rfl, hb⟩; refine ⟨_, rfl, ?_⟩; replace BK1224 := kb BK1224 hb; replace BK1225 := kb BK1225 hb; replace HB := bp hb; clear hb))
  go_ret
  exact ⟨ez, bz⟩
 ·obtain rfl := bf c4; rw [if_neg (show ¬ (false = true) by decide)] at H; obtain ⟨⟨t1228, t1231⟩, A11, H⟩ := ob H
  (try dsimp only at H)
  obtain ⟨⟨t1232, t1233, t1234⟩, A12, H⟩ := ob H
  (try dsimp only at H)
  have HC13 := Aside0.mk H; clear H
  go_enter Try.func13, Try.ntmps13
  go_upto_region 5 with (first | ((with_reducible refine gate_dst (N := 2) rfl ?_); refine zB 2 24 #[.slice A0_0 l0_0.length c0_0, .int .i64 a0_1, .int .i64 a0_2] ?_; intro gb1224 hg w14 hbox hb; have BK1224 := Aside0.mk hbox; have GW1224 := gz hg; have GE1224 := gz hg; replace HB := bp hb; clear hb hbox hg) | ((with_reducible refine gate_dst (N := 3) rfl ?_); refine zB 3 37 #[.int .i64 a1_0, .int .i64 a1_1] ?_; intro gb1225 hg w15 hbox hb; have BK1225 := Aside0.mk hbox; have GW1225 := gz hg; have GE1225 := gz hg; replace HB := bp hb; have NB1224_1225 := Aside0.mk ((by rw [hg]; exact Nat.ne_of_lt (bl BK1224) : gb1224 ≠ gb1225)); have NB1225_1224 := Aside0.mk ((by rw [hg]; exact Nat.ne_of_gt (bl BK1224) : gb1225 ≠ gb1224)); replace BK1224 := kb BK1224 hb; clear hb hbox hg; have hnb16 := NB1224_1225.out; have hnc16 := NB1225_1224.out; obtain ⟨hcz17_0, hcz17_1, hcz17_2, hfz17_0, hfz17_1, hfz17_2⟩ := xc3 BK1224) | ((with_reducible refine gate_callee (f := 19) rfl ?_); refine zC 15 Try.func19 #[.slice A0_0 l0_0.length c0_0] ?_; (with_reducible refine (dioramalaw10_many.calls _ _ l0_0 false _ ?side1 ?side2 A3.out).mono ?_); (case side1 => exact cz HR0_0); (case side2 => exact HC0_0.out); rintro e w' ⟨rfl, ⟨nd, rfl⟩⟩; refine ⟨_, rfl, ?_⟩; (try (rw [drewN_self w15]; generalize hq_ : World.drewN w15 _ = w15; have n0_ : Aside0 (w15.heap[gb1224]? = some (.cells #[.slice A0_0 l0_0.length c0_0, .int .i64 a0_1, .int .i64 a0_2] 24 (0, 0))) := ⟨by rw [← hq_]; exact kz⟩; have n1_ : Aside0 (w15.heap[gb1225]? = some (.cells #[.int .i64 a1_0, .int .i64 a1_1] 37 (0, 0))) := ⟨by rw [← hq_]; exact kz⟩; have n2_ : Aside0 (Below w.heap.size w w15) := ⟨by rw [← hq_]; exact bz⟩; clear BK1224 BK1225 HB hq_; have BK1224 := n0_; have BK1225 := n1_; have HB := n2_; clear n0_ n1_ n2_)); obtain ⟨hcz18_0, hcz18_1, hfz18_0, hfz18_1⟩ := xc2 BK1225; obtain ⟨hcy0, hcy1, hcy2, hfy0, hfy1, hfy2⟩ := xc3 BK1224) | ((with_reducible refine gate_callee (f := 46) rfl ?_); refine zC 25 Try.func46 #[.slice A0_0 l0_0.length c0_0, .int .i64 a0_1, .int .i64 a0_2, .agg #[.int .i64 a1_0, .int .i64 a1_1]] ?_; (with_reducible refine (edit_Back.calls _ _ l0_0 a0_1 a0_2 a1_0 a1_1 t1228 t1231 _ ?side1 ?side2 A11.out).mono ?_); (case side1 => exact cz HR0_0); (case side2 => exact HC0_0.out); rintro e w19 ⟨v1229, rfl, ho0, hb⟩; refine ⟨_, rfl, ?_⟩; have HO1230 := Aside0.mk (Kd.R_lower ho0 sz); replace BK1224 := kb BK1224 hb; replace BK1225 := kb BK1225 hb; replace HB := bp hb; clear hb ho0; obtain ⟨hcz20_0, hcz20_1, hfz20_0, hfz20_1⟩ := xc2 BK1225) | ((with_reducible refine gate_callee (f := 47) rfl ?_); refine zC 30 Try.func47 #[.agg #[.int .i64 a1_0, .int .i64 a1_1]] ?_; (with_reducible refine (dioramaref02_Lowest.calls k a1_0 a1_1 t1232 t1233 t1234 _ A12.out).mono ?_); rintro e w21 ⟨rfl, hb⟩; refine ⟨_, rfl, ?_⟩; replace HO1230 := Aside0.mk (Kd.R_below (rz HO1230) hb); replace BK1224 := kb BK1224 hb; replace BK1225 := kb BK1225 hb; replace HB := bp hb; clear hb) | ((with_reducible refine gate_dst (N := 7) rfl ?_); refine zB 7 37 #[.int .i64 0, .int .i64 0] ?_; intro gb1235 hg w22 hbox hb; replace HO1230 := Aside0.mk (Kd.R_below (rz HO1230) hb); have BK1235 := Aside0.mk hbox; have GW1235 := gz hg; have GE1235 := gz hg; replace HB := bp hb; have NB1224_1235 := Aside0.mk ((by rw [hg]; exact Nat.ne_of_lt (bl BK1224) : gb1224 ≠ gb1235)); have NB1235_1224 := Aside0.mk ((by rw [hg]; exact Nat.ne_of_gt (bl BK1224) : gb1235 ≠ gb1224)); replace BK1224 := kb BK1224 hb; have NB1225_1235 := Aside0.mk ((by rw [hg]; exact Nat.ne_of_lt (bl BK1225) : gb1225 ≠ gb1235)); have NB1235_1225 := Aside0.mk ((by rw [hg]; exact Nat.ne_of_gt (bl BK1225) : gb1235 ≠ gb1225)); replace BK1225 := kb BK1225 hb; clear hb hbox hg; have hnb23 := NB1235_1224.out; have hnc23 := NB1224_1235.out; have hnb24 := NB1235_1225.out; have hnc24 := NB1225_1235.out; obtain ⟨hcz25_0, hcz25_1, hfz25_0, hfz25_1⟩ := xc2 BK1235))
  (try simp only [Act.put, List.setIfInBounds_toArray, List.set_cons_zero, List.set_cons_succ])
  go_cut [38] (fun v38 wc => ∃ (kq : Nat) (x38_12 : Bool), v38 = .bool x38_12 ∧ Aside0 (dioramalaw10_EditInstants.j0 kq t1228 x38_12 l0_0 a0_1 a0_2 t1232 t1233 = some r) ∧ Aside0 (kq ≤ k) ∧ Aside0 (Kd.R k63 63 wc w.heap.size (fun _ => True) v1229 t1228) ∧ Aside0 (wc.heap[gb1224]? = some (.cells #[(.slice A0_0 l0_0.length c0_0), .int .i64 a0_1, .int .i64 a0_2] 24 (0, 0))) ∧ Aside0 (wc.heap[gb1225]? = some (.cells #[.int .i64 a1_0, .int .i64 a1_1] 37 (0, 0))) ∧ Aside0 (wc.heap[gb1235]? = some (.cells #[.int .i64 t1232, .int .i64 t1233] 37 (0, 0))) ∧ Aside0 (Below w.heap.size w wc))
  case first =>
   have H := HC13.out; clear HC13
   by_cases c26 : t1231 = 0
   ·rw [if_pos c26] at H; have c26b0 : (t1231 == 0) = true := beq_iff_eq.mpr c26; have c26b1 : (t1231 != 0) = false := bne_eq_false_iff_eq.mpr c26; clear c26
    (first | rw [c26b0] | (simp only [i64_w, i32_w]; rw [c26b0]) | skip)
    have H' := Aside0.mk H; clear H
    go_wp2
    go_meet
    case rel => exact ⟨_, ((t1234 != 0)), jz, H', ⟨by first | omega | exact Nat.le_refl _⟩, ⟨by (with_reducible repeat (first | apply Kd.R_alloc | apply Kd.R_drewN | apply Kd.R_drew)); exact Kd.R_mono (Kd.R_far (p := ⟨gb1235, 1, none⟩) (Kd.R_far (p := ⟨gb1235, 0, none⟩) (Kd.R_types HO1230.out BK1235.out (by decide)) (fun _ hk => hk.2) (.int .i64 t1232)) (fun _ hk => hk.2) (.int .i64 t1233)) (fun _ hk => trivial)⟩, ⟨by (with_reducible repeat (first | refine blk_drewN ?_ _ | refine blk_drew ?_ | refine blk_alloc ?_ _)); refine blk_far ?_ NB1224_1235.out _; (with_reducible repeat (first | refine blk_drewN ?_ _ | refine blk_drew ?_ | refine blk_alloc ?_ _)); refine blk_far ?_ NB1224_1235.out _; (with_reducible repeat (first | refine blk_drewN ?_ _ | refine blk_drew ?_ | refine blk_alloc ?_ _)); exact BK1224.out⟩, ⟨by (with_reducible repeat (first | refine blk_drewN ?_ _ | refine blk_drew ?_ | refine blk_alloc ?_ _)); refine blk_far ?_ NB1225_1235.out _; (with_reducible repeat (first | refine blk_drewN ?_ _ | refine blk_drew ?_ | refine blk_alloc ?_ _)); refine blk_far ?_ NB1225_1235.out _; (with_reducible repeat (first | refine blk_drewN ?_ _ | refine blk_drew ?_ | refine blk_alloc ?_ _)); exact BK1225.out⟩, ⟨by (with_reducible repeat (first | refine blk_drewN ?_ _ | refine blk_drew ?_ | refine blk_alloc ?_ _)); refine blk_put (cs := #[.int .i64 t1232, .int .i64 0]) ?_ 1 _ rfl; (with_reducible repeat (first | refine blk_drewN ?_ _ | refine blk_drew ?_ | refine blk_alloc ?_ _)); refine blk_put (cs := #[.int .i64 0, .int .i64 0]) ?_ 0 _ rfl; (with_reducible repeat (first | refine blk_drewN ?_ _ | refine blk_drew ?_ | refine blk_alloc ?_ _)); exact BK1235.out⟩, ⟨bz⟩⟩
   ·rw [if_neg c26] at H; have c26b0 : (t1231 == 0) = false := beq_eq_false_iff_ne.mpr c26; have c26b1 : (t1231 != 0) = true := bne_iff_ne.mpr c26
    (first | rw [c26b0] | (simp only [i64_w, i32_w]; rw [c26b0]) | skip)
    have H' := Aside0.mk H; clear H
    go_wp2
    go_meet
    case rel => exact ⟨_, (true), jz, H', ⟨by first | omega | exact Nat.le_refl _⟩, ⟨by (with_reducible repeat (first | apply Kd.R_alloc | apply Kd.R_drewN | apply Kd.R_drew)); exact Kd.R_mono (Kd.R_far (p := ⟨gb1235, 1, none⟩) (Kd.R_far (p := ⟨gb1235, 0, none⟩) (Kd.R_types HO1230.out BK1235.out (by decide)) (fun _ hk => hk.2) (.int .i64 t1232)) (fun _ hk => hk.2) (.int .i64 t1233)) (fun _ hk => trivial)⟩, ⟨by (with_reducible repeat (first | refine blk_drewN ?_ _ | refine blk_drew ?_ | refine blk_alloc ?_ _)); refine blk_far ?_ NB1224_1235.out _; (with_reducible repeat (first | refine blk_drewN ?_ _ | refine blk_drew ?_ | refine blk_alloc ?_ _)); refine blk_far ?_ NB1224_1235.out _; (with_reducible repeat (first | refine blk_drewN ?_ _ | refine blk_drew ?_ | refine blk_alloc ?_ _)); exact BK1224.out⟩, ⟨by (with_reducible repeat (first | refine blk_drewN ?_ _ | refine blk_drew ?_ | refine blk_alloc ?_ _)); refine blk_far ?_ NB1225_1235.out _; (with_reducible repeat (first | refine blk_drewN ?_ _ | refine blk_drew ?_ | refine blk_alloc ?_ _)); refine blk_far ?_ NB1225_1235.out _; (with_reducible repeat (first | refine blk_drewN ?_ _ | refine blk_drew ?_ | refine blk_alloc ?_ _)); exact BK1225.out⟩, ⟨by (with_reducible repeat (first | refine blk_drewN ?_ _ | refine blk_drew ?_ | refine blk_alloc ?_ _)); refine blk_put (cs := #[.int .i64 t1232, .int .i64 0]) ?_ 1 _ rfl; (with_reducible repeat (first | refine blk_drewN ?_ _ | refine blk_drew ?_ | refine blk_alloc ?_ _)); refine blk_put (cs := #[.int .i64 0, .int .i64 0]) ?_ 0 _ rfl; (with_reducible repeat (first | refine blk_drewN ?_ _ | refine blk_drew ?_ | refine blk_alloc ?_ _)); exact BK1235.out⟩, ⟨bz⟩⟩
  case rest =>
   clear HC13
   try clear c1
   try clear c2
   try clear p2
   try clear c4
   try clear c8
   try clear c13
   try clear c16
   try clear c19
   try clear c20
   try clear c23
   try clear c24
   try clear c26
   try clear c26b0
   try clear c26b1
   try clear hcz17_0
   try clear hcz17_1
   try clear hcz17_2
   try clear hcz18_0
   try clear hcz18_1
   try clear hcz20_0
   try clear hcz20_1
   try clear hcz25_0
   try clear hcz25_1
   try clear hcz9_0
   try clear hcz9_1
   try clear hcz9_2
   try clear hfz17_0
   try clear hfz17_1
   try clear hfz17_2
   try clear hfz18_0
   try clear hfz18_1
   try clear hfz20_0
   try clear hfz20_1
   try clear hfz25_0
   try clear hfz25_1
   try clear hfz9_0
   try clear hfz9_1
   try clear hfz9_2
   obtain ⟨kq, x38_12, rfl, HA, HJ12, HO_5, BK1224, BK1225, BK1235, HB⟩ := hcut
   cases kq with
   | zero => exact absurd HA.out (by simp [dioramalaw10_EditInstants.j0])
   | succ kj12 =>
    have H := HA.out; clear HA; simp only [dioramalaw10_EditInstants.j0] at H
    by_cases c27 : x38_12 = true
    ·subst c27; rw [if_pos rfl] at H; obtain ⟨t1236, A28, H⟩ := ob H; obtain rfl := Option.some.inj H
     go_wp2_with (first | ((with_reducible refine gate_callee (f := 20) rfl ?_); refine zC 39 Try.func20 #[] ?_; (with_reducible refine (dioramalaw10_awake.calls kj12  t1236 _ A28.out).mono ?_); rintro e w29 ⟨rfl, hb⟩; refine ⟨_, rfl, ?_⟩; replace HO_5 := Aside0.mk (Kd.R_below (rz HO_5) hb); replace BK1224 := kb BK1224 hb; replace BK1225 := kb BK1225 hb; replace BK1235 := kb BK1235 hb; replace HB := bp hb; clear hb))
     go_ret
     exact ⟨ez, bz⟩
    ·obtain rfl := bf c27; rw [if_neg (show ¬ (false = true) by decide)] at H; have H' := Aside0.mk H; clear H
     go_wp2
     go_loopg [9] kj12 (fun kq v9 w' => ∃ (x9_2 : Int), v9 = .int .i64 x9_2 ∧ Aside0 (dioramalaw10_EditInstants.l0 kq t1228 x9_2 l0_0 a0_1 a0_2 t1232 t1233 = some r) ∧ Aside0 (kq ≤ kj12) ∧ Aside0 (Kd.R k63 63 w' w.heap.size (fun _ => True) v1229 t1228) ∧ Aside0 (w'.heap[gb1224]? = some (.cells #[(.slice A0_0 l0_0.length c0_0), .int .i64 a0_1, .int .i64 a0_2] 24 (0, 0))) ∧ Aside0 (w'.heap[gb1225]? = some (.cells #[.int .i64 a1_0, .int .i64 a1_1] 37 (0, 0))) ∧ Aside0 (w'.heap[gb1235]? = some (.cells #[.int .i64 t1232, .int .i64 t1233] 37 (0, 0))) ∧ Aside0 (Below w.heap.size w w'))
     case atStart => exact ⟨(0), jz, H', ⟨Nat.le_refl _⟩, ⟨rz HO_5⟩, ⟨kz⟩, ⟨kz⟩, ⟨kz⟩, ⟨bz⟩⟩
     case round =>
      clear H'
      try clear c1
      try clear c2
      try clear p2
      try clear c4
      try clear c8
      try clear c13
      try clear c16
      try clear c19
      try clear c20
      try clear c23
      try clear c24
      try clear c26
      try clear c26b0
      try clear c26b1
      try clear c27
      try clear hcz17_0
      try clear hcz17_1
      try clear hcz17_2
      try clear hcz18_0
      try clear hcz18_1
      try clear hcz20_0
      try clear hcz20_1
      try clear hcz25_0
      try clear hcz25_1
      try clear hcz9_0
      try clear hcz9_1
      try clear hcz9_2
      try clear hfz17_0
      try clear hfz17_1
      try clear hfz17_2
      try clear hfz18_0
      try clear hfz18_1
      try clear hfz20_0
      try clear hfz20_1
      try clear hfz25_0
      try clear hfz25_1
      try clear hfz9_0
      try clear hfz9_1
      try clear hfz9_2
      try clear p2
      obtain ⟨x9_2, rfl, HA, HK2, HO_5, BK1224, BK1225, BK1235, HB⟩ := hrel
      cases gk with
      | zero => exact absurd HA.out (by simp [dioramalaw10_EditInstants.l0])
      | succ k2 =>
       have H := HA.out; clear HA; simp only [dioramalaw10_EditInstants.l0] at H
       by_cases c30 : x9_2 < (t1228.length : Int)
       ·rw [if_pos c30] at H; have c30b0 : decide (x9_2 < (t1228.length : Int)) = true := decide_eq_true c30; clear c30
        by_cases c31 : 0 ≤ x9_2
        ·rw [if_pos c31] at H; have c31b0 : decide (0 ≤ x9_2) = true := decide_eq_true c31; clear c31; obtain ⟨⟨t1238, t1239, t1240, t1241⟩, A32, H⟩ := ob H
         (try dsimp only at H)
         by_cases c33 : t1240 = true
         ·subst c33; rw [if_pos rfl] at H
          by_cases c34 : t1241 = 0
          ·rw [if_pos c34] at H; have c34b0 : (t1241 == 0) = true := beq_iff_eq.mpr c34; have c34b1 : (t1241 != 0) = false := bne_eq_false_iff_eq.mpr c34; clear c34
           by_cases c35 : (!(t1238 == t1232) || (!(t1239 == t1233))) = true
           ·rw [if_pos c35] at H; have c35b0 : (!(t1238 == t1232) || (!(t1239 == t1233))) = true := c35; clear c35; obtain rfl := Option.some.inj H; obtain ⟨Ao36, co36, eo36⟩ := Kd.R_slice HO_5.out; subst eo36
            try go_wp2
            replace HO_5 := Aside0.mk (Kd.R_drew HO_5.out); replace BK1224 := Aside0.mk (blk_drew BK1224.out); replace BK1225 := Aside0.mk (blk_drew BK1225.out); replace BK1235 := Aside0.mk (blk_drew BK1235.out); replace HB := Aside0.mk (below_drew1 HB.out); have p1237 : 0 ≤ (x9_2 : Int) := od; have q1237 : x9_2 < (t1228.length : Int) := od; obtain ⟨ad1237, e1237, hx1237_0, hx1237_1, hx1237_2, hx1237_3⟩ := at_T63 (Kd.R_reads' HO_5.out).2.2 x9_2 p1237 q1237
            cases e1237
            replace p1237 := eq_true p1237; replace q1237 := eq_true q1237; refine start_ (n := 20) (S := fun w' => w'.cell? ⟨gb1224, 0, none⟩ = some (.slice A0_0 l0_0.length c0_0) ∧ w'.cell? ⟨gb1224, 1, none⟩ = some (.int .i64 a0_1) ∧ w'.cell? ⟨gb1224, 2, none⟩ = some (.int .i64 a0_2) ∧ w'.cell? (ad1237.add ((x9_2).toNat * 4)) = some (.int .i64 ((rd_T63 t1228 x9_2).f0.f0)) ∧ w'.cell? ⟨(ad1237.add ((x9_2).toNat * 4)).block, (ad1237.add ((x9_2).toNat * 4)).off + 1, none⟩ = some (.int .i64 ((rd_T63 t1228 x9_2).f0.f1)) ∧ w'.cell? ⟨(ad1237.add ((x9_2).toNat * 4)).block, (ad1237.add ((x9_2).toNat * 4)).off + 2, none⟩ = some (.int .i64 ((rd_T63 t1228 x9_2).f1.f0)) ∧ w'.cell? ⟨(ad1237.add ((x9_2).toNat * 4)).block, (ad1237.add ((x9_2).toNat * 4)).off + 3, none⟩ = some (.int .i64 ((rd_T63 t1228 x9_2).f1.f1))) (ds := []) (bs 20 0) (by kernel_rfl) rfl rfl ⟨ct BK1224 0, ct BK1224 1, ct BK1224 2, hx1237_0, hx1237_1, hx1237_2, hx1237_3⟩ (fun hHeld => ?_)
            generalize wr.drew = w37 at HO_5 BK1224 BK1225 BK1235 HB hx1237_0 hx1237_1 hx1237_2 hx1237_3 hHeld ⊢; refine zP 0 47 20 1 ?_; refine zP 2 49 20 5 ?_; refine zP 4 51 20 21 ?_; refine zP 6 53 20 85 ?_; refine zP 7 54 20 213 ?_; refine zP 8 55 20 469 ?_; refine zP 9 56 20 981 ?_; refine zT 1 48 20 983 hHeld ?_; refine zT 3 50 20 991 hHeld ?_; refine zT 5 52 20 1023 hHeld ?_; refine zT 10 57 20 2047 hHeld ?_; refine join_ (σ := Nat) 3 (bs 20 131071) (fun s_ => [(58, .tuple #[.agg #[.int .i64 t1238, .int .i64 t1239], .bool true, .int .i64 t1241]), (10, .pointer (some ⟨s_, 0, none⟩)), (46, .tuple #[.agg #[.int .i64 t1238, .int .i64 t1239], .bool true, .int .i64 t1241]), (59, .agg #[.int .i64 t1238, .int .i64 t1239]), (60, .bool true), (61, .int .i64 t1241)]) (fun s_ w' => (w'.cell? ⟨gb1224, 0, none⟩ = some (.slice A0_0 l0_0.length c0_0) ∧ w'.cell? ⟨gb1224, 1, none⟩ = some (.int .i64 a0_1) ∧ w'.cell? ⟨gb1224, 2, none⟩ = some (.int .i64 a0_2) ∧ w'.cell? (ad1237.add ((x9_2).toNat * 4)) = some (.int .i64 ((rd_T63 t1228 x9_2).f0.f0)) ∧ w'.cell? ⟨(ad1237.add ((x9_2).toNat * 4)).block, (ad1237.add ((x9_2).toNat * 4)).off + 1, none⟩ = some (.int .i64 ((rd_T63 t1228 x9_2).f0.f1)) ∧ w'.cell? ⟨(ad1237.add ((x9_2).toNat * 4)).block, (ad1237.add ((x9_2).toNat * 4)).off + 2, none⟩ = some (.int .i64 ((rd_T63 t1228 x9_2).f1.f0)) ∧ w'.cell? ⟨(ad1237.add ((x9_2).toNat * 4)).block, (ad1237.add ((x9_2).toNat * 4)).off + 3, none⟩ = some (.int .i64 ((rd_T63 t1228 x9_2).f1.f1))) ∧ (Kd.R k63 63 w' w.heap.size (fun _ => True) (.slice (some ad1237) t1228.length co36) t1228) ∧ (w'.heap[gb1224]? = some (.cells #[.slice A0_0 l0_0.length c0_0, .int .i64 a0_1, .int .i64 a0_2] 24 (0, 0))) ∧ (w'.heap[gb1225]? = some (.cells #[.int .i64 a1_0, .int .i64 a1_1] 37 (0, 0))) ∧ (w'.heap[gb1235]? = some (.cells #[.int .i64 t1232, .int .i64 t1233] 37 (0, 0))) ∧ (w'.heap[s_]? = some (.cells #[.int .i64 0, .int .i64 0] 37 (0, 0))) ∧ (w.heap.size ≤ s_) ∧ (w.heap.size ≤ s_) ∧ (gb1224 ≠ s_) ∧ (s_ ≠ gb1224) ∧ (gb1225 ≠ s_) ∧ (s_ ≠ gb1225) ∧ (gb1235 ≠ s_) ∧ (s_ ≠ gb1235) ∧ (Below w.heap.size w w')) ?_ ?_
            rotate_left
            ·intro hCont; refine two_ (i := 11) (j := 16) (Ni := some 58) (Nj := some 10) (bs 20 4095) (bs 20 67583) rfl rfl rfl rfl (by kernel_rfl) (by decide) (by decide) (fun K hK => ?_) (fun K hK => ?_)
             ·skip
              refine zG Try.func32 #[.slice A0_0 l0_0.length c0_0, .int .i64 a0_1, .int .i64 a0_2, .agg #[.int .i64 ((rd_T63 t1228 x9_2).f0.f0), .int .i64 ((rd_T63 t1228 x9_2).f0.f1)]] ?_
              with_reducible refine (edit_Media.calls _ _ l0_0 a0_1 a0_2 ((rd_T63 t1228 x9_2).f0.f0) ((rd_T63 t1228 x9_2).f0.f1) t1238 t1239 true t1241 _ ?side1 ?side2 A32.out).mono ?_
              (case side1 => exact cz HR0_0)
              (case side2 => exact HC0_0.out)
              rintro e w38 ⟨rfl, hb⟩; have HS3_ := (hb.cell (World.block_lt_of_cell? _ _ (hHeld.2.2.2.1))).trans (hHeld.2.2.2.1); have HS4_ := (hb.cell (World.block_lt_of_cell? _ _ (hHeld.2.2.2.2.1))).trans (hHeld.2.2.2.2.1); have HS5_ := (hb.cell (World.block_lt_of_cell? _ _ (hHeld.2.2.2.2.2.1))).trans (hHeld.2.2.2.2.2.1); have HS6_ := (hb.cell (World.block_lt_of_cell? _ _ (hHeld.2.2.2.2.2.2))).trans (hHeld.2.2.2.2.2.2); refine ⟨_, rfl, ?_⟩; replace HO_5 := Aside0.mk (Kd.R_below (rz HO_5) hb); replace BK1224 := kb BK1224 hb; replace BK1225 := kb BK1225 hb; replace BK1235 := kb BK1235 hb; replace HB := bp hb; clear hb; refine hK.out _ _ ⟨ct BK1224 0, ct BK1224 1, ct BK1224 2, HS3_, HS4_, HS5_, HS6_⟩ (fun hHeld => ?_); clear hK K; refine zM 58 ?_; refine zP 12 46 20 8191 ?_; refine zP 13 59 20 16383 ?_; refine zP 14 60 20 32767 ?_; refine zP 15 61 20 65535 ?_; refine zN 16 (some 10) 20 131071 (fun K hK => ?_); refine box_step ?hg (N := 10) ?hd (cs := #[.int .i64 0, .int .i64 0]) (t := 37) ?hr ?_; (case hd => rfl); (case hg => rfl); (case hr => first | (go_simp; done) | (go_simp; rfl))
              intro gb1242 hg w39 hbox hb; have HS3_ := (hb.cell (World.block_lt_of_cell? _ _ (hHeld.2.2.2.1))).trans (hHeld.2.2.2.1); have HS4_ := (hb.cell (World.block_lt_of_cell? _ _ (hHeld.2.2.2.2.1))).trans (hHeld.2.2.2.2.1); have HS5_ := (hb.cell (World.block_lt_of_cell? _ _ (hHeld.2.2.2.2.2.1))).trans (hHeld.2.2.2.2.2.1); have HS6_ := (hb.cell (World.block_lt_of_cell? _ _ (hHeld.2.2.2.2.2.2))).trans (hHeld.2.2.2.2.2.2); replace HO_5 := Aside0.mk (Kd.R_below (rz HO_5) hb); have BK1242 := Aside0.mk hbox; have GW1242 := gz hg; have GE1242 := gz hg; replace HB := bp hb; have NB1224_1242 := Aside0.mk ((by rw [hg]; exact Nat.ne_of_lt (bl BK1224) : gb1224 ≠ gb1242)); have NB1242_1224 := Aside0.mk ((by rw [hg]; exact Nat.ne_of_gt (bl BK1224) : gb1242 ≠ gb1224)); replace BK1224 := kb BK1224 hb; have NB1225_1242 := Aside0.mk ((by rw [hg]; exact Nat.ne_of_lt (bl BK1225) : gb1225 ≠ gb1242)); have NB1242_1225 := Aside0.mk ((by rw [hg]; exact Nat.ne_of_gt (bl BK1225) : gb1242 ≠ gb1225)); replace BK1225 := kb BK1225 hb; have NB1235_1242 := Aside0.mk ((by rw [hg]; exact Nat.ne_of_lt (bl BK1235) : gb1235 ≠ gb1242)); have NB1242_1235 := Aside0.mk ((by rw [hg]; exact Nat.ne_of_gt (bl BK1235) : gb1242 ≠ gb1235)); replace BK1235 := kb BK1235 hb; clear hb hbox hg; refine hK.out _ _ ⟨ct BK1224 0, ct BK1224 1, ct BK1224 2, HS3_, HS4_, HS5_, HS6_⟩ (fun hHeld => ?_); clear hK K; refine zM 10 ?_
              exact norm_ (by simp only [putAll, Act.put, List.setIfInBounds_toArray, List.set_cons_zero, List.set_cons_succ]) (hCont (gb1242) _ ⟨hHeld, (rz HO_5), kz, kz, kz, kz, GW1242.out, GE1242.out, NB1224_1242.out, NB1242_1224.out, NB1225_1242.out, NB1242_1225.out, NB1235_1242.out, NB1242_1235.out, bz⟩)
             ·skip
              refine box_step ?hg (N := 10) ?hd (cs := #[.int .i64 0, .int .i64 0]) (t := 37) ?hr ?_; (case hd => rfl); (case hg => rfl); (case hr => first | (go_simp; done) | (go_simp; rfl))
              intro gb1242 hg w38 hbox hb; have HS3_ := (hb.cell (World.block_lt_of_cell? _ _ (hHeld.2.2.2.1))).trans (hHeld.2.2.2.1); have HS4_ := (hb.cell (World.block_lt_of_cell? _ _ (hHeld.2.2.2.2.1))).trans (hHeld.2.2.2.2.1); have HS5_ := (hb.cell (World.block_lt_of_cell? _ _ (hHeld.2.2.2.2.2.1))).trans (hHeld.2.2.2.2.2.1); have HS6_ := (hb.cell (World.block_lt_of_cell? _ _ (hHeld.2.2.2.2.2.2))).trans (hHeld.2.2.2.2.2.2); replace HO_5 := Aside0.mk (Kd.R_below (rz HO_5) hb); have BK1242 := Aside0.mk hbox; have GW1242 := gz hg; have GE1242 := gz hg; replace HB := bp hb; have NB1224_1242 := Aside0.mk ((by rw [hg]; exact Nat.ne_of_lt (bl BK1224) : gb1224 ≠ gb1242)); have NB1242_1224 := Aside0.mk ((by rw [hg]; exact Nat.ne_of_gt (bl BK1224) : gb1242 ≠ gb1224)); replace BK1224 := kb BK1224 hb; have NB1225_1242 := Aside0.mk ((by rw [hg]; exact Nat.ne_of_lt (bl BK1225) : gb1225 ≠ gb1242)); have NB1242_1225 := Aside0.mk ((by rw [hg]; exact Nat.ne_of_gt (bl BK1225) : gb1242 ≠ gb1225)); replace BK1225 := kb BK1225 hb; have NB1235_1242 := Aside0.mk ((by rw [hg]; exact Nat.ne_of_lt (bl BK1235) : gb1235 ≠ gb1242)); have NB1242_1235 := Aside0.mk ((by rw [hg]; exact Nat.ne_of_gt (bl BK1235) : gb1242 ≠ gb1235)); replace BK1235 := kb BK1235 hb; clear hb hbox hg; refine hK.out _ _ ⟨ct BK1224 0, ct BK1224 1, ct BK1224 2, HS3_, HS4_, HS5_, HS6_⟩ (fun hHeld => ?_); clear hK K; refine zM 10 ?_; refine zN 11 (some 58) 20 69631 (fun K hK => ?_); refine zG Try.func32 #[.slice A0_0 l0_0.length c0_0, .int .i64 a0_1, .int .i64 a0_2, .agg #[.int .i64 ((rd_T63 t1228 x9_2).f0.f0), .int .i64 ((rd_T63 t1228 x9_2).f0.f1)]] ?_
              with_reducible refine (edit_Media.calls _ _ l0_0 a0_1 a0_2 ((rd_T63 t1228 x9_2).f0.f0) ((rd_T63 t1228 x9_2).f0.f1) t1238 t1239 true t1241 _ ?side1 ?side2 A32.out).mono ?_
              (case side1 => exact cz HR0_0)
              (case side2 => exact HC0_0.out)
              rintro e w39 ⟨rfl, hb⟩; have HS3_ := (hb.cell (World.block_lt_of_cell? _ _ (hHeld.2.2.2.1))).trans (hHeld.2.2.2.1); have HS4_ := (hb.cell (World.block_lt_of_cell? _ _ (hHeld.2.2.2.2.1))).trans (hHeld.2.2.2.2.1); have HS5_ := (hb.cell (World.block_lt_of_cell? _ _ (hHeld.2.2.2.2.2.1))).trans (hHeld.2.2.2.2.2.1); have HS6_ := (hb.cell (World.block_lt_of_cell? _ _ (hHeld.2.2.2.2.2.2))).trans (hHeld.2.2.2.2.2.2); refine ⟨_, rfl, ?_⟩; replace HO_5 := Aside0.mk (Kd.R_below (rz HO_5) hb); replace BK1224 := kb BK1224 hb; replace BK1225 := kb BK1225 hb; replace BK1235 := kb BK1235 hb; replace BK1242 := kb BK1242 hb; replace HB := bp hb; clear hb; refine hK.out _ _ ⟨ct BK1224 0, ct BK1224 1, ct BK1224 2, HS3_, HS4_, HS5_, HS6_⟩ (fun hHeld => ?_); clear hK K; refine zM 58 ?_; refine zP 12 46 20 73727 ?_; refine zP 13 59 20 81919 ?_; refine zP 14 60 20 98303 ?_; refine zP 15 61 20 131071 ?_
              exact norm_ (by simp only [putAll, Act.put, List.setIfInBounds_toArray, List.set_cons_zero, List.set_cons_succ]) (hCont (gb1242) _ ⟨hHeld, (rz HO_5), kz, kz, kz, kz, GW1242.out, GE1242.out, NB1224_1242.out, NB1242_1224.out, NB1225_1242.out, NB1242_1225.out, NB1235_1242.out, NB1242_1235.out, bz⟩)
            rintro gb1242 w40 ⟨hS_, h0_, h1_, h2_, h3_, h4_, h5_, h6_, h7_, h8_, h9_, h10_, h11_, h12_, h13_⟩; have n0_ : Aside0 (Kd.R k63 63 w40 w.heap.size (fun _ => True) (.slice (some ad1237) t1228.length co36) t1228) := ⟨h0_⟩; have n1_ : Aside0 (w40.heap[gb1224]? = some (.cells #[.slice A0_0 l0_0.length c0_0, .int .i64 a0_1, .int .i64 a0_2] 24 (0, 0))) := ⟨h1_⟩; have n2_ : Aside0 (w40.heap[gb1225]? = some (.cells #[.int .i64 a1_0, .int .i64 a1_1] 37 (0, 0))) := ⟨h2_⟩; have n3_ : Aside0 (w40.heap[gb1235]? = some (.cells #[.int .i64 t1232, .int .i64 t1233] 37 (0, 0))) := ⟨h3_⟩; have n4_ : Aside0 (w40.heap[gb1242]? = some (.cells #[.int .i64 0, .int .i64 0] 37 (0, 0))) := ⟨h4_⟩; have n5_ : Aside0 (w.heap.size ≤ gb1242) := ⟨h5_⟩; have n6_ : Aside0 (w.heap.size ≤ gb1242) := ⟨h6_⟩; have n7_ : Aside0 (gb1224 ≠ gb1242) := ⟨h7_⟩; have n8_ : Aside0 (gb1242 ≠ gb1224) := ⟨h8_⟩; have n9_ : Aside0 (gb1225 ≠ gb1242) := ⟨h9_⟩; have n10_ : Aside0 (gb1242 ≠ gb1225) := ⟨h10_⟩; have n11_ : Aside0 (gb1235 ≠ gb1242) := ⟨h11_⟩; have n12_ : Aside0 (gb1242 ≠ gb1235) := ⟨h12_⟩; have n13_ : Aside0 (Below w.heap.size w w40) := ⟨h13_⟩; clear HO_5; clear BK1224; clear BK1225; clear BK1235; clear HB; clear h0_ h1_ h2_ h3_ h4_ h5_ h6_ h7_ h8_ h9_ h10_ h11_ h12_ h13_; have HO_5 := n0_; have BK1224 := n1_; have BK1225 := n2_; have BK1235 := n3_; have BK1242 := n4_; have GW1242 := n5_; have GE1242 := n6_; have NB1224_1242 := n7_; have NB1242_1224 := n8_; have NB1225_1242 := n9_; have NB1242_1225 := n10_; have NB1235_1242 := n11_; have NB1242_1235 := n12_; have HB := n13_; clear n0_ n1_ n2_ n3_ n4_ n5_ n6_ n7_ n8_ n9_ n10_ n11_ n12_ n13_; have hHeld : w40.cell? ⟨gb1224, 0, none⟩ = some (.slice A0_0 l0_0.length c0_0) ∧ w40.cell? ⟨gb1224, 1, none⟩ = some (.int .i64 a0_1) ∧ w40.cell? ⟨gb1224, 2, none⟩ = some (.int .i64 a0_2) ∧ w40.cell? (ad1237.add ((x9_2).toNat * 4)) = some (.int .i64 ((rd_T63 t1228 x9_2).f0.f0)) ∧ w40.cell? ⟨(ad1237.add ((x9_2).toNat * 4)).block, (ad1237.add ((x9_2).toNat * 4)).off + 1, none⟩ = some (.int .i64 ((rd_T63 t1228 x9_2).f0.f1)) ∧ w40.cell? ⟨(ad1237.add ((x9_2).toNat * 4)).block, (ad1237.add ((x9_2).toNat * 4)).off + 2, none⟩ = some (.int .i64 ((rd_T63 t1228 x9_2).f1.f0)) ∧ w40.cell? ⟨(ad1237.add ((x9_2).toNat * 4)).block, (ad1237.add ((x9_2).toNat * 4)).off + 3, none⟩ = some (.int .i64 ((rd_T63 t1228 x9_2).f1.f1)) := hS_; refine norm_ (a' := ?_) ?_ ?_
            rotate_left
            ·simp only [putAll, Act.put, List.setIfInBounds_toArray, List.set_cons_zero, List.set_cons_succ]
             rfl
            refine zN 17 none 20 262143 (fun K hK => ?_); have hs41 : w40.cell? ⟨gb1242, 0, none⟩ = some (.int .i64 0) := ct BK1242 0; have hfs41 := blk_frozen BK1242.out 0; have hns41_0 := NB1224_1242.out; have hns41_1 := NB1225_1242.out; have hns41_2 := NB1235_1242.out; have hms41_0 := NB1242_1224.out; have hms41_1 := NB1242_1225.out; have hms41_2 := NB1242_1235.out; have hs42 : w40.cell? ⟨gb1242, 1, none⟩ = some (.int .i64 0) := ct BK1242 1; have hfs42 := blk_frozen BK1242.out 1; have hns42_0 := NB1224_1242.out; have hns42_1 := NB1225_1242.out; have hns42_2 := NB1235_1242.out; have hms42_0 := NB1242_1224.out; have hms42_1 := NB1242_1225.out; have hms42_2 := NB1242_1235.out; refine skip_ (w1 := ?_) (by rfl) rfl ?_ ?_
            rotate_left
            ·go_simp
             rfl
            refine hK.out _ _ ⟨((cell_far (p := ⟨gb1242, _, none⟩) NB1224_1242.out _).trans (((cell_far (p := ⟨gb1242, _, none⟩) NB1224_1242.out _).trans (hHeld.1)))), ((cell_far (p := ⟨gb1242, _, none⟩) NB1224_1242.out _).trans (((cell_far (p := ⟨gb1242, _, none⟩) NB1224_1242.out _).trans (hHeld.2.1)))), ((cell_far (p := ⟨gb1242, _, none⟩) NB1224_1242.out _).trans (((cell_far (p := ⟨gb1242, _, none⟩) NB1224_1242.out _).trans (hHeld.2.2.1)))), ((cell_far (p := ⟨gb1242, _, none⟩) (by first | exact Kd.own_blk (Kd.R_ne HO_5.out BK1242.out (by decide)) | (rw [add_block]; exact Kd.own_blk (Kd.R_ne HO_5.out BK1242.out (by decide))) | (show (Addr.add _ _).block ≠ _; rw [add_block]; exact Kd.own_blk (Kd.R_ne HO_5.out BK1242.out (by decide))) | (dsimp only; exact Kd.own_blk (Kd.R_ne HO_5.out BK1242.out (by decide)))) _).trans (((cell_far (p := ⟨gb1242, _, none⟩) (by first | exact Kd.own_blk (Kd.R_ne HO_5.out BK1242.out (by decide)) | (rw [add_block]; exact Kd.own_blk (Kd.R_ne HO_5.out BK1242.out (by decide))) | (show (Addr.add _ _).block ≠ _; rw [add_block]; exact Kd.own_blk (Kd.R_ne HO_5.out BK1242.out (by decide))) | (dsimp only; exact Kd.own_blk (Kd.R_ne HO_5.out BK1242.out (by decide)))) _).trans (hHeld.2.2.2.1)))), ((cell_far (p := ⟨gb1242, _, none⟩) (by first | exact Kd.own_blk (Kd.R_ne HO_5.out BK1242.out (by decide)) | (rw [add_block]; exact Kd.own_blk (Kd.R_ne HO_5.out BK1242.out (by decide))) | (show (Addr.add _ _).block ≠ _; rw [add_block]; exact Kd.own_blk (Kd.R_ne HO_5.out BK1242.out (by decide))) | (dsimp only; exact Kd.own_blk (Kd.R_ne HO_5.out BK1242.out (by decide)))) _).trans (((cell_far (p := ⟨gb1242, _, none⟩) (by first | exact Kd.own_blk (Kd.R_ne HO_5.out BK1242.out (by decide)) | (rw [add_block]; exact Kd.own_blk (Kd.R_ne HO_5.out BK1242.out (by decide))) | (show (Addr.add _ _).block ≠ _; rw [add_block]; exact Kd.own_blk (Kd.R_ne HO_5.out BK1242.out (by decide))) | (dsimp only; exact Kd.own_blk (Kd.R_ne HO_5.out BK1242.out (by decide)))) _).trans (hHeld.2.2.2.2.1)))), ((cell_far (p := ⟨gb1242, _, none⟩) (by first | exact Kd.own_blk (Kd.R_ne HO_5.out BK1242.out (by decide)) | (rw [add_block]; exact Kd.own_blk (Kd.R_ne HO_5.out BK1242.out (by decide))) | (show (Addr.add _ _).block ≠ _; rw [add_block]; exact Kd.own_blk (Kd.R_ne HO_5.out BK1242.out (by decide))) | (dsimp only; exact Kd.own_blk (Kd.R_ne HO_5.out BK1242.out (by decide)))) _).trans (((cell_far (p := ⟨gb1242, _, none⟩) (by first | exact Kd.own_blk (Kd.R_ne HO_5.out BK1242.out (by decide)) | (rw [add_block]; exact Kd.own_blk (Kd.R_ne HO_5.out BK1242.out (by decide))) | (show (Addr.add _ _).block ≠ _; rw [add_block]; exact Kd.own_blk (Kd.R_ne HO_5.out BK1242.out (by decide))) | (dsimp only; exact Kd.own_blk (Kd.R_ne HO_5.out BK1242.out (by decide)))) _).trans (hHeld.2.2.2.2.2.1)))), ((cell_far (p := ⟨gb1242, _, none⟩) (by first | exact Kd.own_blk (Kd.R_ne HO_5.out BK1242.out (by decide)) | (rw [add_block]; exact Kd.own_blk (Kd.R_ne HO_5.out BK1242.out (by decide))) | (show (Addr.add _ _).block ≠ _; rw [add_block]; exact Kd.own_blk (Kd.R_ne HO_5.out BK1242.out (by decide))) | (dsimp only; exact Kd.own_blk (Kd.R_ne HO_5.out BK1242.out (by decide)))) _).trans (((cell_far (p := ⟨gb1242, _, none⟩) (by first | exact Kd.own_blk (Kd.R_ne HO_5.out BK1242.out (by decide)) | (rw [add_block]; exact Kd.own_blk (Kd.R_ne HO_5.out BK1242.out (by decide))) | (show (Addr.add _ _).block ≠ _; rw [add_block]; exact Kd.own_blk (Kd.R_ne HO_5.out BK1242.out (by decide))) | (dsimp only; exact Kd.own_blk (Kd.R_ne HO_5.out BK1242.out (by decide)))) _).trans (hHeld.2.2.2.2.2.2))))⟩ (fun hHeld => ?_)
            clear hK K; refine zP 18 11 20 524287 ?_; refine zP 19 12 20 1048575 ?_; refine done_ (by kernel_rfl) ?_; have hnb43 := NB1242_1224.out; have hnc43 := NB1224_1242.out; have hnb44 := NB1242_1225.out; have hnc44 := NB1225_1242.out; have hnb45 := NB1242_1235.out; have hnc45 := NB1235_1242.out; obtain ⟨hcz46_0, hcz46_1, hfz46_0, hfz46_1⟩ := xc2 BK1242; have hnb47 := NB1235_1224.out; have hnc47 := NB1224_1235.out; have hnb48 := NB1235_1225.out; have hnc48 := NB1225_1235.out; obtain ⟨hcz49_0, hcz49_1, hfz49_0, hfz49_1⟩ := xc2 BK1235
            try go_wp2
            go_ret
            exact ⟨ez, bz⟩
           ·rw [if_neg c35] at H; have c35b0 : (!(t1238 == t1232) || (!(t1239 == t1233))) = false := by simpa using c35
            clear c35; have H' := Aside0.mk H; clear H; obtain ⟨Ao50, co50, eo50⟩ := Kd.R_slice HO_5.out; subst eo50
            try go_wp2
            replace HO_5 := Aside0.mk (Kd.R_drew HO_5.out); replace BK1224 := Aside0.mk (blk_drew BK1224.out); replace BK1225 := Aside0.mk (blk_drew BK1225.out); replace BK1235 := Aside0.mk (blk_drew BK1235.out); replace HB := Aside0.mk (below_drew1 HB.out); have p1237 : 0 ≤ (x9_2 : Int) := od; have q1237 : x9_2 < (t1228.length : Int) := od; obtain ⟨ad1237, e1237, hx1237_0, hx1237_1, hx1237_2, hx1237_3⟩ := at_T63 (Kd.R_reads' HO_5.out).2.2 x9_2 p1237 q1237
            cases e1237
            replace p1237 := eq_true p1237; replace q1237 := eq_true q1237; refine start_ (n := 20) (S := fun w' => w'.cell? ⟨gb1224, 0, none⟩ = some (.slice A0_0 l0_0.length c0_0) ∧ w'.cell? ⟨gb1224, 1, none⟩ = some (.int .i64 a0_1) ∧ w'.cell? ⟨gb1224, 2, none⟩ = some (.int .i64 a0_2) ∧ w'.cell? (ad1237.add ((x9_2).toNat * 4)) = some (.int .i64 ((rd_T63 t1228 x9_2).f0.f0)) ∧ w'.cell? ⟨(ad1237.add ((x9_2).toNat * 4)).block, (ad1237.add ((x9_2).toNat * 4)).off + 1, none⟩ = some (.int .i64 ((rd_T63 t1228 x9_2).f0.f1)) ∧ w'.cell? ⟨(ad1237.add ((x9_2).toNat * 4)).block, (ad1237.add ((x9_2).toNat * 4)).off + 2, none⟩ = some (.int .i64 ((rd_T63 t1228 x9_2).f1.f0)) ∧ w'.cell? ⟨(ad1237.add ((x9_2).toNat * 4)).block, (ad1237.add ((x9_2).toNat * 4)).off + 3, none⟩ = some (.int .i64 ((rd_T63 t1228 x9_2).f1.f1))) (ds := []) (bs 20 0) (by kernel_rfl) rfl rfl ⟨ct BK1224 0, ct BK1224 1, ct BK1224 2, hx1237_0, hx1237_1, hx1237_2, hx1237_3⟩ (fun hHeld => ?_)
            generalize wr.drew = w51 at HO_5 BK1224 BK1225 BK1235 HB hx1237_0 hx1237_1 hx1237_2 hx1237_3 hHeld ⊢; refine zP 0 47 20 1 ?_; refine zP 2 49 20 5 ?_; refine zP 4 51 20 21 ?_; refine zP 6 53 20 85 ?_; refine zP 7 54 20 213 ?_; refine zP 8 55 20 469 ?_; refine zP 9 56 20 981 ?_; refine zT 1 48 20 983 hHeld ?_; refine zT 3 50 20 991 hHeld ?_; refine zT 5 52 20 1023 hHeld ?_; refine zT 10 57 20 2047 hHeld ?_; refine join_ (σ := Nat) 3 (bs 20 131071) (fun s_ => [(58, .tuple #[.agg #[.int .i64 t1238, .int .i64 t1239], .bool true, .int .i64 t1241]), (10, .pointer (some ⟨s_, 0, none⟩)), (46, .tuple #[.agg #[.int .i64 t1238, .int .i64 t1239], .bool true, .int .i64 t1241]), (59, .agg #[.int .i64 t1238, .int .i64 t1239]), (60, .bool true), (61, .int .i64 t1241)]) (fun s_ w' => (w'.cell? ⟨gb1224, 0, none⟩ = some (.slice A0_0 l0_0.length c0_0) ∧ w'.cell? ⟨gb1224, 1, none⟩ = some (.int .i64 a0_1) ∧ w'.cell? ⟨gb1224, 2, none⟩ = some (.int .i64 a0_2) ∧ w'.cell? (ad1237.add ((x9_2).toNat * 4)) = some (.int .i64 ((rd_T63 t1228 x9_2).f0.f0)) ∧ w'.cell? ⟨(ad1237.add ((x9_2).toNat * 4)).block, (ad1237.add ((x9_2).toNat * 4)).off + 1, none⟩ = some (.int .i64 ((rd_T63 t1228 x9_2).f0.f1)) ∧ w'.cell? ⟨(ad1237.add ((x9_2).toNat * 4)).block, (ad1237.add ((x9_2).toNat * 4)).off + 2, none⟩ = some (.int .i64 ((rd_T63 t1228 x9_2).f1.f0)) ∧ w'.cell? ⟨(ad1237.add ((x9_2).toNat * 4)).block, (ad1237.add ((x9_2).toNat * 4)).off + 3, none⟩ = some (.int .i64 ((rd_T63 t1228 x9_2).f1.f1))) ∧ (Kd.R k63 63 w' w.heap.size (fun _ => True) (.slice (some ad1237) t1228.length co50) t1228) ∧ (w'.heap[gb1224]? = some (.cells #[.slice A0_0 l0_0.length c0_0, .int .i64 a0_1, .int .i64 a0_2] 24 (0, 0))) ∧ (w'.heap[gb1225]? = some (.cells #[.int .i64 a1_0, .int .i64 a1_1] 37 (0, 0))) ∧ (w'.heap[gb1235]? = some (.cells #[.int .i64 t1232, .int .i64 t1233] 37 (0, 0))) ∧ (w'.heap[s_]? = some (.cells #[.int .i64 0, .int .i64 0] 37 (0, 0))) ∧ (w.heap.size ≤ s_) ∧ (w.heap.size ≤ s_) ∧ (gb1224 ≠ s_) ∧ (s_ ≠ gb1224) ∧ (gb1225 ≠ s_) ∧ (s_ ≠ gb1225) ∧ (gb1235 ≠ s_) ∧ (s_ ≠ gb1235) ∧ (Below w.heap.size w w')) ?_ ?_
            rotate_left
            ·intro hCont; refine two_ (i := 11) (j := 16) (Ni := some 58) (Nj := some 10) (bs 20 4095) (bs 20 67583) rfl rfl rfl rfl (by kernel_rfl) (by decide) (by decide) (fun K hK => ?_) (fun K hK => ?_)
             ·skip
              refine zG Try.func32 #[.slice A0_0 l0_0.length c0_0, .int .i64 a0_1, .int .i64 a0_2, .agg #[.int .i64 ((rd_T63 t1228 x9_2).f0.f0), .int .i64 ((rd_T63 t1228 x9_2).f0.f1)]] ?_
              with_reducible refine (edit_Media.calls _ _ l0_0 a0_1 a0_2 ((rd_T63 t1228 x9_2).f0.f0) ((rd_T63 t1228 x9_2).f0.f1) t1238 t1239 true t1241 _ ?side1 ?side2 A32.out).mono ?_
              (case side1 => exact cz HR0_0)
              (case side2 => exact HC0_0.out)
              rintro e w52 ⟨rfl, hb⟩; have HS3_ := (hb.cell (World.block_lt_of_cell? _ _ (hHeld.2.2.2.1))).trans (hHeld.2.2.2.1); have HS4_ := (hb.cell (World.block_lt_of_cell? _ _ (hHeld.2.2.2.2.1))).trans (hHeld.2.2.2.2.1); have HS5_ := (hb.cell (World.block_lt_of_cell? _ _ (hHeld.2.2.2.2.2.1))).trans (hHeld.2.2.2.2.2.1); have HS6_ := (hb.cell (World.block_lt_of_cell? _ _ (hHeld.2.2.2.2.2.2))).trans (hHeld.2.2.2.2.2.2); refine ⟨_, rfl, ?_⟩; replace HO_5 := Aside0.mk (Kd.R_below (rz HO_5) hb); replace BK1224 := kb BK1224 hb; replace BK1225 := kb BK1225 hb; replace BK1235 := kb BK1235 hb; replace HB := bp hb; clear hb; refine hK.out _ _ ⟨ct BK1224 0, ct BK1224 1, ct BK1224 2, HS3_, HS4_, HS5_, HS6_⟩ (fun hHeld => ?_); clear hK K; refine zM 58 ?_; refine zP 12 46 20 8191 ?_; refine zP 13 59 20 16383 ?_; refine zP 14 60 20 32767 ?_; refine zP 15 61 20 65535 ?_; refine zN 16 (some 10) 20 131071 (fun K hK => ?_); refine box_step ?hg (N := 10) ?hd (cs := #[.int .i64 0, .int .i64 0]) (t := 37) ?hr ?_; (case hd => rfl); (case hg => rfl); (case hr => first | (go_simp; done) | (go_simp; rfl))
              intro gb1242 hg w53 hbox hb; have HS3_ := (hb.cell (World.block_lt_of_cell? _ _ (hHeld.2.2.2.1))).trans (hHeld.2.2.2.1); have HS4_ := (hb.cell (World.block_lt_of_cell? _ _ (hHeld.2.2.2.2.1))).trans (hHeld.2.2.2.2.1); have HS5_ := (hb.cell (World.block_lt_of_cell? _ _ (hHeld.2.2.2.2.2.1))).trans (hHeld.2.2.2.2.2.1); have HS6_ := (hb.cell (World.block_lt_of_cell? _ _ (hHeld.2.2.2.2.2.2))).trans (hHeld.2.2.2.2.2.2); replace HO_5 := Aside0.mk (Kd.R_below (rz HO_5) hb); have BK1242 := Aside0.mk hbox; have GW1242 := gz hg; have GE1242 := gz hg; replace HB := bp hb; have NB1224_1242 := Aside0.mk ((by rw [hg]; exact Nat.ne_of_lt (bl BK1224) : gb1224 ≠ gb1242)); have NB1242_1224 := Aside0.mk ((by rw [hg]; exact Nat.ne_of_gt (bl BK1224) : gb1242 ≠ gb1224)); replace BK1224 := kb BK1224 hb; have NB1225_1242 := Aside0.mk ((by rw [hg]; exact Nat.ne_of_lt (bl BK1225) : gb1225 ≠ gb1242)); have NB1242_1225 := Aside0.mk ((by rw [hg]; exact Nat.ne_of_gt (bl BK1225) : gb1242 ≠ gb1225)); replace BK1225 := kb BK1225 hb; have NB1235_1242 := Aside0.mk ((by rw [hg]; exact Nat.ne_of_lt (bl BK1235) : gb1235 ≠ gb1242)); have NB1242_1235 := Aside0.mk ((by rw [hg]; exact Nat.ne_of_gt (bl BK1235) : gb1242 ≠ gb1235)); replace BK1235 := kb BK1235 hb; clear hb hbox hg; refine hK.out _ _ ⟨ct BK1224 0, ct BK1224 1, ct BK1224 2, HS3_, HS4_, HS5_, HS6_⟩ (fun hHeld => ?_); clear hK K; refine zM 10 ?_
              exact norm_ (by simp only [putAll, Act.put, List.setIfInBounds_toArray, List.set_cons_zero, List.set_cons_succ]) (hCont (gb1242) _ ⟨hHeld, (rz HO_5), kz, kz, kz, kz, GW1242.out, GE1242.out, NB1224_1242.out, NB1242_1224.out, NB1225_1242.out, NB1242_1225.out, NB1235_1242.out, NB1242_1235.out, bz⟩)
             ·skip
              refine box_step ?hg (N := 10) ?hd (cs := #[.int .i64 0, .int .i64 0]) (t := 37) ?hr ?_; (case hd => rfl); (case hg => rfl); (case hr => first | (go_simp; done) | (go_simp; rfl))
              intro gb1242 hg w52 hbox hb; have HS3_ := (hb.cell (World.block_lt_of_cell? _ _ (hHeld.2.2.2.1))).trans (hHeld.2.2.2.1); have HS4_ := (hb.cell (World.block_lt_of_cell? _ _ (hHeld.2.2.2.2.1))).trans (hHeld.2.2.2.2.1); have HS5_ := (hb.cell (World.block_lt_of_cell? _ _ (hHeld.2.2.2.2.2.1))).trans (hHeld.2.2.2.2.2.1); have HS6_ := (hb.cell (World.block_lt_of_cell? _ _ (hHeld.2.2.2.2.2.2))).trans (hHeld.2.2.2.2.2.2); replace HO_5 := Aside0.mk (Kd.R_below (rz HO_5) hb); have BK1242 := Aside0.mk hbox; have GW1242 := gz hg; have GE1242 := gz hg; replace HB := bp hb; have NB1224_1242 := Aside0.mk ((by rw [hg]; exact Nat.ne_of_lt (bl BK1224) : gb1224 ≠ gb1242)); have NB1242_1224 := Aside0.mk ((by rw [hg]; exact Nat.ne_of_gt (bl BK1224) : gb1242 ≠ gb1224)); replace BK1224 := kb BK1224 hb; have NB1225_1242 := Aside0.mk ((by rw [hg]; exact Nat.ne_of_lt (bl BK1225) : gb1225 ≠ gb1242)); have NB1242_1225 := Aside0.mk ((by rw [hg]; exact Nat.ne_of_gt (bl BK1225) : gb1242 ≠ gb1225)); replace BK1225 := kb BK1225 hb; have NB1235_1242 := Aside0.mk ((by rw [hg]; exact Nat.ne_of_lt (bl BK1235) : gb1235 ≠ gb1242)); have NB1242_1235 := Aside0.mk ((by rw [hg]; exact Nat.ne_of_gt (bl BK1235) : gb1242 ≠ gb1235)); replace BK1235 := kb BK1235 hb; clear hb hbox hg; refine hK.out _ _ ⟨ct BK1224 0, ct BK1224 1, ct BK1224 2, HS3_, HS4_, HS5_, HS6_⟩ (fun hHeld => ?_); clear hK K; refine zM 10 ?_; refine zN 11 (some 58) 20 69631 (fun K hK => ?_); refine zG Try.func32 #[.slice A0_0 l0_0.length c0_0, .int .i64 a0_1, .int .i64 a0_2, .agg #[.int .i64 ((rd_T63 t1228 x9_2).f0.f0), .int .i64 ((rd_T63 t1228 x9_2).f0.f1)]] ?_
              with_reducible refine (edit_Media.calls _ _ l0_0 a0_1 a0_2 ((rd_T63 t1228 x9_2).f0.f0) ((rd_T63 t1228 x9_2).f0.f1) t1238 t1239 true t1241 _ ?side1 ?side2 A32.out).mono ?_
              (case side1 => exact cz HR0_0)
              (case side2 => exact HC0_0.out)
              rintro e w53 ⟨rfl, hb⟩; have HS3_ := (hb.cell (World.block_lt_of_cell? _ _ (hHeld.2.2.2.1))).trans (hHeld.2.2.2.1); have HS4_ := (hb.cell (World.block_lt_of_cell? _ _ (hHeld.2.2.2.2.1))).trans (hHeld.2.2.2.2.1); have HS5_ := (hb.cell (World.block_lt_of_cell? _ _ (hHeld.2.2.2.2.2.1))).trans (hHeld.2.2.2.2.2.1); have HS6_ := (hb.cell (World.block_lt_of_cell? _ _ (hHeld.2.2.2.2.2.2))).trans (hHeld.2.2.2.2.2.2); refine ⟨_, rfl, ?_⟩; replace HO_5 := Aside0.mk (Kd.R_below (rz HO_5) hb); replace BK1224 := kb BK1224 hb; replace BK1225 := kb BK1225 hb; replace BK1235 := kb BK1235 hb; replace BK1242 := kb BK1242 hb; replace HB := bp hb; clear hb; refine hK.out _ _ ⟨ct BK1224 0, ct BK1224 1, ct BK1224 2, HS3_, HS4_, HS5_, HS6_⟩ (fun hHeld => ?_); clear hK K; refine zM 58 ?_; refine zP 12 46 20 73727 ?_; refine zP 13 59 20 81919 ?_; refine zP 14 60 20 98303 ?_; refine zP 15 61 20 131071 ?_
              exact norm_ (by simp only [putAll, Act.put, List.setIfInBounds_toArray, List.set_cons_zero, List.set_cons_succ]) (hCont (gb1242) _ ⟨hHeld, (rz HO_5), kz, kz, kz, kz, GW1242.out, GE1242.out, NB1224_1242.out, NB1242_1224.out, NB1225_1242.out, NB1242_1225.out, NB1235_1242.out, NB1242_1235.out, bz⟩)
            rintro gb1242 w54 ⟨hS_, h0_, h1_, h2_, h3_, h4_, h5_, h6_, h7_, h8_, h9_, h10_, h11_, h12_, h13_⟩; have n0_ : Aside0 (Kd.R k63 63 w54 w.heap.size (fun _ => True) (.slice (some ad1237) t1228.length co50) t1228) := ⟨h0_⟩; have n1_ : Aside0 (w54.heap[gb1224]? = some (.cells #[.slice A0_0 l0_0.length c0_0, .int .i64 a0_1, .int .i64 a0_2] 24 (0, 0))) := ⟨h1_⟩; have n2_ : Aside0 (w54.heap[gb1225]? = some (.cells #[.int .i64 a1_0, .int .i64 a1_1] 37 (0, 0))) := ⟨h2_⟩; have n3_ : Aside0 (w54.heap[gb1235]? = some (.cells #[.int .i64 t1232, .int .i64 t1233] 37 (0, 0))) := ⟨h3_⟩; have n4_ : Aside0 (w54.heap[gb1242]? = some (.cells #[.int .i64 0, .int .i64 0] 37 (0, 0))) := ⟨h4_⟩; have n5_ : Aside0 (w.heap.size ≤ gb1242) := ⟨h5_⟩; have n6_ : Aside0 (w.heap.size ≤ gb1242) := ⟨h6_⟩; have n7_ : Aside0 (gb1224 ≠ gb1242) := ⟨h7_⟩; have n8_ : Aside0 (gb1242 ≠ gb1224) := ⟨h8_⟩; have n9_ : Aside0 (gb1225 ≠ gb1242) := ⟨h9_⟩; have n10_ : Aside0 (gb1242 ≠ gb1225) := ⟨h10_⟩; have n11_ : Aside0 (gb1235 ≠ gb1242) := ⟨h11_⟩; have n12_ : Aside0 (gb1242 ≠ gb1235) := ⟨h12_⟩; have n13_ : Aside0 (Below w.heap.size w w54) := ⟨h13_⟩; clear HO_5; clear BK1224; clear BK1225; clear BK1235; clear HB; clear h0_ h1_ h2_ h3_ h4_ h5_ h6_ h7_ h8_ h9_ h10_ h11_ h12_ h13_; have HO_5 := n0_; have BK1224 := n1_; have BK1225 := n2_; have BK1235 := n3_; have BK1242 := n4_; have GW1242 := n5_; have GE1242 := n6_; have NB1224_1242 := n7_; have NB1242_1224 := n8_; have NB1225_1242 := n9_; have NB1242_1225 := n10_; have NB1235_1242 := n11_; have NB1242_1235 := n12_; have HB := n13_; clear n0_ n1_ n2_ n3_ n4_ n5_ n6_ n7_ n8_ n9_ n10_ n11_ n12_ n13_; have hHeld : w54.cell? ⟨gb1224, 0, none⟩ = some (.slice A0_0 l0_0.length c0_0) ∧ w54.cell? ⟨gb1224, 1, none⟩ = some (.int .i64 a0_1) ∧ w54.cell? ⟨gb1224, 2, none⟩ = some (.int .i64 a0_2) ∧ w54.cell? (ad1237.add ((x9_2).toNat * 4)) = some (.int .i64 ((rd_T63 t1228 x9_2).f0.f0)) ∧ w54.cell? ⟨(ad1237.add ((x9_2).toNat * 4)).block, (ad1237.add ((x9_2).toNat * 4)).off + 1, none⟩ = some (.int .i64 ((rd_T63 t1228 x9_2).f0.f1)) ∧ w54.cell? ⟨(ad1237.add ((x9_2).toNat * 4)).block, (ad1237.add ((x9_2).toNat * 4)).off + 2, none⟩ = some (.int .i64 ((rd_T63 t1228 x9_2).f1.f0)) ∧ w54.cell? ⟨(ad1237.add ((x9_2).toNat * 4)).block, (ad1237.add ((x9_2).toNat * 4)).off + 3, none⟩ = some (.int .i64 ((rd_T63 t1228 x9_2).f1.f1)) := hS_; refine norm_ (a' := ?_) ?_ ?_
            rotate_left
            ·simp only [putAll, Act.put, List.setIfInBounds_toArray, List.set_cons_zero, List.set_cons_succ]
             rfl
            refine zN 17 none 20 262143 (fun K hK => ?_); have hs55 : w54.cell? ⟨gb1242, 0, none⟩ = some (.int .i64 0) := ct BK1242 0; have hfs55 := blk_frozen BK1242.out 0; have hns55_0 := NB1224_1242.out; have hns55_1 := NB1225_1242.out; have hns55_2 := NB1235_1242.out; have hms55_0 := NB1242_1224.out; have hms55_1 := NB1242_1225.out; have hms55_2 := NB1242_1235.out; have hs56 : w54.cell? ⟨gb1242, 1, none⟩ = some (.int .i64 0) := ct BK1242 1; have hfs56 := blk_frozen BK1242.out 1; have hns56_0 := NB1224_1242.out; have hns56_1 := NB1225_1242.out; have hns56_2 := NB1235_1242.out; have hms56_0 := NB1242_1224.out; have hms56_1 := NB1242_1225.out; have hms56_2 := NB1242_1235.out; refine skip_ (w1 := ?_) (by rfl) rfl ?_ ?_
            rotate_left
            ·go_simp
             rfl
            refine hK.out _ _ ⟨((cell_far (p := ⟨gb1242, _, none⟩) NB1224_1242.out _).trans (((cell_far (p := ⟨gb1242, _, none⟩) NB1224_1242.out _).trans (hHeld.1)))), ((cell_far (p := ⟨gb1242, _, none⟩) NB1224_1242.out _).trans (((cell_far (p := ⟨gb1242, _, none⟩) NB1224_1242.out _).trans (hHeld.2.1)))), ((cell_far (p := ⟨gb1242, _, none⟩) NB1224_1242.out _).trans (((cell_far (p := ⟨gb1242, _, none⟩) NB1224_1242.out _).trans (hHeld.2.2.1)))), ((cell_far (p := ⟨gb1242, _, none⟩) (by first | exact Kd.own_blk (Kd.R_ne HO_5.out BK1242.out (by decide)) | (rw [add_block]; exact Kd.own_blk (Kd.R_ne HO_5.out BK1242.out (by decide))) | (show (Addr.add _ _).block ≠ _; rw [add_block]; exact Kd.own_blk (Kd.R_ne HO_5.out BK1242.out (by decide))) | (dsimp only; exact Kd.own_blk (Kd.R_ne HO_5.out BK1242.out (by decide)))) _).trans (((cell_far (p := ⟨gb1242, _, none⟩) (by first | exact Kd.own_blk (Kd.R_ne HO_5.out BK1242.out (by decide)) | (rw [add_block]; exact Kd.own_blk (Kd.R_ne HO_5.out BK1242.out (by decide))) | (show (Addr.add _ _).block ≠ _; rw [add_block]; exact Kd.own_blk (Kd.R_ne HO_5.out BK1242.out (by decide))) | (dsimp only; exact Kd.own_blk (Kd.R_ne HO_5.out BK1242.out (by decide)))) _).trans (hHeld.2.2.2.1)))), ((cell_far (p := ⟨gb1242, _, none⟩) (by first | exact Kd.own_blk (Kd.R_ne HO_5.out BK1242.out (by decide)) | (rw [add_block]; exact Kd.own_blk (Kd.R_ne HO_5.out BK1242.out (by decide))) | (show (Addr.add _ _).block ≠ _; rw [add_block]; exact Kd.own_blk (Kd.R_ne HO_5.out BK1242.out (by decide))) | (dsimp only; exact Kd.own_blk (Kd.R_ne HO_5.out BK1242.out (by decide)))) _).trans (((cell_far (p := ⟨gb1242, _, none⟩) (by first | exact Kd.own_blk (Kd.R_ne HO_5.out BK1242.out (by decide)) | (rw [add_block]; exact Kd.own_blk (Kd.R_ne HO_5.out BK1242.out (by decide))) | (show (Addr.add _ _).block ≠ _; rw [add_block]; exact Kd.own_blk (Kd.R_ne HO_5.out BK1242.out (by decide))) | (dsimp only; exact Kd.own_blk (Kd.R_ne HO_5.out BK1242.out (by decide)))) _).trans (hHeld.2.2.2.2.1)))), ((cell_far (p := ⟨gb1242, _, none⟩) (by first | exact Kd.own_blk (Kd.R_ne HO_5.out BK1242.out (by decide)) | (rw [add_block]; exact Kd.own_blk (Kd.R_ne HO_5.out BK1242.out (by decide))) | (show (Addr.add _ _).block ≠ _; rw [add_block]; exact Kd.own_blk (Kd.R_ne HO_5.out BK1242.out (by decide))) | (dsimp only; exact Kd.own_blk (Kd.R_ne HO_5.out BK1242.out (by decide)))) _).trans (((cell_far (p := ⟨gb1242, _, none⟩) (by first | exact Kd.own_blk (Kd.R_ne HO_5.out BK1242.out (by decide)) | (rw [add_block]; exact Kd.own_blk (Kd.R_ne HO_5.out BK1242.out (by decide))) | (show (Addr.add _ _).block ≠ _; rw [add_block]; exact Kd.own_blk (Kd.R_ne HO_5.out BK1242.out (by decide))) | (dsimp only; exact Kd.own_blk (Kd.R_ne HO_5.out BK1242.out (by decide)))) _).trans (hHeld.2.2.2.2.2.1)))), ((cell_far (p := ⟨gb1242, _, none⟩) (by first | exact Kd.own_blk (Kd.R_ne HO_5.out BK1242.out (by decide)) | (rw [add_block]; exact Kd.own_blk (Kd.R_ne HO_5.out BK1242.out (by decide))) | (show (Addr.add _ _).block ≠ _; rw [add_block]; exact Kd.own_blk (Kd.R_ne HO_5.out BK1242.out (by decide))) | (dsimp only; exact Kd.own_blk (Kd.R_ne HO_5.out BK1242.out (by decide)))) _).trans (((cell_far (p := ⟨gb1242, _, none⟩) (by first | exact Kd.own_blk (Kd.R_ne HO_5.out BK1242.out (by decide)) | (rw [add_block]; exact Kd.own_blk (Kd.R_ne HO_5.out BK1242.out (by decide))) | (show (Addr.add _ _).block ≠ _; rw [add_block]; exact Kd.own_blk (Kd.R_ne HO_5.out BK1242.out (by decide))) | (dsimp only; exact Kd.own_blk (Kd.R_ne HO_5.out BK1242.out (by decide)))) _).trans (hHeld.2.2.2.2.2.2))))⟩ (fun hHeld => ?_)
            clear hK K; refine zP 18 11 20 524287 ?_; refine zP 19 12 20 1048575 ?_; refine done_ (by kernel_rfl) ?_; have hnb57 := NB1242_1224.out; have hnc57 := NB1224_1242.out; have hnb58 := NB1242_1225.out; have hnc58 := NB1225_1242.out; have hnb59 := NB1242_1235.out; have hnc59 := NB1235_1242.out; obtain ⟨hcz60_0, hcz60_1, hfz60_0, hfz60_1⟩ := xc2 BK1242; have hnb61 := NB1235_1224.out; have hnc61 := NB1224_1235.out; have hnb62 := NB1235_1225.out; have hnc62 := NB1225_1235.out; obtain ⟨hcz63_0, hcz63_1, hfz63_0, hfz63_1⟩ := xc2 BK1235
            try go_wp2
            go_roundg k2
            case measure => have := HJ12.out; have := HK2.out; omega
            case rel => exact ⟨(wrap64 (x9_2 + 1)), jz, H', ⟨by have := HJ12.out; have := HK2.out; omega⟩, ⟨by (with_reducible repeat (first | apply Kd.R_alloc | apply Kd.R_drewN | apply Kd.R_drew)); exact Kd.R_mono (Kd.R_far (p := ⟨gb1242, 1, none⟩) (Kd.R_far (p := ⟨gb1242, 0, none⟩) (Kd.R_types HO_5.out BK1242.out (by decide)) (fun _ hk => hk.2) (.int .i64 t1238)) (fun _ hk => hk.2) (.int .i64 t1239)) (fun _ hk => trivial)⟩, ⟨by (with_reducible repeat (first | refine blk_drewN ?_ _ | refine blk_drew ?_ | refine blk_alloc ?_ _)); refine blk_far ?_ NB1224_1242.out _; (with_reducible repeat (first | refine blk_drewN ?_ _ | refine blk_drew ?_ | refine blk_alloc ?_ _)); refine blk_far ?_ NB1224_1242.out _; (with_reducible repeat (first | refine blk_drewN ?_ _ | refine blk_drew ?_ | refine blk_alloc ?_ _)); exact BK1224.out⟩, ⟨by (with_reducible repeat (first | refine blk_drewN ?_ _ | refine blk_drew ?_ | refine blk_alloc ?_ _)); refine blk_far ?_ NB1225_1242.out _; (with_reducible repeat (first | refine blk_drewN ?_ _ | refine blk_drew ?_ | refine blk_alloc ?_ _)); refine blk_far ?_ NB1225_1242.out _; (with_reducible repeat (first | refine blk_drewN ?_ _ | refine blk_drew ?_ | refine blk_alloc ?_ _)); exact BK1225.out⟩, ⟨by (with_reducible repeat (first | refine blk_drewN ?_ _ | refine blk_drew ?_ | refine blk_alloc ?_ _)); refine blk_far ?_ NB1235_1242.out _; (with_reducible repeat (first | refine blk_drewN ?_ _ | refine blk_drew ?_ | refine blk_alloc ?_ _)); refine blk_far ?_ NB1235_1242.out _; (with_reducible repeat (first | refine blk_drewN ?_ _ | refine blk_drew ?_ | refine blk_alloc ?_ _)); exact BK1235.out⟩, ⟨bz⟩⟩
          ·rw [if_neg c34] at H; have c34b0 : (t1241 == 0) = false := beq_eq_false_iff_ne.mpr c34; have c34b1 : (t1241 != 0) = true := bne_iff_ne.mpr c34; obtain rfl := Option.some.inj H; obtain ⟨Ao64, co64, eo64⟩ := Kd.R_slice HO_5.out; subst eo64
           try go_wp2
           replace HO_5 := Aside0.mk (Kd.R_drew HO_5.out); replace BK1224 := Aside0.mk (blk_drew BK1224.out); replace BK1225 := Aside0.mk (blk_drew BK1225.out); replace BK1235 := Aside0.mk (blk_drew BK1235.out); replace HB := Aside0.mk (below_drew1 HB.out); have p1237 : 0 ≤ (x9_2 : Int) := od; have q1237 : x9_2 < (t1228.length : Int) := od; obtain ⟨ad1237, e1237, hx1237_0, hx1237_1, hx1237_2, hx1237_3⟩ := at_T63 (Kd.R_reads' HO_5.out).2.2 x9_2 p1237 q1237
           cases e1237
           replace p1237 := eq_true p1237; replace q1237 := eq_true q1237; refine start_ (n := 20) (S := fun w' => w'.cell? ⟨gb1224, 0, none⟩ = some (.slice A0_0 l0_0.length c0_0) ∧ w'.cell? ⟨gb1224, 1, none⟩ = some (.int .i64 a0_1) ∧ w'.cell? ⟨gb1224, 2, none⟩ = some (.int .i64 a0_2) ∧ w'.cell? (ad1237.add ((x9_2).toNat * 4)) = some (.int .i64 ((rd_T63 t1228 x9_2).f0.f0)) ∧ w'.cell? ⟨(ad1237.add ((x9_2).toNat * 4)).block, (ad1237.add ((x9_2).toNat * 4)).off + 1, none⟩ = some (.int .i64 ((rd_T63 t1228 x9_2).f0.f1)) ∧ w'.cell? ⟨(ad1237.add ((x9_2).toNat * 4)).block, (ad1237.add ((x9_2).toNat * 4)).off + 2, none⟩ = some (.int .i64 ((rd_T63 t1228 x9_2).f1.f0)) ∧ w'.cell? ⟨(ad1237.add ((x9_2).toNat * 4)).block, (ad1237.add ((x9_2).toNat * 4)).off + 3, none⟩ = some (.int .i64 ((rd_T63 t1228 x9_2).f1.f1))) (ds := []) (bs 20 0) (by kernel_rfl) rfl rfl ⟨ct BK1224 0, ct BK1224 1, ct BK1224 2, hx1237_0, hx1237_1, hx1237_2, hx1237_3⟩ (fun hHeld => ?_)
           generalize wr.drew = w65 at HO_5 BK1224 BK1225 BK1235 HB hx1237_0 hx1237_1 hx1237_2 hx1237_3 hHeld ⊢; refine zP 0 47 20 1 ?_; refine zP 2 49 20 5 ?_; refine zP 4 51 20 21 ?_; refine zP 6 53 20 85 ?_; refine zP 7 54 20 213 ?_; refine zP 8 55 20 469 ?_; refine zP 9 56 20 981 ?_; refine zT 1 48 20 983 hHeld ?_; refine zT 3 50 20 991 hHeld ?_; refine zT 5 52 20 1023 hHeld ?_; refine zT 10 57 20 2047 hHeld ?_; refine join_ (σ := Nat) 3 (bs 20 131071) (fun s_ => [(58, .tuple #[.agg #[.int .i64 t1238, .int .i64 t1239], .bool true, .int .i64 t1241]), (10, .pointer (some ⟨s_, 0, none⟩)), (46, .tuple #[.agg #[.int .i64 t1238, .int .i64 t1239], .bool true, .int .i64 t1241]), (59, .agg #[.int .i64 t1238, .int .i64 t1239]), (60, .bool true), (61, .int .i64 t1241)]) (fun s_ w' => (w'.cell? ⟨gb1224, 0, none⟩ = some (.slice A0_0 l0_0.length c0_0) ∧ w'.cell? ⟨gb1224, 1, none⟩ = some (.int .i64 a0_1) ∧ w'.cell? ⟨gb1224, 2, none⟩ = some (.int .i64 a0_2) ∧ w'.cell? (ad1237.add ((x9_2).toNat * 4)) = some (.int .i64 ((rd_T63 t1228 x9_2).f0.f0)) ∧ w'.cell? ⟨(ad1237.add ((x9_2).toNat * 4)).block, (ad1237.add ((x9_2).toNat * 4)).off + 1, none⟩ = some (.int .i64 ((rd_T63 t1228 x9_2).f0.f1)) ∧ w'.cell? ⟨(ad1237.add ((x9_2).toNat * 4)).block, (ad1237.add ((x9_2).toNat * 4)).off + 2, none⟩ = some (.int .i64 ((rd_T63 t1228 x9_2).f1.f0)) ∧ w'.cell? ⟨(ad1237.add ((x9_2).toNat * 4)).block, (ad1237.add ((x9_2).toNat * 4)).off + 3, none⟩ = some (.int .i64 ((rd_T63 t1228 x9_2).f1.f1))) ∧ (Kd.R k63 63 w' w.heap.size (fun _ => True) (.slice (some ad1237) t1228.length co64) t1228) ∧ (w'.heap[gb1224]? = some (.cells #[.slice A0_0 l0_0.length c0_0, .int .i64 a0_1, .int .i64 a0_2] 24 (0, 0))) ∧ (w'.heap[gb1225]? = some (.cells #[.int .i64 a1_0, .int .i64 a1_1] 37 (0, 0))) ∧ (w'.heap[gb1235]? = some (.cells #[.int .i64 t1232, .int .i64 t1233] 37 (0, 0))) ∧ (w'.heap[s_]? = some (.cells #[.int .i64 0, .int .i64 0] 37 (0, 0))) ∧ (w.heap.size ≤ s_) ∧ (w.heap.size ≤ s_) ∧ (gb1224 ≠ s_) ∧ (s_ ≠ gb1224) ∧ (gb1225 ≠ s_) ∧ (s_ ≠ gb1225) ∧ (gb1235 ≠ s_) ∧ (s_ ≠ gb1235) ∧ (Below w.heap.size w w')) ?_ ?_
           rotate_left
           ·intro hCont; refine two_ (i := 11) (j := 16) (Ni := some 58) (Nj := some 10) (bs 20 4095) (bs 20 67583) rfl rfl rfl rfl (by kernel_rfl) (by decide) (by decide) (fun K hK => ?_) (fun K hK => ?_)
            ·skip
             refine zG Try.func32 #[.slice A0_0 l0_0.length c0_0, .int .i64 a0_1, .int .i64 a0_2, .agg #[.int .i64 ((rd_T63 t1228 x9_2).f0.f0), .int .i64 ((rd_T63 t1228 x9_2).f0.f1)]] ?_
             with_reducible refine (edit_Media.calls _ _ l0_0 a0_1 a0_2 ((rd_T63 t1228 x9_2).f0.f0) ((rd_T63 t1228 x9_2).f0.f1) t1238 t1239 true t1241 _ ?side1 ?side2 A32.out).mono ?_
             (case side1 => exact cz HR0_0)
             (case side2 => exact HC0_0.out)
             rintro e w66 ⟨rfl, hb⟩; have HS3_ := (hb.cell (World.block_lt_of_cell? _ _ (hHeld.2.2.2.1))).trans (hHeld.2.2.2.1); have HS4_ := (hb.cell (World.block_lt_of_cell? _ _ (hHeld.2.2.2.2.1))).trans (hHeld.2.2.2.2.1); have HS5_ := (hb.cell (World.block_lt_of_cell? _ _ (hHeld.2.2.2.2.2.1))).trans (hHeld.2.2.2.2.2.1); have HS6_ := (hb.cell (World.block_lt_of_cell? _ _ (hHeld.2.2.2.2.2.2))).trans (hHeld.2.2.2.2.2.2); refine ⟨_, rfl, ?_⟩; replace HO_5 := Aside0.mk (Kd.R_below (rz HO_5) hb); replace BK1224 := kb BK1224 hb; replace BK1225 := kb BK1225 hb; replace BK1235 := kb BK1235 hb; replace HB := bp hb; clear hb; refine hK.out _ _ ⟨ct BK1224 0, ct BK1224 1, ct BK1224 2, HS3_, HS4_, HS5_, HS6_⟩ (fun hHeld => ?_); clear hK K; refine zM 58 ?_; refine zP 12 46 20 8191 ?_; refine zP 13 59 20 16383 ?_; refine zP 14 60 20 32767 ?_; refine zP 15 61 20 65535 ?_; refine zN 16 (some 10) 20 131071 (fun K hK => ?_); refine box_step ?hg (N := 10) ?hd (cs := #[.int .i64 0, .int .i64 0]) (t := 37) ?hr ?_; (case hd => rfl); (case hg => rfl); (case hr => first | (go_simp; done) | (go_simp; rfl))
             intro gb1242 hg w67 hbox hb; have HS3_ := (hb.cell (World.block_lt_of_cell? _ _ (hHeld.2.2.2.1))).trans (hHeld.2.2.2.1); have HS4_ := (hb.cell (World.block_lt_of_cell? _ _ (hHeld.2.2.2.2.1))).trans (hHeld.2.2.2.2.1); have HS5_ := (hb.cell (World.block_lt_of_cell? _ _ (hHeld.2.2.2.2.2.1))).trans (hHeld.2.2.2.2.2.1); have HS6_ := (hb.cell (World.block_lt_of_cell? _ _ (hHeld.2.2.2.2.2.2))).trans (hHeld.2.2.2.2.2.2); replace HO_5 := Aside0.mk (Kd.R_below (rz HO_5) hb); have BK1242 := Aside0.mk hbox; have GW1242 := gz hg; have GE1242 := gz hg; replace HB := bp hb; have NB1224_1242 := Aside0.mk ((by rw [hg]; exact Nat.ne_of_lt (bl BK1224) : gb1224 ≠ gb1242)); have NB1242_1224 := Aside0.mk ((by rw [hg]; exact Nat.ne_of_gt (bl BK1224) : gb1242 ≠ gb1224)); replace BK1224 := kb BK1224 hb; have NB1225_1242 := Aside0.mk ((by rw [hg]; exact Nat.ne_of_lt (bl BK1225) : gb1225 ≠ gb1242)); have NB1242_1225 := Aside0.mk ((by rw [hg]; exact Nat.ne_of_gt (bl BK1225) : gb1242 ≠ gb1225)); replace BK1225 := kb BK1225 hb; have NB1235_1242 := Aside0.mk ((by rw [hg]; exact Nat.ne_of_lt (bl BK1235) : gb1235 ≠ gb1242)); have NB1242_1235 := Aside0.mk ((by rw [hg]; exact Nat.ne_of_gt (bl BK1235) : gb1242 ≠ gb1235)); replace BK1235 := kb BK1235 hb; clear hb hbox hg; refine hK.out _ _ ⟨ct BK1224 0, ct BK1224 1, ct BK1224 2, HS3_, HS4_, HS5_, HS6_⟩ (fun hHeld => ?_); clear hK K; refine zM 10 ?_
             exact norm_ (by simp only [putAll, Act.put, List.setIfInBounds_toArray, List.set_cons_zero, List.set_cons_succ]) (hCont (gb1242) _ ⟨hHeld, (rz HO_5), kz, kz, kz, kz, GW1242.out, GE1242.out, NB1224_1242.out, NB1242_1224.out, NB1225_1242.out, NB1242_1225.out, NB1235_1242.out, NB1242_1235.out, bz⟩)
            ·skip
             refine box_step ?hg (N := 10) ?hd (cs := #[.int .i64 0, .int .i64 0]) (t := 37) ?hr ?_; (case hd => rfl); (case hg => rfl); (case hr => first | (go_simp; done) | (go_simp; rfl))
             intro gb1242 hg w66 hbox hb; have HS3_ := (hb.cell (World.block_lt_of_cell? _ _ (hHeld.2.2.2.1))).trans (hHeld.2.2.2.1); have HS4_ := (hb.cell (World.block_lt_of_cell? _ _ (hHeld.2.2.2.2.1))).trans (hHeld.2.2.2.2.1); have HS5_ := (hb.cell (World.block_lt_of_cell? _ _ (hHeld.2.2.2.2.2.1))).trans (hHeld.2.2.2.2.2.1); have HS6_ := (hb.cell (World.block_lt_of_cell? _ _ (hHeld.2.2.2.2.2.2))).trans (hHeld.2.2.2.2.2.2); replace HO_5 := Aside0.mk (Kd.R_below (rz HO_5) hb); have BK1242 := Aside0.mk hbox; have GW1242 := gz hg; have GE1242 := gz hg; replace HB := bp hb; have NB1224_1242 := Aside0.mk ((by rw [hg]; exact Nat.ne_of_lt (bl BK1224) : gb1224 ≠ gb1242)); have NB1242_1224 := Aside0.mk ((by rw [hg]; exact Nat.ne_of_gt (bl BK1224) : gb1242 ≠ gb1224)); replace BK1224 := kb BK1224 hb; have NB1225_1242 := Aside0.mk ((by rw [hg]; exact Nat.ne_of_lt (bl BK1225) : gb1225 ≠ gb1242)); have NB1242_1225 := Aside0.mk ((by rw [hg]; exact Nat.ne_of_gt (bl BK1225) : gb1242 ≠ gb1225)); replace BK1225 := kb BK1225 hb; have NB1235_1242 := Aside0.mk ((by rw [hg]; exact Nat.ne_of_lt (bl BK1235) : gb1235 ≠ gb1242)); have NB1242_1235 := Aside0.mk ((by rw [hg]; exact Nat.ne_of_gt (bl BK1235) : gb1242 ≠ gb1235)); replace BK1235 := kb BK1235 hb; clear hb hbox hg; refine hK.out _ _ ⟨ct BK1224 0, ct BK1224 1, ct BK1224 2, HS3_, HS4_, HS5_, HS6_⟩ (fun hHeld => ?_); clear hK K; refine zM 10 ?_; refine zN 11 (some 58) 20 69631 (fun K hK => ?_); refine zG Try.func32 #[.slice A0_0 l0_0.length c0_0, .int .i64 a0_1, .int .i64 a0_2, .agg #[.int .i64 ((rd_T63 t1228 x9_2).f0.f0), .int .i64 ((rd_T63 t1228 x9_2).f0.f1)]] ?_
             with_reducible refine (edit_Media.calls _ _ l0_0 a0_1 a0_2 ((rd_T63 t1228 x9_2).f0.f0) ((rd_T63 t1228 x9_2).f0.f1) t1238 t1239 true t1241 _ ?side1 ?side2 A32.out).mono ?_
             (case side1 => exact cz HR0_0)
             (case side2 => exact HC0_0.out)
             rintro e w67 ⟨rfl, hb⟩; have HS3_ := (hb.cell (World.block_lt_of_cell? _ _ (hHeld.2.2.2.1))).trans (hHeld.2.2.2.1); have HS4_ := (hb.cell (World.block_lt_of_cell? _ _ (hHeld.2.2.2.2.1))).trans (hHeld.2.2.2.2.1); have HS5_ := (hb.cell (World.block_lt_of_cell? _ _ (hHeld.2.2.2.2.2.1))).trans (hHeld.2.2.2.2.2.1); have HS6_ := (hb.cell (World.block_lt_of_cell? _ _ (hHeld.2.2.2.2.2.2))).trans (hHeld.2.2.2.2.2.2); refine ⟨_, rfl, ?_⟩; replace HO_5 := Aside0.mk (Kd.R_below (rz HO_5) hb); replace BK1224 := kb BK1224 hb; replace BK1225 := kb BK1225 hb; replace BK1235 := kb BK1235 hb; replace BK1242 := kb BK1242 hb; replace HB := bp hb; clear hb; refine hK.out _ _ ⟨ct BK1224 0, ct BK1224 1, ct BK1224 2, HS3_, HS4_, HS5_, HS6_⟩ (fun hHeld => ?_); clear hK K; refine zM 58 ?_; refine zP 12 46 20 73727 ?_; refine zP 13 59 20 81919 ?_; refine zP 14 60 20 98303 ?_; refine zP 15 61 20 131071 ?_
             exact norm_ (by simp only [putAll, Act.put, List.setIfInBounds_toArray, List.set_cons_zero, List.set_cons_succ]) (hCont (gb1242) _ ⟨hHeld, (rz HO_5), kz, kz, kz, kz, GW1242.out, GE1242.out, NB1224_1242.out, NB1242_1224.out, NB1225_1242.out, NB1242_1225.out, NB1235_1242.out, NB1242_1235.out, bz⟩)
           rintro gb1242 w68 ⟨hS_, h0_, h1_, h2_, h3_, h4_, h5_, h6_, h7_, h8_, h9_, h10_, h11_, h12_, h13_⟩; have n0_ : Aside0 (Kd.R k63 63 w68 w.heap.size (fun _ => True) (.slice (some ad1237) t1228.length co64) t1228) := ⟨h0_⟩; have n1_ : Aside0 (w68.heap[gb1224]? = some (.cells #[.slice A0_0 l0_0.length c0_0, .int .i64 a0_1, .int .i64 a0_2] 24 (0, 0))) := ⟨h1_⟩; have n2_ : Aside0 (w68.heap[gb1225]? = some (.cells #[.int .i64 a1_0, .int .i64 a1_1] 37 (0, 0))) := ⟨h2_⟩; have n3_ : Aside0 (w68.heap[gb1235]? = some (.cells #[.int .i64 t1232, .int .i64 t1233] 37 (0, 0))) := ⟨h3_⟩; have n4_ : Aside0 (w68.heap[gb1242]? = some (.cells #[.int .i64 0, .int .i64 0] 37 (0, 0))) := ⟨h4_⟩; have n5_ : Aside0 (w.heap.size ≤ gb1242) := ⟨h5_⟩; have n6_ : Aside0 (w.heap.size ≤ gb1242) := ⟨h6_⟩; have n7_ : Aside0 (gb1224 ≠ gb1242) := ⟨h7_⟩; have n8_ : Aside0 (gb1242 ≠ gb1224) := ⟨h8_⟩; have n9_ : Aside0 (gb1225 ≠ gb1242) := ⟨h9_⟩; have n10_ : Aside0 (gb1242 ≠ gb1225) := ⟨h10_⟩; have n11_ : Aside0 (gb1235 ≠ gb1242) := ⟨h11_⟩; have n12_ : Aside0 (gb1242 ≠ gb1235) := ⟨h12_⟩; have n13_ : Aside0 (Below w.heap.size w w68) := ⟨h13_⟩; clear HO_5; clear BK1224; clear BK1225; clear BK1235; clear HB; clear h0_ h1_ h2_ h3_ h4_ h5_ h6_ h7_ h8_ h9_ h10_ h11_ h12_ h13_; have HO_5 := n0_; have BK1224 := n1_; have BK1225 := n2_; have BK1235 := n3_; have BK1242 := n4_; have GW1242 := n5_; have GE1242 := n6_; have NB1224_1242 := n7_; have NB1242_1224 := n8_; have NB1225_1242 := n9_; have NB1242_1225 := n10_; have NB1235_1242 := n11_; have NB1242_1235 := n12_; have HB := n13_; clear n0_ n1_ n2_ n3_ n4_ n5_ n6_ n7_ n8_ n9_ n10_ n11_ n12_ n13_; have hHeld : w68.cell? ⟨gb1224, 0, none⟩ = some (.slice A0_0 l0_0.length c0_0) ∧ w68.cell? ⟨gb1224, 1, none⟩ = some (.int .i64 a0_1) ∧ w68.cell? ⟨gb1224, 2, none⟩ = some (.int .i64 a0_2) ∧ w68.cell? (ad1237.add ((x9_2).toNat * 4)) = some (.int .i64 ((rd_T63 t1228 x9_2).f0.f0)) ∧ w68.cell? ⟨(ad1237.add ((x9_2).toNat * 4)).block, (ad1237.add ((x9_2).toNat * 4)).off + 1, none⟩ = some (.int .i64 ((rd_T63 t1228 x9_2).f0.f1)) ∧ w68.cell? ⟨(ad1237.add ((x9_2).toNat * 4)).block, (ad1237.add ((x9_2).toNat * 4)).off + 2, none⟩ = some (.int .i64 ((rd_T63 t1228 x9_2).f1.f0)) ∧ w68.cell? ⟨(ad1237.add ((x9_2).toNat * 4)).block, (ad1237.add ((x9_2).toNat * 4)).off + 3, none⟩ = some (.int .i64 ((rd_T63 t1228 x9_2).f1.f1)) := hS_; refine norm_ (a' := ?_) ?_ ?_
           rotate_left
           ·simp only [putAll, Act.put, List.setIfInBounds_toArray, List.set_cons_zero, List.set_cons_succ]
            rfl
           refine zN 17 none 20 262143 (fun K hK => ?_); have hs69 : w68.cell? ⟨gb1242, 0, none⟩ = some (.int .i64 0) := ct BK1242 0; have hfs69 := blk_frozen BK1242.out 0; have hns69_0 := NB1224_1242.out; have hns69_1 := NB1225_1242.out; have hns69_2 := NB1235_1242.out; have hms69_0 := NB1242_1224.out; have hms69_1 := NB1242_1225.out; have hms69_2 := NB1242_1235.out; have hs70 : w68.cell? ⟨gb1242, 1, none⟩ = some (.int .i64 0) := ct BK1242 1; have hfs70 := blk_frozen BK1242.out 1; have hns70_0 := NB1224_1242.out; have hns70_1 := NB1225_1242.out; have hns70_2 := NB1235_1242.out; have hms70_0 := NB1242_1224.out; have hms70_1 := NB1242_1225.out; have hms70_2 := NB1242_1235.out; refine skip_ (w1 := ?_) (by rfl) rfl ?_ ?_
           rotate_left
           ·go_simp
            rfl
           refine hK.out _ _ ⟨((cell_far (p := ⟨gb1242, _, none⟩) NB1224_1242.out _).trans (((cell_far (p := ⟨gb1242, _, none⟩) NB1224_1242.out _).trans (hHeld.1)))), ((cell_far (p := ⟨gb1242, _, none⟩) NB1224_1242.out _).trans (((cell_far (p := ⟨gb1242, _, none⟩) NB1224_1242.out _).trans (hHeld.2.1)))), ((cell_far (p := ⟨gb1242, _, none⟩) NB1224_1242.out _).trans (((cell_far (p := ⟨gb1242, _, none⟩) NB1224_1242.out _).trans (hHeld.2.2.1)))), ((cell_far (p := ⟨gb1242, _, none⟩) (by first | exact Kd.own_blk (Kd.R_ne HO_5.out BK1242.out (by decide)) | (rw [add_block]; exact Kd.own_blk (Kd.R_ne HO_5.out BK1242.out (by decide))) | (show (Addr.add _ _).block ≠ _; rw [add_block]; exact Kd.own_blk (Kd.R_ne HO_5.out BK1242.out (by decide))) | (dsimp only; exact Kd.own_blk (Kd.R_ne HO_5.out BK1242.out (by decide)))) _).trans (((cell_far (p := ⟨gb1242, _, none⟩) (by first | exact Kd.own_blk (Kd.R_ne HO_5.out BK1242.out (by decide)) | (rw [add_block]; exact Kd.own_blk (Kd.R_ne HO_5.out BK1242.out (by decide))) | (show (Addr.add _ _).block ≠ _; rw [add_block]; exact Kd.own_blk (Kd.R_ne HO_5.out BK1242.out (by decide))) | (dsimp only; exact Kd.own_blk (Kd.R_ne HO_5.out BK1242.out (by decide)))) _).trans (hHeld.2.2.2.1)))), ((cell_far (p := ⟨gb1242, _, none⟩) (by first | exact Kd.own_blk (Kd.R_ne HO_5.out BK1242.out (by decide)) | (rw [add_block]; exact Kd.own_blk (Kd.R_ne HO_5.out BK1242.out (by decide))) | (show (Addr.add _ _).block ≠ _; rw [add_block]; exact Kd.own_blk (Kd.R_ne HO_5.out BK1242.out (by decide))) | (dsimp only; exact Kd.own_blk (Kd.R_ne HO_5.out BK1242.out (by decide)))) _).trans (((cell_far (p := ⟨gb1242, _, none⟩) (by first | exact Kd.own_blk (Kd.R_ne HO_5.out BK1242.out (by decide)) | (rw [add_block]; exact Kd.own_blk (Kd.R_ne HO_5.out BK1242.out (by decide))) | (show (Addr.add _ _).block ≠ _; rw [add_block]; exact Kd.own_blk (Kd.R_ne HO_5.out BK1242.out (by decide))) | (dsimp only; exact Kd.own_blk (Kd.R_ne HO_5.out BK1242.out (by decide)))) _).trans (hHeld.2.2.2.2.1)))), ((cell_far (p := ⟨gb1242, _, none⟩) (by first | exact Kd.own_blk (Kd.R_ne HO_5.out BK1242.out (by decide)) | (rw [add_block]; exact Kd.own_blk (Kd.R_ne HO_5.out BK1242.out (by decide))) | (show (Addr.add _ _).block ≠ _; rw [add_block]; exact Kd.own_blk (Kd.R_ne HO_5.out BK1242.out (by decide))) | (dsimp only; exact Kd.own_blk (Kd.R_ne HO_5.out BK1242.out (by decide)))) _).trans (((cell_far (p := ⟨gb1242, _, none⟩) (by first | exact Kd.own_blk (Kd.R_ne HO_5.out BK1242.out (by decide)) | (rw [add_block]; exact Kd.own_blk (Kd.R_ne HO_5.out BK1242.out (by decide))) | (show (Addr.add _ _).block ≠ _; rw [add_block]; exact Kd.own_blk (Kd.R_ne HO_5.out BK1242.out (by decide))) | (dsimp only; exact Kd.own_blk (Kd.R_ne HO_5.out BK1242.out (by decide)))) _).trans (hHeld.2.2.2.2.2.1)))), ((cell_far (p := ⟨gb1242, _, none⟩) (by first | exact Kd.own_blk (Kd.R_ne HO_5.out BK1242.out (by decide)) | (rw [add_block]; exact Kd.own_blk (Kd.R_ne HO_5.out BK1242.out (by decide))) | (show (Addr.add _ _).block ≠ _; rw [add_block]; exact Kd.own_blk (Kd.R_ne HO_5.out BK1242.out (by decide))) | (dsimp only; exact Kd.own_blk (Kd.R_ne HO_5.out BK1242.out (by decide)))) _).trans (((cell_far (p := ⟨gb1242, _, none⟩) (by first | exact Kd.own_blk (Kd.R_ne HO_5.out BK1242.out (by decide)) | (rw [add_block]; exact Kd.own_blk (Kd.R_ne HO_5.out BK1242.out (by decide))) | (show (Addr.add _ _).block ≠ _; rw [add_block]; exact Kd.own_blk (Kd.R_ne HO_5.out BK1242.out (by decide))) | (dsimp only; exact Kd.own_blk (Kd.R_ne HO_5.out BK1242.out (by decide)))) _).trans (hHeld.2.2.2.2.2.2))))⟩ (fun hHeld => ?_)
           clear hK K; refine zP 18 11 20 524287 ?_; refine zP 19 12 20 1048575 ?_; refine done_ (by kernel_rfl) ?_
           try go_wp2
           go_ret
           exact ⟨ez, bz⟩
         ·obtain rfl := bf c33; rw [if_neg (show ¬ (false = true) by decide)] at H; obtain rfl := Option.some.inj H; obtain ⟨Ao71, co71, eo71⟩ := Kd.R_slice HO_5.out; subst eo71
          try go_wp2
          replace HO_5 := Aside0.mk (Kd.R_drew HO_5.out); replace BK1224 := Aside0.mk (blk_drew BK1224.out); replace BK1225 := Aside0.mk (blk_drew BK1225.out); replace BK1235 := Aside0.mk (blk_drew BK1235.out); replace HB := Aside0.mk (below_drew1 HB.out); have p1237 : 0 ≤ (x9_2 : Int) := od; have q1237 : x9_2 < (t1228.length : Int) := od; obtain ⟨ad1237, e1237, hx1237_0, hx1237_1, hx1237_2, hx1237_3⟩ := at_T63 (Kd.R_reads' HO_5.out).2.2 x9_2 p1237 q1237
          cases e1237
          replace p1237 := eq_true p1237; replace q1237 := eq_true q1237; refine start_ (n := 20) (S := fun w' => w'.cell? ⟨gb1224, 0, none⟩ = some (.slice A0_0 l0_0.length c0_0) ∧ w'.cell? ⟨gb1224, 1, none⟩ = some (.int .i64 a0_1) ∧ w'.cell? ⟨gb1224, 2, none⟩ = some (.int .i64 a0_2) ∧ w'.cell? (ad1237.add ((x9_2).toNat * 4)) = some (.int .i64 ((rd_T63 t1228 x9_2).f0.f0)) ∧ w'.cell? ⟨(ad1237.add ((x9_2).toNat * 4)).block, (ad1237.add ((x9_2).toNat * 4)).off + 1, none⟩ = some (.int .i64 ((rd_T63 t1228 x9_2).f0.f1)) ∧ w'.cell? ⟨(ad1237.add ((x9_2).toNat * 4)).block, (ad1237.add ((x9_2).toNat * 4)).off + 2, none⟩ = some (.int .i64 ((rd_T63 t1228 x9_2).f1.f0)) ∧ w'.cell? ⟨(ad1237.add ((x9_2).toNat * 4)).block, (ad1237.add ((x9_2).toNat * 4)).off + 3, none⟩ = some (.int .i64 ((rd_T63 t1228 x9_2).f1.f1))) (ds := []) (bs 20 0) (by kernel_rfl) rfl rfl ⟨ct BK1224 0, ct BK1224 1, ct BK1224 2, hx1237_0, hx1237_1, hx1237_2, hx1237_3⟩ (fun hHeld => ?_)
          generalize wr.drew = w72 at HO_5 BK1224 BK1225 BK1235 HB hx1237_0 hx1237_1 hx1237_2 hx1237_3 hHeld ⊢; refine zP 0 47 20 1 ?_; refine zP 2 49 20 5 ?_; refine zP 4 51 20 21 ?_; refine zP 6 53 20 85 ?_; refine zP 7 54 20 213 ?_; refine zP 8 55 20 469 ?_; refine zP 9 56 20 981 ?_; refine zT 1 48 20 983 hHeld ?_; refine zT 3 50 20 991 hHeld ?_; refine zT 5 52 20 1023 hHeld ?_; refine zT 10 57 20 2047 hHeld ?_; refine join_ (σ := Nat) 3 (bs 20 131071) (fun s_ => [(58, .tuple #[.agg #[.int .i64 t1238, .int .i64 t1239], .bool false, .int .i64 t1241]), (10, .pointer (some ⟨s_, 0, none⟩)), (46, .tuple #[.agg #[.int .i64 t1238, .int .i64 t1239], .bool false, .int .i64 t1241]), (59, .agg #[.int .i64 t1238, .int .i64 t1239]), (60, .bool false), (61, .int .i64 t1241)]) (fun s_ w' => (w'.cell? ⟨gb1224, 0, none⟩ = some (.slice A0_0 l0_0.length c0_0) ∧ w'.cell? ⟨gb1224, 1, none⟩ = some (.int .i64 a0_1) ∧ w'.cell? ⟨gb1224, 2, none⟩ = some (.int .i64 a0_2) ∧ w'.cell? (ad1237.add ((x9_2).toNat * 4)) = some (.int .i64 ((rd_T63 t1228 x9_2).f0.f0)) ∧ w'.cell? ⟨(ad1237.add ((x9_2).toNat * 4)).block, (ad1237.add ((x9_2).toNat * 4)).off + 1, none⟩ = some (.int .i64 ((rd_T63 t1228 x9_2).f0.f1)) ∧ w'.cell? ⟨(ad1237.add ((x9_2).toNat * 4)).block, (ad1237.add ((x9_2).toNat * 4)).off + 2, none⟩ = some (.int .i64 ((rd_T63 t1228 x9_2).f1.f0)) ∧ w'.cell? ⟨(ad1237.add ((x9_2).toNat * 4)).block, (ad1237.add ((x9_2).toNat * 4)).off + 3, none⟩ = some (.int .i64 ((rd_T63 t1228 x9_2).f1.f1))) ∧ (Kd.R k63 63 w' w.heap.size (fun _ => True) (.slice (some ad1237) t1228.length co71) t1228) ∧ (w'.heap[gb1224]? = some (.cells #[.slice A0_0 l0_0.length c0_0, .int .i64 a0_1, .int .i64 a0_2] 24 (0, 0))) ∧ (w'.heap[gb1225]? = some (.cells #[.int .i64 a1_0, .int .i64 a1_1] 37 (0, 0))) ∧ (w'.heap[gb1235]? = some (.cells #[.int .i64 t1232, .int .i64 t1233] 37 (0, 0))) ∧ (w'.heap[s_]? = some (.cells #[.int .i64 0, .int .i64 0] 37 (0, 0))) ∧ (w.heap.size ≤ s_) ∧ (w.heap.size ≤ s_) ∧ (gb1224 ≠ s_) ∧ (s_ ≠ gb1224) ∧ (gb1225 ≠ s_) ∧ (s_ ≠ gb1225) ∧ (gb1235 ≠ s_) ∧ (s_ ≠ gb1235) ∧ (Below w.heap.size w w')) ?_ ?_
          rotate_left
          ·intro hCont; refine two_ (i := 11) (j := 16) (Ni := some 58) (Nj := some 10) (bs 20 4095) (bs 20 67583) rfl rfl rfl rfl (by kernel_rfl) (by decide) (by decide) (fun K hK => ?_) (fun K hK => ?_)
           ·skip
            refine zG Try.func32 #[.slice A0_0 l0_0.length c0_0, .int .i64 a0_1, .int .i64 a0_2, .agg #[.int .i64 ((rd_T63 t1228 x9_2).f0.f0), .int .i64 ((rd_T63 t1228 x9_2).f0.f1)]] ?_
            with_reducible refine (edit_Media.calls _ _ l0_0 a0_1 a0_2 ((rd_T63 t1228 x9_2).f0.f0) ((rd_T63 t1228 x9_2).f0.f1) t1238 t1239 false t1241 _ ?side1 ?side2 A32.out).mono ?_
            (case side1 => exact cz HR0_0)
            (case side2 => exact HC0_0.out)
            rintro e w73 ⟨rfl, hb⟩; have HS3_ := (hb.cell (World.block_lt_of_cell? _ _ (hHeld.2.2.2.1))).trans (hHeld.2.2.2.1); have HS4_ := (hb.cell (World.block_lt_of_cell? _ _ (hHeld.2.2.2.2.1))).trans (hHeld.2.2.2.2.1); have HS5_ := (hb.cell (World.block_lt_of_cell? _ _ (hHeld.2.2.2.2.2.1))).trans (hHeld.2.2.2.2.2.1); have HS6_ := (hb.cell (World.block_lt_of_cell? _ _ (hHeld.2.2.2.2.2.2))).trans (hHeld.2.2.2.2.2.2); refine ⟨_, rfl, ?_⟩; replace HO_5 := Aside0.mk (Kd.R_below (rz HO_5) hb); replace BK1224 := kb BK1224 hb; replace BK1225 := kb BK1225 hb; replace BK1235 := kb BK1235 hb; replace HB := bp hb; clear hb; refine hK.out _ _ ⟨ct BK1224 0, ct BK1224 1, ct BK1224 2, HS3_, HS4_, HS5_, HS6_⟩ (fun hHeld => ?_); clear hK K; refine zM 58 ?_; refine zP 12 46 20 8191 ?_; refine zP 13 59 20 16383 ?_; refine zP 14 60 20 32767 ?_; refine zP 15 61 20 65535 ?_; refine zN 16 (some 10) 20 131071 (fun K hK => ?_); refine box_step ?hg (N := 10) ?hd (cs := #[.int .i64 0, .int .i64 0]) (t := 37) ?hr ?_; (case hd => rfl); (case hg => rfl); (case hr => first | (go_simp; done) | (go_simp; rfl))
            intro gb1242 hg w74 hbox hb; have HS3_ := (hb.cell (World.block_lt_of_cell? _ _ (hHeld.2.2.2.1))).trans (hHeld.2.2.2.1); have HS4_ := (hb.cell (World.block_lt_of_cell? _ _ (hHeld.2.2.2.2.1))).trans (hHeld.2.2.2.2.1); have HS5_ := (hb.cell (World.block_lt_of_cell? _ _ (hHeld.2.2.2.2.2.1))).trans (hHeld.2.2.2.2.2.1); have HS6_ := (hb.cell (World.block_lt_of_cell? _ _ (hHeld.2.2.2.2.2.2))).trans (hHeld.2.2.2.2.2.2); replace HO_5 := Aside0.mk (Kd.R_below (rz HO_5) hb); have BK1242 := Aside0.mk hbox; have GW1242 := gz hg; have GE1242 := gz hg; replace HB := bp hb; have NB1224_1242 := Aside0.mk ((by rw [hg]; exact Nat.ne_of_lt (bl BK1224) : gb1224 ≠ gb1242)); have NB1242_1224 := Aside0.mk ((by rw [hg]; exact Nat.ne_of_gt (bl BK1224) : gb1242 ≠ gb1224)); replace BK1224 := kb BK1224 hb; have NB1225_1242 := Aside0.mk ((by rw [hg]; exact Nat.ne_of_lt (bl BK1225) : gb1225 ≠ gb1242)); have NB1242_1225 := Aside0.mk ((by rw [hg]; exact Nat.ne_of_gt (bl BK1225) : gb1242 ≠ gb1225)); replace BK1225 := kb BK1225 hb; have NB1235_1242 := Aside0.mk ((by rw [hg]; exact Nat.ne_of_lt (bl BK1235) : gb1235 ≠ gb1242)); have NB1242_1235 := Aside0.mk ((by rw [hg]; exact Nat.ne_of_gt (bl BK1235) : gb1242 ≠ gb1235)); replace BK1235 := kb BK1235 hb; clear hb hbox hg; refine hK.out _ _ ⟨ct BK1224 0, ct BK1224 1, ct BK1224 2, HS3_, HS4_, HS5_, HS6_⟩ (fun hHeld => ?_); clear hK K; refine zM 10 ?_
            exact norm_ (by simp only [putAll, Act.put, List.setIfInBounds_toArray, List.set_cons_zero, List.set_cons_succ]) (hCont (gb1242) _ ⟨hHeld, (rz HO_5), kz, kz, kz, kz, GW1242.out, GE1242.out, NB1224_1242.out, NB1242_1224.out, NB1225_1242.out, NB1242_1225.out, NB1235_1242.out, NB1242_1235.out, bz⟩)
           ·skip
            refine box_step ?hg (N := 10) ?hd (cs := #[.int .i64 0, .int .i64 0]) (t := 37) ?hr ?_; (case hd => rfl); (case hg => rfl); (case hr => first | (go_simp; done) | (go_simp; rfl))
            intro gb1242 hg w73 hbox hb; have HS3_ := (hb.cell (World.block_lt_of_cell? _ _ (hHeld.2.2.2.1))).trans (hHeld.2.2.2.1); have HS4_ := (hb.cell (World.block_lt_of_cell? _ _ (hHeld.2.2.2.2.1))).trans (hHeld.2.2.2.2.1); have HS5_ := (hb.cell (World.block_lt_of_cell? _ _ (hHeld.2.2.2.2.2.1))).trans (hHeld.2.2.2.2.2.1); have HS6_ := (hb.cell (World.block_lt_of_cell? _ _ (hHeld.2.2.2.2.2.2))).trans (hHeld.2.2.2.2.2.2); replace HO_5 := Aside0.mk (Kd.R_below (rz HO_5) hb); have BK1242 := Aside0.mk hbox; have GW1242 := gz hg; have GE1242 := gz hg; replace HB := bp hb; have NB1224_1242 := Aside0.mk ((by rw [hg]; exact Nat.ne_of_lt (bl BK1224) : gb1224 ≠ gb1242)); have NB1242_1224 := Aside0.mk ((by rw [hg]; exact Nat.ne_of_gt (bl BK1224) : gb1242 ≠ gb1224)); replace BK1224 := kb BK1224 hb; have NB1225_1242 := Aside0.mk ((by rw [hg]; exact Nat.ne_of_lt (bl BK1225) : gb1225 ≠ gb1242)); have NB1242_1225 := Aside0.mk ((by rw [hg]; exact Nat.ne_of_gt (bl BK1225) : gb1242 ≠ gb1225)); replace BK1225 := kb BK1225 hb; have NB1235_1242 := Aside0.mk ((by rw [hg]; exact Nat.ne_of_lt (bl BK1235) : gb1235 ≠ gb1242)); have NB1242_1235 := Aside0.mk ((by rw [hg]; exact Nat.ne_of_gt (bl BK1235) : gb1242 ≠ gb1235)); replace BK1235 := kb BK1235 hb; clear hb hbox hg; refine hK.out _ _ ⟨ct BK1224 0, ct BK1224 1, ct BK1224 2, HS3_, HS4_, HS5_, HS6_⟩ (fun hHeld => ?_); clear hK K; refine zM 10 ?_; refine zN 11 (some 58) 20 69631 (fun K hK => ?_); refine zG Try.func32 #[.slice A0_0 l0_0.length c0_0, .int .i64 a0_1, .int .i64 a0_2, .agg #[.int .i64 ((rd_T63 t1228 x9_2).f0.f0), .int .i64 ((rd_T63 t1228 x9_2).f0.f1)]] ?_
            with_reducible refine (edit_Media.calls _ _ l0_0 a0_1 a0_2 ((rd_T63 t1228 x9_2).f0.f0) ((rd_T63 t1228 x9_2).f0.f1) t1238 t1239 false t1241 _ ?side1 ?side2 A32.out).mono ?_
            (case side1 => exact cz HR0_0)
            (case side2 => exact HC0_0.out)
            rintro e w74 ⟨rfl, hb⟩; have HS3_ := (hb.cell (World.block_lt_of_cell? _ _ (hHeld.2.2.2.1))).trans (hHeld.2.2.2.1); have HS4_ := (hb.cell (World.block_lt_of_cell? _ _ (hHeld.2.2.2.2.1))).trans (hHeld.2.2.2.2.1); have HS5_ := (hb.cell (World.block_lt_of_cell? _ _ (hHeld.2.2.2.2.2.1))).trans (hHeld.2.2.2.2.2.1); have HS6_ := (hb.cell (World.block_lt_of_cell? _ _ (hHeld.2.2.2.2.2.2))).trans (hHeld.2.2.2.2.2.2); refine ⟨_, rfl, ?_⟩; replace HO_5 := Aside0.mk (Kd.R_below (rz HO_5) hb); replace BK1224 := kb BK1224 hb; replace BK1225 := kb BK1225 hb; replace BK1235 := kb BK1235 hb; replace BK1242 := kb BK1242 hb; replace HB := bp hb; clear hb; refine hK.out _ _ ⟨ct BK1224 0, ct BK1224 1, ct BK1224 2, HS3_, HS4_, HS5_, HS6_⟩ (fun hHeld => ?_); clear hK K; refine zM 58 ?_; refine zP 12 46 20 73727 ?_; refine zP 13 59 20 81919 ?_; refine zP 14 60 20 98303 ?_; refine zP 15 61 20 131071 ?_
            exact norm_ (by simp only [putAll, Act.put, List.setIfInBounds_toArray, List.set_cons_zero, List.set_cons_succ]) (hCont (gb1242) _ ⟨hHeld, (rz HO_5), kz, kz, kz, kz, GW1242.out, GE1242.out, NB1224_1242.out, NB1242_1224.out, NB1225_1242.out, NB1242_1225.out, NB1235_1242.out, NB1242_1235.out, bz⟩)
          rintro gb1242 w75 ⟨hS_, h0_, h1_, h2_, h3_, h4_, h5_, h6_, h7_, h8_, h9_, h10_, h11_, h12_, h13_⟩; have n0_ : Aside0 (Kd.R k63 63 w75 w.heap.size (fun _ => True) (.slice (some ad1237) t1228.length co71) t1228) := ⟨h0_⟩; have n1_ : Aside0 (w75.heap[gb1224]? = some (.cells #[.slice A0_0 l0_0.length c0_0, .int .i64 a0_1, .int .i64 a0_2] 24 (0, 0))) := ⟨h1_⟩; have n2_ : Aside0 (w75.heap[gb1225]? = some (.cells #[.int .i64 a1_0, .int .i64 a1_1] 37 (0, 0))) := ⟨h2_⟩; have n3_ : Aside0 (w75.heap[gb1235]? = some (.cells #[.int .i64 t1232, .int .i64 t1233] 37 (0, 0))) := ⟨h3_⟩; have n4_ : Aside0 (w75.heap[gb1242]? = some (.cells #[.int .i64 0, .int .i64 0] 37 (0, 0))) := ⟨h4_⟩; have n5_ : Aside0 (w.heap.size ≤ gb1242) := ⟨h5_⟩; have n6_ : Aside0 (w.heap.size ≤ gb1242) := ⟨h6_⟩; have n7_ : Aside0 (gb1224 ≠ gb1242) := ⟨h7_⟩; have n8_ : Aside0 (gb1242 ≠ gb1224) := ⟨h8_⟩; have n9_ : Aside0 (gb1225 ≠ gb1242) := ⟨h9_⟩; have n10_ : Aside0 (gb1242 ≠ gb1225) := ⟨h10_⟩; have n11_ : Aside0 (gb1235 ≠ gb1242) := ⟨h11_⟩; have n12_ : Aside0 (gb1242 ≠ gb1235) := ⟨h12_⟩; have n13_ : Aside0 (Below w.heap.size w w75) := ⟨h13_⟩; clear HO_5; clear BK1224; clear BK1225; clear BK1235; clear HB; clear h0_ h1_ h2_ h3_ h4_ h5_ h6_ h7_ h8_ h9_ h10_ h11_ h12_ h13_; have HO_5 := n0_; have BK1224 := n1_; have BK1225 := n2_; have BK1235 := n3_; have BK1242 := n4_; have GW1242 := n5_; have GE1242 := n6_; have NB1224_1242 := n7_; have NB1242_1224 := n8_; have NB1225_1242 := n9_; have NB1242_1225 := n10_; have NB1235_1242 := n11_; have NB1242_1235 := n12_; have HB := n13_; clear n0_ n1_ n2_ n3_ n4_ n5_ n6_ n7_ n8_ n9_ n10_ n11_ n12_ n13_; have hHeld : w75.cell? ⟨gb1224, 0, none⟩ = some (.slice A0_0 l0_0.length c0_0) ∧ w75.cell? ⟨gb1224, 1, none⟩ = some (.int .i64 a0_1) ∧ w75.cell? ⟨gb1224, 2, none⟩ = some (.int .i64 a0_2) ∧ w75.cell? (ad1237.add ((x9_2).toNat * 4)) = some (.int .i64 ((rd_T63 t1228 x9_2).f0.f0)) ∧ w75.cell? ⟨(ad1237.add ((x9_2).toNat * 4)).block, (ad1237.add ((x9_2).toNat * 4)).off + 1, none⟩ = some (.int .i64 ((rd_T63 t1228 x9_2).f0.f1)) ∧ w75.cell? ⟨(ad1237.add ((x9_2).toNat * 4)).block, (ad1237.add ((x9_2).toNat * 4)).off + 2, none⟩ = some (.int .i64 ((rd_T63 t1228 x9_2).f1.f0)) ∧ w75.cell? ⟨(ad1237.add ((x9_2).toNat * 4)).block, (ad1237.add ((x9_2).toNat * 4)).off + 3, none⟩ = some (.int .i64 ((rd_T63 t1228 x9_2).f1.f1)) := hS_; refine norm_ (a' := ?_) ?_ ?_
          rotate_left
          ·simp only [putAll, Act.put, List.setIfInBounds_toArray, List.set_cons_zero, List.set_cons_succ]
           rfl
          refine zN 17 none 20 262143 (fun K hK => ?_); have hs76 : w75.cell? ⟨gb1242, 0, none⟩ = some (.int .i64 0) := ct BK1242 0; have hfs76 := blk_frozen BK1242.out 0; have hns76_0 := NB1224_1242.out; have hns76_1 := NB1225_1242.out; have hns76_2 := NB1235_1242.out; have hms76_0 := NB1242_1224.out; have hms76_1 := NB1242_1225.out; have hms76_2 := NB1242_1235.out; have hs77 : w75.cell? ⟨gb1242, 1, none⟩ = some (.int .i64 0) := ct BK1242 1; have hfs77 := blk_frozen BK1242.out 1; have hns77_0 := NB1224_1242.out; have hns77_1 := NB1225_1242.out; have hns77_2 := NB1235_1242.out; have hms77_0 := NB1242_1224.out; have hms77_1 := NB1242_1225.out; have hms77_2 := NB1242_1235.out; refine skip_ (w1 := ?_) (by rfl) rfl ?_ ?_
          rotate_left
          ·go_simp
           rfl
          refine hK.out _ _ ⟨((cell_far (p := ⟨gb1242, _, none⟩) NB1224_1242.out _).trans (((cell_far (p := ⟨gb1242, _, none⟩) NB1224_1242.out _).trans (hHeld.1)))), ((cell_far (p := ⟨gb1242, _, none⟩) NB1224_1242.out _).trans (((cell_far (p := ⟨gb1242, _, none⟩) NB1224_1242.out _).trans (hHeld.2.1)))), ((cell_far (p := ⟨gb1242, _, none⟩) NB1224_1242.out _).trans (((cell_far (p := ⟨gb1242, _, none⟩) NB1224_1242.out _).trans (hHeld.2.2.1)))), ((cell_far (p := ⟨gb1242, _, none⟩) (by first | exact Kd.own_blk (Kd.R_ne HO_5.out BK1242.out (by decide)) | (rw [add_block]; exact Kd.own_blk (Kd.R_ne HO_5.out BK1242.out (by decide))) | (show (Addr.add _ _).block ≠ _; rw [add_block]; exact Kd.own_blk (Kd.R_ne HO_5.out BK1242.out (by decide))) | (dsimp only; exact Kd.own_blk (Kd.R_ne HO_5.out BK1242.out (by decide)))) _).trans (((cell_far (p := ⟨gb1242, _, none⟩) (by first | exact Kd.own_blk (Kd.R_ne HO_5.out BK1242.out (by decide)) | (rw [add_block]; exact Kd.own_blk (Kd.R_ne HO_5.out BK1242.out (by decide))) | (show (Addr.add _ _).block ≠ _; rw [add_block]; exact Kd.own_blk (Kd.R_ne HO_5.out BK1242.out (by decide))) | (dsimp only; exact Kd.own_blk (Kd.R_ne HO_5.out BK1242.out (by decide)))) _).trans (hHeld.2.2.2.1)))), ((cell_far (p := ⟨gb1242, _, none⟩) (by first | exact Kd.own_blk (Kd.R_ne HO_5.out BK1242.out (by decide)) | (rw [add_block]; exact Kd.own_blk (Kd.R_ne HO_5.out BK1242.out (by decide))) | (show (Addr.add _ _).block ≠ _; rw [add_block]; exact Kd.own_blk (Kd.R_ne HO_5.out BK1242.out (by decide))) | (dsimp only; exact Kd.own_blk (Kd.R_ne HO_5.out BK1242.out (by decide)))) _).trans (((cell_far (p := ⟨gb1242, _, none⟩) (by first | exact Kd.own_blk (Kd.R_ne HO_5.out BK1242.out (by decide)) | (rw [add_block]; exact Kd.own_blk (Kd.R_ne HO_5.out BK1242.out (by decide))) | (show (Addr.add _ _).block ≠ _; rw [add_block]; exact Kd.own_blk (Kd.R_ne HO_5.out BK1242.out (by decide))) | (dsimp only; exact Kd.own_blk (Kd.R_ne HO_5.out BK1242.out (by decide)))) _).trans (hHeld.2.2.2.2.1)))), ((cell_far (p := ⟨gb1242, _, none⟩) (by first | exact Kd.own_blk (Kd.R_ne HO_5.out BK1242.out (by decide)) | (rw [add_block]; exact Kd.own_blk (Kd.R_ne HO_5.out BK1242.out (by decide))) | (show (Addr.add _ _).block ≠ _; rw [add_block]; exact Kd.own_blk (Kd.R_ne HO_5.out BK1242.out (by decide))) | (dsimp only; exact Kd.own_blk (Kd.R_ne HO_5.out BK1242.out (by decide)))) _).trans (((cell_far (p := ⟨gb1242, _, none⟩) (by first | exact Kd.own_blk (Kd.R_ne HO_5.out BK1242.out (by decide)) | (rw [add_block]; exact Kd.own_blk (Kd.R_ne HO_5.out BK1242.out (by decide))) | (show (Addr.add _ _).block ≠ _; rw [add_block]; exact Kd.own_blk (Kd.R_ne HO_5.out BK1242.out (by decide))) | (dsimp only; exact Kd.own_blk (Kd.R_ne HO_5.out BK1242.out (by decide)))) _).trans (hHeld.2.2.2.2.2.1)))), ((cell_far (p := ⟨gb1242, _, none⟩) (by first | exact Kd.own_blk (Kd.R_ne HO_5.out BK1242.out (by decide)) | (rw [add_block]; exact Kd.own_blk (Kd.R_ne HO_5.out BK1242.out (by decide))) | (show (Addr.add _ _).block ≠ _; rw [add_block]; exact Kd.own_blk (Kd.R_ne HO_5.out BK1242.out (by decide))) | (dsimp only; exact Kd.own_blk (Kd.R_ne HO_5.out BK1242.out (by decide)))) _).trans (((cell_far (p := ⟨gb1242, _, none⟩) (by first | exact Kd.own_blk (Kd.R_ne HO_5.out BK1242.out (by decide)) | (rw [add_block]; exact Kd.own_blk (Kd.R_ne HO_5.out BK1242.out (by decide))) | (show (Addr.add _ _).block ≠ _; rw [add_block]; exact Kd.own_blk (Kd.R_ne HO_5.out BK1242.out (by decide))) | (dsimp only; exact Kd.own_blk (Kd.R_ne HO_5.out BK1242.out (by decide)))) _).trans (hHeld.2.2.2.2.2.2))))⟩ (fun hHeld => ?_)
          clear hK K; refine zP 18 11 20 524287 ?_; refine zP 19 12 20 1048575 ?_; refine done_ (by kernel_rfl) ?_
          try go_wp2
          go_ret
          exact ⟨ez, bz⟩
        ·rw [if_neg c31] at H
         exact absurd H (by simp)
       ·rw [if_neg c30] at H; have c30b0 : decide (x9_2 < (t1228.length : Int)) = false := decide_eq_false c30; clear c30; obtain ⟨t1243, A78, H⟩ := ob H; obtain rfl := Option.some.inj H; obtain ⟨Ao79, co79, eo79⟩ := Kd.R_slice HO_5.out; subst eo79
        go_wp2_with (first | ((with_reducible refine gate_callee (f := 20) rfl ?_); refine zC 73 Try.func20 #[] ?_; (with_reducible refine (dioramalaw10_awake.calls k2  t1243 _ A78.out).mono ?_); rintro e w80 ⟨rfl, hb⟩; refine ⟨_, rfl, ?_⟩; replace HO_5 := Aside0.mk (Kd.R_below (rz HO_5) hb); replace BK1224 := kb BK1224 hb; replace BK1225 := kb BK1225 hb; replace BK1235 := kb BK1235 hb; replace HB := bp hb; clear hb))
        go_ret
        exact ⟨ez, bz⟩
end Go.Proofs.Ytpbhepdgamoiaaa.E

namespace Go.Proofs.Ytpbhepdgamoiaaa.E
open Go.Proofs.Ytpbhepdgamoiaaa.Z Go.RowKit Go.Proofs.YtpbhepdgamoiaaaW.PrintWords Go.Proofs.YtpbhepdgamoiaaaW.PrintLast Go.Proofs.YtpbhepdgamoiaaaW.PrintMore
attribute [local go_sem] max2_int min2_int max_two min_two max_three min_three max_four min_four
set_option linter.unusedVariables false
set_option linter.unusedSimpArgs false
end Go.Proofs.Ytpbhepdgamoiaaa.E
namespace Go.Proofs.Ytpbhepdgamoiaaa.E
open Go.Proofs.Ytpbhepdgamoiaaa.Z Go.RowKit Go.Proofs.YtpbhepdgamoiaaaW.PrintWords Go.Proofs.YtpbhepdgamoiaaaW.PrintLast Go.Proofs.YtpbhepdgamoiaaaW.PrintMore
attribute [local go_sem] max2_int min2_int max_two min_two max_three min_three max_four min_four
set_option linter.unusedVariables false
set_option linter.unusedSimpArgs false
attribute [local go_sem high] eqA77
end Go.Proofs.Ytpbhepdgamoiaaa.E
namespace Go.Proofs.Ytpbhepdgamoiaaa.E
open Go.Proofs.Ytpbhepdgamoiaaa.Z Go.RowKit Go.Proofs.YtpbhepdgamoiaaaW.PrintWords Go.Proofs.YtpbhepdgamoiaaaW.PrintLast Go.Proofs.YtpbhepdgamoiaaaW.PrintMore
attribute [local go_sem] max2_int min2_int max_two min_two max_three min_three max_four min_four
set_option linter.unusedVariables false
set_option linter.unusedSimpArgs false
end Go.Proofs.Ytpbhepdgamoiaaa.E
namespace Go.Proofs.Ytpbhepdgamoiaaa.E
open Go.Proofs.Ytpbhepdgamoiaaa.Z Go.RowKit Go.Proofs.YtpbhepdgamoiaaaW.PrintWords Go.Proofs.YtpbhepdgamoiaaaW.PrintLast Go.Proofs.YtpbhepdgamoiaaaW.PrintMore
attribute [local go_sem] max2_int min2_int max_two min_two max_three min_three max_four min_four
set_option linter.unusedVariables false
set_option linter.unusedSimpArgs false
attribute [local go_sem high] eqA37
end Go.Proofs.Ytpbhepdgamoiaaa.E
namespace Go.Proofs.Ytpbhepdgamoiaaa.E
open Go.Proofs.Ytpbhepdgamoiaaa.Z Go.RowKit Go.Proofs.YtpbhepdgamoiaaaW.PrintWords Go.Proofs.YtpbhepdgamoiaaaW.PrintLast Go.Proofs.YtpbhepdgamoiaaaW.PrintMore
attribute [local go_sem] max2_int min2_int max_two min_two max_three min_three max_four min_four
set_option linter.unusedVariables false
set_option linter.unusedSimpArgs false
end Go.Proofs.Ytpbhepdgamoiaaa.E
namespace Go.Proofs.Ytpbhepdgamoiaaa.E
open Go.Proofs.Ytpbhepdgamoiaaa.Z Go.RowKit Go.Proofs.YtpbhepdgamoiaaaW.PrintWords Go.Proofs.YtpbhepdgamoiaaaW.PrintLast Go.Proofs.YtpbhepdgamoiaaaW.PrintMore
attribute [local go_sem] max2_int min2_int max_two min_two max_three min_three max_four min_four
set_option linter.unusedVariables false
set_option linter.unusedSimpArgs false
attribute [local go_sem high] eqA77
end Go.Proofs.Ytpbhepdgamoiaaa.E
namespace Go.Proofs.Ytpbhepdgamoiaaa.E
open Go.Proofs.Ytpbhepdgamoiaaa.Z Go.RowKit Go.Proofs.YtpbhepdgamoiaaaW.PrintWords Go.Proofs.YtpbhepdgamoiaaaW.PrintLast Go.Proofs.YtpbhepdgamoiaaaW.PrintMore
attribute [local go_sem] max2_int min2_int max_two min_two max_three min_three max_four min_four
set_option linter.unusedVariables false
set_option linter.unusedSimpArgs false
end Go.Proofs.Ytpbhepdgamoiaaa.E
namespace Go.Proofs.Ytpbhepdgamoiaaa.Pf
open Go.RowKit Go Go.Proofs.YtpbhepdgamoiaaaW.PrintWords Go.Proofs.YtpbhepdgamoiaaaW.PrintLast Go.Proofs.YtpbhepdgamoiaaaW.PrintMore Go.Proofs.Ytpbhepdgamoiaaa.Mn Go.Proofs.Ytpbhepdgamoiaaa.Rf Go.Proofs.Ytpbhepdgamoiaaa.Er Go.Proofs.Ytpbhepdgamoiaaa.Ek Go.Proofs.Ytpbhepdgamoiaaa.E Go.Proofs.Ytpbhepdgamoiaaa.Pe
set_option linter.unusedVariables false
set_option linter.unusedSimpArgs false
def lowV (x : Ed) : Ed := ⟨x.f0, x.f1, (qq x.f2 x.f3).num, ((qq x.f2 x.f3).den : Int)⟩
def ovV (ms ts : Int) (a b : Ed) : Bool := overB ms ts a.f0 a.f1 a.f2 a.f3 b.f1 b.f2 b.f3
def push (ms ts : Int) : List Ed → Ed → List Ed
 | [], e => [e]
 | a :: t, e => if ovV ms ts a e = true then ⟨a.f0 + e.f0, a.f1, a.f2, a.f3⟩ :: t else e :: a :: t
def nrmR (ms ts : Int) (out l : List Ed) : List Ed := (l.map lowV).foldl (push ms ts) out
def nrm (ms ts : Int) (l : List Ed) : List Ed := (nrmR ms ts [] l).reverse
def fin (out : List Ed) : List Ed × Int := if 20 < out.length then ([], 2) else (out.reverse, 0)
def nrmV (ms ts : Int) (l : List Ed) : List Ed × Int := if 1099511627776 < sumD l then ([], 2) else fin (nrmR ms ts [] l)
structure Wd (x : Ed) : Prop where
 d0 : 1 ≤ x.f0
 m0 : -1 ≤ x.f1
 m1 : x.f1 ≤ 1099511627776
 n0 : 0 ≤ x.f2
 n1 : x.f2 ≤ 1000
 e0 : 1 ≤ x.f3
 e1 : x.f3 ≤ 1000
theorem wd_low {x : Ed} (h : Vd x) : Wd (lowV x) := by
 have hq := qq_low h.n0 h.e0
 have h1 := h.n1
 have h2 := h.e1
 exact ⟨h.d0, h.m0, h.m1, hq.1, by unfold lowV; simp only; omega, hq.2.2.1, by unfold lowV; simp only; omega⟩
theorem low_f {x : Ed} (h : Vd x) : edit_lowest.f x.f0 x.f1 x.f2 x.f3 = some ((lowV x).f0, (lowV x).f1, (lowV x).f2, (lowV x).f3) := by
 unfold edit_lowest.f rateOk
 have h0 := h.n0
 have h1 := h.n1
 have h2 := h.e0
 have h3 := h.e1
 rw [decide_eq_true h0, decide_eq_true (show x.f2 ≤ 1000000 by omega), decide_eq_true h2, decide_eq_true (show x.f3 ≤ 1000000 by omega)]
 rfl
theorem over_f {ms ts : Int} {a b : Ed} (hc : Ck ms ts) (ha : Wd a) (hd : a.f0 ≤ 1099511627776) (hb : Wd b) : edit_clocks_over.f ms ts a.f0 a.f1 a.f2 a.f3 b.f0 b.f1 b.f2 b.f3 = some (ovV ms ts a b) := by
 unfold edit_clocks_over.f overOk in64
 have c0 := hc.m0
 have c1 := hc.m1
 have c2 := hc.t0
 have c3 := hc.t1
 have a0 := ha.d0
 have a1 := ha.m0
 have a2 := ha.m1
 have a3 := ha.n0
 have a4 := ha.n1
 have a5 := ha.e0
 have a6 := ha.e1
 have b1 := hb.m0
 have b2 := hb.m1
 rw [if_pos (by simp only [Bool.and_eq_true, decide_eq_true_eq]; omega)]
 rfl
theorem push_sum (ms ts : Int) (out : List Ed) (e : Ed) : sumD (push ms ts out e) = sumD out + e.f0 := by
 cases out with
 | nil => simp [push, sumD]
 | cons a t =>
  simp only [push]
  split
  ·simp only [sumD]; omega
  ·simp only [sumD]; omega
theorem push_wd {ms ts : Int} {out : List Ed} {e : Ed} (h : ∀ x ∈ out, Wd x) (he : Wd e) : ∀ x ∈ push ms ts out e, Wd x := by
 cases out with
 | nil => simpa [push] using he
 | cons a t =>
  have ha := h a (by simp)
  simp only [push]
  split
  ·intro x hx
   simp only [List.mem_cons] at hx
   rcases hx with rfl | hx
   ·have a0 := ha.d0
    have e0 := he.d0
    exact ⟨by simp only; omega, ha.m0, ha.m1, ha.n0, ha.n1, ha.e0, ha.e1⟩
   ·exact h x (by simp [hx])
  ·intro x hx
   simp only [List.mem_cons] at hx
   rcases hx with rfl | hx
   ·exact he
   ·exact h x (by simpa using hx)
theorem push_len (ms ts : Int) (out : List Ed) (e : Ed) : (push ms ts out e).length ≤ out.length + 1 := by
 cases out with
 | nil => simp [push]
 | cons a t =>
  simp only [push]
  split <;> simp
theorem wd_sum {l : List Ed} (h : ∀ x ∈ l, Wd x) : 0 ≤ sumD l := by
 induction l with
 | nil => simp [sumD]
 | cons x t ih =>
  have h1 := (h x (by simp)).d0
  have h2 := ih (fun y hy => h y (by simp [hy]))
  simp only [sumD]
  omega
theorem normal_l {ms ts : Int} (hc : Ck ms ts) (l : List Ed) (hV : ∀ x ∈ l, Vd x) (hl : l.length ≤ 1000000000) (rest : List Ed) :
  ∀ pre out, l = pre ++ rest → sumD out = sumD pre → sumD pre ≤ 1099511627776 → (∀ x ∈ out, Wd x) → out.length ≤ pre.length →
   Ev (fun k => edit_clocks_normal.l0 k out.reverse (sumD pre) l (l.length : Int) (pre.length : Int) ms ts) (if 1099511627776 < sumD l then ([], 2) else fin (nrmR ms ts out rest)) := by
 induction rest with
 | nil =>
  intro pre out he hs hp hw ho
  subst he
  rw [if_neg (by simp only [List.append_nil]; omega)]
  refine Ev.step (f := fun _ => some (fin (nrmR ms ts out []))) (fun k => ?_) (Ev.now _)
  simp only [edit_clocks_normal.l0, List.append_nil]
  rw [if_neg (by omega)]
  unfold fin nrmR
  simp only [List.map_nil, List.foldl_nil, List.length_reverse]
  by_cases h : 20 < out.length
  ·rw [if_pos h, if_pos (by omega)]
  ·rw [if_neg h, if_neg (by omega)]
 | cons x t ih =>
  intro pre out he hs hp hw ho
  have hlen : l.length = pre.length + (t.length + 1) := by rw [he]; simp
  have hx : rd_T77 l (pre.length : Int) = x := by rw [he]; exact rd_at pre x t
  have hvx : Vd x := hV x (by rw [he]; simp)
  have hst : 0 ≤ sumD t := sumD_nonneg (fun y hy => hV y (by rw [he]; simp [hy]))
  have hsl : sumD l = sumD pre + x.f0 + sumD t := by rw [he, sumD_app]; simp only [sumD]; omega
  have hs0 : 0 ≤ sumD pre := by rw [← hs]; exact wd_sum hw
  have hd0 := hvx.d0
  have hd1 := hvx.d1
  have hsp : sumD (pre ++ [x]) = sumD pre + x.f0 := by rw [sumD_app]; simp [sumD]
  by_cases hbig : sumD pre + x.f0 > 1099511627776
  ·rw [if_pos (by omega)]
   refine Ev.step (f := fun _ => some ([], 2)) (fun k => ?_) (Ev.now _)
   simp only [edit_clocks_normal.l0]
   rw [if_pos (by omega), if_pos (by omega), if_pos (by omega), hx, low_f hvx]
   simp only [Option.bind_some]
   rw [show (lowV x).f0 = x.f0 from rfl, w64 (by omega) (by omega), if_pos hbig]
  ·have hwl := wd_low hvx
   have hr := ih (pre ++ [x]) (push ms ts out (lowV x)) (by rw [he]; simp) (by rw [push_sum, hs, hsp]; rfl) (by omega) (push_wd hw hwl) (by have := push_len ms ts out (lowV x); simp only [List.length_append, List.length_cons, List.length_nil]; omega)
   have hn : nrmR ms ts out (x :: t) = nrmR ms ts (push ms ts out (lowV x)) t := rfl
   rw [hn]
   refine Ev.step (f := fun k => edit_clocks_normal.l1 k out.reverse (sumD (pre ++ [x])) (out.reverse.length : Int) l (l.length : Int) (pre.length : Int) ms ts (lowV x).f0 (lowV x).f1 (lowV x).f2 (lowV x).f3) (fun k => ?_) ?_
   ·simp only [edit_clocks_normal.l0]
    rw [if_pos (by omega), if_pos (by omega), if_pos (by omega), hx, low_f hvx]
    simp only [Option.bind_some]
    rw [show (lowV x).f0 = x.f0 from rfl, w64 (by omega) (by omega), if_neg hbig, hsp]
   ·refine Ev.step (f := fun k => edit_clocks_normal.l0 k (push ms ts out (lowV x)).reverse (sumD (pre ++ [x])) l (l.length : Int) ((pre ++ [x]).length : Int) ms ts) (fun k => ?_) hr
    simp only [edit_clocks_normal.l1]
    have hpl : wrap64 ((pre.length : Int) + 1) = ((pre ++ [x]).length : Int) := by rw [w64 (by omega) (by omega)]; simp
    rw [hpl]
    cases out with
    | nil =>
     rw [if_neg (show ¬ (([] : List Ed).reverse.length : Int) > 0 by simp), if_pos (show ([] : List Ed).reverse.length < 4398046511104 by simp)]
     rfl
    | cons a o =>
     have hla : (a :: o).reverse.length = o.length + 1 := by simp
     have hra : rd_T77 (a :: o).reverse (o.length : Int) = a := by
      rw [List.reverse_cons]
      have := rd_at o.reverse a []
      rw [List.length_reverse] at this
      exact this
     have hol : o.length + 1 ≤ pre.length := ho
     have hsa := wd_sum (l := o) (fun y hy => hw y (by simp [hy]))
     have hda : a.f0 ≤ 1099511627776 := by simp only [sumD] at hs; omega
     rw [hla, if_pos (by omega), w64 (by omega) (by omega), show ((o.length + 1 : Nat) : Int) - 1 = (o.length : Int) by omega, if_pos (by omega), if_pos (by omega), hra]
     have ha0 := (hw a (by simp)).d0
     have hov : edit_clocks_over.f ms ts a.f0 a.f1 a.f2 a.f3 (lowV x).f0 (lowV x).f1 (lowV x).f2 (lowV x).f3 = some (ovV ms ts a (lowV x)) := over_f hc (hw a (by simp)) hda hwl
     rw [hov]
     simp only [Option.bind_some, push]
     by_cases hb : ovV ms ts a (lowV x) = true
     ·rw [if_pos hb, if_pos hb]
      have hf : (lowV x).f0 = x.f0 := rfl
      simp only [sumD] at hs
      rw [w64 (by rw [hf]; omega) (by rw [hf]; omega)]
      congr 1
      rw [List.reverse_cons, List.reverse_cons, Int.toNat_natCast]
      have : o.length = o.reverse.length := by simp
      rw [this, List.set_append_right _ _ (Nat.le_refl _)]
      simp
     ·rw [if_neg hb, if_neg hb, if_pos (by omega)]
      congr 1
      simp
theorem normal_f {ms ts : Int} (hc : Ck ms ts) (l : List Ed) (hV : ∀ x ∈ l, Vd x) (hl : l.length ≤ 1000000000) : Ev (fun k => edit_clocks_normal.f k ms ts l) (nrmV ms ts l) :=
 normal_l hc l hV hl l [] [] rfl rfl (by simp [sumD]) (by simp) (by simp)
theorem nrmR_len (ms ts : Int) (l : List Ed) : ∀ out, (nrmR ms ts out l).length ≤ out.length + l.length := by
 induction l with
 | nil => intro out; simp [nrmR]
 | cons x t ih =>
  intro out
  have h := ih (push ms ts out (lowV x))
  have hn : nrmR ms ts out (x :: t) = nrmR ms ts (push ms ts out (lowV x)) t := rfl
  have h2 := push_len ms ts out (lowV x)
  rw [hn]
  simp only [List.length_cons]
  omega
def norV (ms ts : Int) (l : List Ed) : List Ed × Int := if chk l ms ts = 0 then (nrm ms ts l, 0) else ([], chk l ms ts)
theorem Normal_f (l : List Ed) (ms ts : Int) : Ev (fun k => edit_Normal.f k l ms ts) (norV ms ts l) := by
 unfold norV
 by_cases h0 : chk l ms ts = 0
 ·obtain ⟨hc, hl, hV, hs⟩ := chk_ok.1 h0
  rw [if_pos h0]
  have hr : nrmV ms ts l = (nrm ms ts l, 0) := by
   have := nrmR_len ms ts l []
   simp only [List.length_nil] at this
   unfold nrmV fin nrm
   rw [if_neg (by omega), if_neg (by omega)]
  have h1 := check_f l ms ts
  rw [h0] at h1
  refine Ev.congr (fun k => rfl) (Ev.bind h1 ?_)
  refine Ev.congr (fun k => if_pos rfl) (Ev.bind (normal_f hc l hV (by omega)) ?_)
  rw [hr]
  exact Ev.now _
 ·rw [if_neg h0]
  refine Ev.congr (fun k => rfl) (Ev.bind (check_f l ms ts) ?_)
  refine Ev.congr (fun k => if_neg h0) (Ev.now _)
end Go.Proofs.Ytpbhepdgamoiaaa.Pf
namespace Go.Proofs.Ytpbhepdgamoiaaa.Pg
open Go.RowKit Go Go.Proofs.YtpbhepdgamoiaaaW.PrintWords Go.Proofs.YtpbhepdgamoiaaaW.PrintLast Go.Proofs.YtpbhepdgamoiaaaW.PrintMore Go.Proofs.Ytpbhepdgamoiaaa.Mn Go.Proofs.Ytpbhepdgamoiaaa.Rf Go.Proofs.Ytpbhepdgamoiaaa.Er Go.Proofs.Ytpbhepdgamoiaaa.Ek Go.Proofs.Ytpbhepdgamoiaaa.E Go.Proofs.Ytpbhepdgamoiaaa.Pe Go.Proofs.Ytpbhepdgamoiaaa.Pf
set_option linter.unusedVariables false
set_option linter.unusedSimpArgs false
instance : DecidableEq Ed := fun x y =>
 decidable_of_iff (x.f0 = y.f0 ∧ x.f1 = y.f1 ∧ x.f2 = y.f2 ∧ x.f3 = y.f3) ⟨fun h => by cases x; cases y; simp_all, fun h => by subst h; simp⟩
def exL : List Ed := [⟨10, 0, 1, 1⟩, ⟨5, 10, 1, 1⟩]
theorem nrm_ex : nrm 10 10 exL = [⟨15, 0, 1, 1⟩] := by decide +kernel
theorem chk_ex : chk exL 10 10 = 0 := by decide +kernel
theorem awake_f : Ev (fun k => dioramalaw10_awake.f k) true := by
 have h := Normal_f exL 10 10
 unfold norV at h
 rw [if_pos chk_ex, nrm_ex] at h
 refine Ev.congr (fun k => rfl) (Ev.bind h ?_)
 refine Ev.congr (f := fun _ => some true) (fun k => ?_) (Ev.now _)
 rfl
theorem many_f (l : List Ed) : dioramalaw10_many.f l = some (decide (60 < l.length)) := by
 unfold dioramalaw10_many.f
 congr 1
 by_cases h : 60 < l.length
 ·rw [decide_eq_true h, decide_eq_true (by omega)]
 ·rw [decide_eq_false h, decide_eq_false (by omega)]
end Go.Proofs.Ytpbhepdgamoiaaa.Pg
namespace Go.Proofs.Ytpbhepdgamoiaaa.Ph
open Go.RowKit Go Go.Proofs.YtpbhepdgamoiaaaW.PrintWords Go.Proofs.YtpbhepdgamoiaaaW.PrintLast Go.Proofs.YtpbhepdgamoiaaaW.PrintMore Go.Proofs.Ytpbhepdgamoiaaa.Mn Go.Proofs.Ytpbhepdgamoiaaa.Rf Go.Proofs.Ytpbhepdgamoiaaa.Er Go.Proofs.Ytpbhepdgamoiaaa.Ek Go.Proofs.Ytpbhepdgamoiaaa.E Go.Proofs.Ytpbhepdgamoiaaa.Pe Go.Proofs.Ytpbhepdgamoiaaa.Pf Go.Proofs.Ytpbhepdgamoiaaa.Pg
set_option linter.unusedVariables false
set_option linter.unusedSimpArgs false
end Go.Proofs.Ytpbhepdgamoiaaa.Ph
namespace Go.Proofs.Ytpbhepdgamoiaaa.Pa
open Go.RowKit Go.Proofs.Ytpbhepdgamoiaaa.P Go.Proofs.Ytpbhepdgamoiaaa.E Go.Proofs.YtpbhepdgamoiaaaW.PrintWords Go.Proofs.YtpbhepdgamoiaaaW.PrintLast Go.Proofs.Ytpbhepdgamoiaaa.Ml Go.Proofs.Ytpbhepdgamoiaaa.Mn
set_option linter.unusedVariables false
set_option linter.unusedSimpArgs false
abbrev Bd : Int := 1000000000
abbrev Nn (l : List Int) : Prop := Cn 1000000000 l
theorem top_cons {x : Int} {l : List Int} (h : Top l) (hx : l = [] → x ≠ 0) : Top (x :: l) := by
 intro hne
 cases l with
 | nil => simpa using hx rfl
 | cons y t =>
  rw [List.getLast_cons (by simp)]
  exact h (by simp)
theorem digit_f (l : List Int) (i : Nat) : dioramaref02_digit.f l (i : Int) = some (l.getD i 0) := by
 unfold dioramaref02_digit.f
 by_cases h : i < l.length
 ·rw [if_pos (by omega), if_pos (by omega), rd_nat]
 ·rw [if_neg (by omega), getD_ge (by omega)]
theorem tmodB {x : Int} (h : 0 ≤ x) : Int.tmod x 1000000000 = x % 1000000000 := Int.tmod_eq_emod_of_nonneg h
theorem tdivB {x : Int} (h : 0 ≤ x) : Int.tdiv x 1000000000 = x / 1000000000 := Int.tdiv_eq_ediv_of_nonneg h
theorem of_l (m : Nat) : ∀ (x : Int) (acc : List Int), 0 ≤ x → x < pw 1000000000 m → x ≤ 9223372036854775807 → acc.length + m ≤ 1000 → ∃ r, Ev (fun k => dioramaref02_Of.l0 k x acc) (acc ++ r) ∧ Nn r ∧ dv 1000000000 r = x ∧ r.length ≤ m := by
 induction m with
 | zero =>
  intro x acc h0 h1 _ _
  have hx : x = 0 := by simp [pw] at h1; omega
  subst hx
  exact ⟨[], Ev.step (f := fun _ => some (acc ++ [])) (fun k => by simp [dioramaref02_Of.l0]) (Ev.now _), Cn.nil _, rfl, Nat.le_refl _⟩
 | succ m ih =>
  intro x acc h0 h1 h2 hl
  by_cases hx : x = 0
  ·subst hx
   exact ⟨[], Ev.step (f := fun _ => some (acc ++ [])) (fun k => by simp [dioramaref02_Of.l0]) (Ev.now _), Cn.nil _, rfl, Nat.zero_le _⟩
  ·have hd : x / 1000000000 < pw 1000000000 m := by
    rw [pw_succ] at h1
    omega
   obtain ⟨r, he, hc, hv, hr⟩ := ih (x / 1000000000) (acc ++ [x % 1000000000]) (by omega) hd (by omega) (by simp; omega)
   refine ⟨x % 1000000000 :: r, ?_, ⟨Dg.cons (by omega) (by omega) hc.dg, top_cons hc.top (fun h => ?_)⟩, ?_, by simp; omega⟩
   ·rw [List.append_assoc, List.singleton_append] at he
    refine Ev.step (fun k => ?_) he
    simp only [dioramaref02_Of.l0]
    rw [if_pos (by omega), if_pos (by omega), tdivB h0, tmodB h0, w64 (by omega) (by omega)]
   ·subst h
    simp only [dv] at hv
    omega
   ·simp only [dv] at hv ⊢
    rw [hv]
    omega
theorem of_f (x : Int) (h0 : 0 ≤ x) (h1 : x ≤ 9223372036854775807) : ∃ r, Ev (fun k => dioramaref02_Of.f k x) r ∧ Nn r ∧ dv 1000000000 r = x ∧ r.length ≤ 3 := by
 obtain ⟨r, he, h⟩ := of_l 3 x [] h0 (by simp [pw]; omega) h1 (by simp)
 exact ⟨r, he, h⟩
theorem trimmed_l (l : List Int) (hd : Dg 1000000000 l) (hl : l.length ≤ 1000000) : ∀ n : Nat, n ≤ l.length → dv 1000000000 (l.take n) = dv 1000000000 l → ∃ r, Ev (fun k => dioramaref02_trimmed.l0 k l (n : Int)) r ∧ Nn r ∧ dv 1000000000 r = dv 1000000000 l ∧ r.length ≤ n := by
 intro n
 induction n with
 | zero =>
  intro _ hv
  refine ⟨[], Ev.step (f := fun _ => some []) (fun k => ?_) (Ev.now _), Cn.nil _, by rw [← hv]; rfl, Nat.le_refl _⟩
  simp [dioramaref02_trimmed.l0]
 | succ n ih =>
  intro hn hv
  have hw : wrap64 (((n + 1 : Nat) : Int) - 1) = (n : Int) := by rw [w64 (by omega) (by omega)]; omega
  by_cases hz : l.getD n 0 = 0
  ·obtain ⟨r, he, hc, hr, hlr⟩ := ih (by omega) (by rw [← hv] ; rw [dv_take_succ', hz]; omega)
   refine ⟨r, Ev.step (fun k => ?_) he, hc, hr, by omega⟩
   simp only [dioramaref02_trimmed.l0, hw, rd_nat]
   rw [if_pos (by omega), if_pos (by omega), if_pos (by omega), if_pos hz]
  ·refine ⟨l.take (n + 1), Ev.step (f := fun _ => some (l.take (n + 1))) (fun k => ?_) (Ev.now _), ⟨hd.take _, top_of_getD ?_⟩, hv, by simp; omega⟩
   ·simp only [dioramaref02_trimmed.l0, hw, rd_nat]
    rw [if_pos (by omega), if_pos (by omega), if_pos (by omega), if_neg hz, if_pos (by omega), if_pos (by omega), Int.toNat_natCast]
   ·rw [List.length_take, Nat.min_eq_left (by omega)]
    simp only [Nat.add_sub_cancel]
    rw [List.getD_eq_getElem?_getD, List.getElem?_take_of_lt (by omega), ← List.getD_eq_getElem?_getD]
    exact hz
theorem trimmed_f (l : List Int) (hd : Dg 1000000000 l) (hl : l.length ≤ 1000000) : ∃ r, Ev (fun k => dioramaref02_trimmed.f k l) r ∧ Nn r ∧ dv 1000000000 r = dv 1000000000 l ∧ r.length ≤ l.length :=
 trimmed_l l hd hl l.length (Nat.le_refl _) (by rw [List.take_length])
theorem cmp1 {x y : Int} (h : x < y) : Nd.cmpI x y = -1 := by unfold Nd.cmpI; rw [if_pos h]
theorem cmp2 {x y : Int} (h : y < x) : Nd.cmpI x y = 1 := by unfold Nd.cmpI; rw [if_neg (by omega), if_pos h]
theorem cmp0 {x y : Int} (h : x = y) : Nd.cmpI x y = 0 := by unfold Nd.cmpI; rw [if_neg (by omega), if_neg (by omega)]
theorem compare_l (a b : List Int) (ha : Dg 1000000000 a) (hb : Dg 1000000000 b) (hl : a.length = b.length) (hn : a.length ≤ 1000000) : ∀ i : Nat, i ≤ a.length → dv 1000000000 (a.drop i) = dv 1000000000 (b.drop i) →
  Ev (fun k => dioramaref02_Compare.l0 k a b ((i : Int) - 1)) (Nd.cmpI (dv 1000000000 a) (dv 1000000000 b)) := by
 intro i
 induction i with
 | zero =>
  intro _ h
  refine Ev.step (f := fun _ => some 0) (fun k => ?_) (by rw [cmp0 (by simpa using h)]; exact Ev.now _)
  simp [dioramaref02_Compare.l0]
 | succ i ih =>
  intro hi h
  have e : (((i + 1 : Nat) : Int) - 1) = (i : Int) := by omega
  have hw : wrap64 ((i : Int) - 1) = (i : Int) - 1 := w64 (by omega) (by omega)
  rw [e]
  rcases Int.lt_trichotomy (a.getD i 0) (b.getD i 0) with h1 | h1 | h1
  ·rw [cmp1 (dv_less (by decide) ha hb hl i (by omega) h h1)]
   refine Ev.step (f := fun _ => some (-1)) (fun k => ?_) (Ev.now _)
   simp only [dioramaref02_Compare.l0, rd_nat]
   rw [if_pos (by omega), if_pos (by omega), if_pos (by omega), if_pos (by omega), if_pos h1]
  ·refine Ev.step (fun k => ?_) (ih (by omega) (by rw [dv_drop _ a i (by omega), dv_drop _ b i (by omega), h1, h]))
   simp only [dioramaref02_Compare.l0, rd_nat, hw]
   rw [if_pos (by omega), if_pos (by omega), if_pos (by omega), if_pos (by omega), if_neg (by omega), if_neg (by omega)]
  ·rw [cmp2 (dv_less (by decide) hb ha hl.symm i (by omega) h.symm h1)]
   refine Ev.step (f := fun _ => some 1) (fun k => ?_) (Ev.now _)
   simp only [dioramaref02_Compare.l0, rd_nat]
   rw [if_pos (by omega), if_pos (by omega), if_pos (by omega), if_pos (by omega), if_neg (by omega), if_pos h1]
theorem compare_f (a b : List Int) (ha : Nn a) (hb : Nn b) (hn : a.length ≤ 1000000) (hm : b.length ≤ 1000000) : Ev (fun k => dioramaref02_Compare.f k a b) (Nd.cmpI (dv 1000000000 a) (dv 1000000000 b)) := by
 by_cases hl : a.length = b.length
 ·have h := compare_l a b ha.dg hb.dg hl hn a.length (Nat.le_refl _) (by rw [List.drop_of_length_le (Nat.le_refl _), List.drop_of_length_le (by omega)])
  refine Ev.congr (fun k => ?_) h
  simp only [dioramaref02_Compare.f]
  rw [if_pos (by omega), w64 (by omega) (by omega)]
 ·by_cases h1 : a.length < b.length
  ·rw [cmp1 (dv_len (by decide) ha.dg hb h1)]
   refine Ev.congr (f := fun _ => some (-1)) (fun k => ?_) (Ev.now _)
   simp only [dioramaref02_Compare.f]
   rw [if_neg (by omega), if_pos (by omega)]
  ·rw [cmp2 (dv_len (by decide) hb.dg ha (by omega))]
   refine Ev.congr (f := fun _ => some 1) (fun k => ?_) (Ev.now _)
   simp only [dioramaref02_Compare.f]
   rw [if_neg (by omega), if_neg (by omega)]
end Go.Proofs.Ytpbhepdgamoiaaa.Pa
namespace Go.Proofs.Ytpbhepdgamoiaaa.Pb
open Go.RowKit Go.Proofs.Ytpbhepdgamoiaaa.P Go.Proofs.Ytpbhepdgamoiaaa.E Go.Proofs.YtpbhepdgamoiaaaW.PrintWords Go.Proofs.YtpbhepdgamoiaaaW.PrintLast Go.Proofs.Ytpbhepdgamoiaaa.Ml Go.Proofs.Ytpbhepdgamoiaaa.Mn Go.Proofs.Ytpbhepdgamoiaaa.Pa
set_option linter.unusedVariables false
set_option linter.unusedSimpArgs false
theorem nv_take_all {l : List Int} {n : Nat} (h : l.length ≤ n) : dv 1000000000 (l.take n) = dv 1000000000 l := by rw [List.take_of_length_le h]
theorem dg_snoc {l : List Int} {x : Int} (h : Dg 1000000000 l) (h0 : 0 ≤ x) (h1 : x < 1000000000) : Dg 1000000000 (l ++ [x]) := h.append (Dg.cons h0 h1 (Dg.nil _))
theorem w1 {i : Nat} (h : i ≤ 10000000) : wrap64 ((i : Int) + 1) = ((i + 1 : Nat) : Int) := by rw [w64 (by omega) (by omega)]; omega
theorem minus_l (a b : List Int) (ha : Dg 1000000000 a) (hb : Dg 1000000000 b) (hn : a.length ≤ 1000000) (hlb : b.length ≤ a.length) (hle : dv 1000000000 b ≤ dv 1000000000 a) :
  ∀ (d i : Nat) (out : List Int) (c : Int), i + d = a.length → out.length = i → Dg 1000000000 out → 0 ≤ c → c ≤ 1 → dv 1000000000 out = dv 1000000000 (a.take i) - dv 1000000000 (b.take i) + c * pw 1000000000 i →
  ∃ r, Ev (fun k => dioramaref02_Minus.l0 k a b out c (i : Int)) r ∧ Nn r ∧ dv 1000000000 r = dv 1000000000 a - dv 1000000000 b ∧ r.length ≤ a.length := by
 intro d
 induction d with
 | zero =>
  intro i out c hi hl hd h0 h1 hv
  obtain ⟨r, he, hc, hr, hlr⟩ := trimmed_f out hd (by omega)
  have hlt := dv_lt (by decide) hd
  rw [hl] at hlt
  rw [nv_take_all (by omega), nv_take_all (by omega)] at hv
  have c0 : c = 0 := by
   rcases (show c = 0 ∨ c = 1 by omega) with h | h
   ·exact h
   ·rw [h] at hv
    omega
  refine ⟨r, Ev.step (f := fun k => (dioramaref02_trimmed.f k out).bind fun t => some t) (fun k => ?_) (Ev.bind he (Ev.now _)), hc, by rw [hr, hv, c0]; omega, by omega⟩
  simp only [dioramaref02_Minus.l0]
  rw [if_neg (by omega)]
 | succ d ih =>
  intro i out c hi hl hd h0 h1 hv
  have hx := ha.getD (by decide) i
  have hy := hb.getD (by decide) i
  have e1 := dv_take_succ' 1000000000 a i
  have e2 := dv_take_succ' 1000000000 b i
  have e3 := pw_succ 1000000000 i
  generalize hxv : a.getD i 0 = x at *
  generalize hyv : b.getD i 0 = y at *
  have hw : wrap64 (wrap64 (x - y) - c) = x - y - c := by rw [w64 (x := x - y) (by omega) (by omega), w64 (by omega) (by omega)]
  have hw2 : wrap64 (x - y - c + 1000000000) = x - y - c + 1000000000 := w64 (by omega) (by omega)
  by_cases hneg : x - y - c < 0
  ·obtain ⟨r, he, h⟩ := ih (i + 1) (out ++ [x - y - c + 1000000000]) 1 (by omega) (by simp [hl]) (dg_snoc hd (by omega) (by omega)) (by decide) (by decide) (by
    rw [dv_snoc, hl, hv, e1, e2, e3]
    grind)
   refine ⟨r, Ev.step (fun k => ?_) he, h⟩
   simp only [dioramaref02_Minus.l0]
   rw [if_pos (by omega), digit_f, digit_f, hxv, hyv]
   simp only [Option.bind_some, hw, hw2]
   rw [if_pos hneg, if_pos (by omega), w1 (by omega)]
  ·obtain ⟨r, he, h⟩ := ih (i + 1) (out ++ [x - y - c]) 0 (by omega) (by simp [hl]) (dg_snoc hd (by omega) (by omega)) (by decide) (by decide) (by
    rw [dv_snoc, hl, hv, e1, e2]
    grind)
   refine ⟨r, Ev.step (fun k => ?_) he, h⟩
   simp only [dioramaref02_Minus.l0]
   rw [if_pos (by omega), digit_f, digit_f, hxv, hyv]
   simp only [Option.bind_some, hw, hw2]
   rw [if_neg hneg, if_pos (by omega), w1 (by omega)]
theorem len_le {a b : List Int} (ha : Nn a) (hb : Nn b) (h : dv 1000000000 b ≤ dv 1000000000 a) : b.length ≤ a.length := by
 refine Nat.le_of_not_lt fun hl => ?_
 have := dv_len (by decide) ha.dg hb hl
 omega
theorem minus_f (a b : List Int) (ha : Nn a) (hb : Nn b) (hn : a.length ≤ 1000000) (hle : dv 1000000000 b ≤ dv 1000000000 a) : ∃ r, Ev (fun k => dioramaref02_Minus.f k a b) r ∧ Nn r ∧ dv 1000000000 r = dv 1000000000 a - dv 1000000000 b ∧ r.length ≤ a.length :=
 minus_l a b ha.dg hb.dg hn (len_le ha hb hle) hle a.length 0 [] 0 (by omega) rfl (Dg.nil _) (by decide) (by decide) (by simp [dv])
theorem mulB {c x y o : Int} (hc0 : 0 ≤ c) (hc1 : c < 1000000000) (hx0 : 0 ≤ x) (hx1 : x < 1000000000) (hy0 : 0 ≤ y) (hy1 : y < 1000000000) (ho0 : 0 ≤ o) (ho1 : o < 1000000000) :
  wrap64 (wrap64 (o + wrap64 (x * y)) + c) = o + x * y + c ∧ 0 ≤ o + x * y + c ∧ wrap64 (Int.tdiv (o + x * y + c) 1000000000) = (o + x * y + c) / 1000000000 ∧ (o + x * y + c) / 1000000000 < 1000000000 := by
 obtain ⟨h1, h2⟩ := mul_lt_sq hx0 hx1 hy0 hy1
 have h2' : x * y ≤ 999999998000000001 := h2
 rw [w64 (x := x * y) (by omega) (by omega), w64 (x := o + x * y) (by omega) (by omega), w64 (x := o + x * y + c) (by omega) (by omega), tdivB (by omega), w64 (by omega) (by omega)]
 refine ⟨rfl, by omega, rfl, by omega⟩
set_option maxHeartbeats 1000000 in
theorem times_l1 (a b : List Int) (i : Nat) (x : Int) (hx : a.getD i 0 = x) (hi : i < a.length) (hb : Dg 1000000000 b) (hx0 : 0 ≤ x) (hx1 : x < 1000000000) (hn : a.length + b.length ≤ 1000000) :
  ∀ (d j : Nat) (out : List Int) (c : Int), j + d = b.length → Dg 1000000000 out → out.length = a.length + b.length → 0 ≤ c → c < 1000000000 → (∀ m, i + b.length ≤ m → out.getD m 0 = 0) →
  ∃ out', (∀ r, Ev (fun k => dioramaref02_Times.l0 k a b out' ((i + 1 : Nat) : Int)) r → Ev (fun k => dioramaref02_Times.l1 k a b out (i : Int) c (j : Int)) r) ∧ out'.length = a.length + b.length ∧ Dg 1000000000 out' ∧
   dv 1000000000 out' = dv 1000000000 out + c * pw 1000000000 (i + j) + x * dv 1000000000 (b.drop j) * pw 1000000000 (i + j) ∧ ∀ m, i + 1 + b.length ≤ m → out'.getD m 0 = 0 := by
 intro d
 induction d with
 | zero =>
  intro j out c hj hd hl h0 h1 hz
  obtain rfl : j = b.length := by omega
  have hend : ∀ (out : List Int) (j : Nat) r, b.length ≤ j → Ev (fun k => dioramaref02_Times.l0 k a b out ((i + 1 : Nat) : Int)) r → Ev (fun k => dioramaref02_Times.l1 k a b out (i : Int) 0 (j : Int)) r := by
   intro out j r hj he
   refine Ev.step (fun k => ?_) he
   simp only [dioramaref02_Times.l1]
   rw [if_neg (by omega), if_neg (by omega), w1 (by omega)]
  rw [List.drop_of_length_le (Nat.le_refl _)]
  by_cases hc : c = 0
  ·subst hc
   exact ⟨out, fun r he => hend out _ r (Nat.le_refl _) he, hl, hd, by simp [dv], fun m hm => hz m (by omega)⟩
  ·refine ⟨out.set (i + b.length) c, fun r he => ?_, by simp [hl], hd.set _ h0 h1, ?_, fun m hm => by rw [getD_set (by omega)]; exact hz m (by omega)⟩
   ·have h2 := hend (out.set (i + b.length) c) (b.length + 1) r (by omega) he
    refine Ev.step (fun k => ?_) h2
    have hw : wrap64 ((i : Int) + (b.length : Int)) = ((i + b.length : Nat) : Int) := by rw [w64 (by omega) (by omega)]; omega
    obtain ⟨g1, g2, g3, g4⟩ := mulB (o := 0) (y := 0) h0 h1 hx0 hx1 (by decide) (by decide) (by decide) (by decide)
    have e0 : (0 : Int) + x * 0 + c = c := by omega
    rw [e0] at g1 g3
    simp only [dioramaref02_Times.l1, hw, rd_nat, hx, Int.toNat_natCast]
    rw [if_neg (by omega), if_pos (by omega), if_pos (by omega), if_pos (by omega), if_pos (by omega), if_pos (by omega), digit_f, getD_ge (Nat.le_refl _), hz _ (Nat.le_refl _)]
    simp only [Option.bind_some, g1, g3]
    rw [tmodB h0, Int.emod_eq_of_lt h0 h1, Int.ediv_eq_zero_of_lt h0 h1, w1 (by omega)]
   ·rw [dv_set _ _ _ _ (by omega), hz _ (Nat.le_refl _)]
    simp [dv]
 | succ d ih =>
  intro j out c hj hd hl h0 h1 hz
  have hy := hb.getD (by decide) j
  have ho := hd.getD (by decide) (i + j)
  have c1 : (j : Int) < (b.length : Int) := by omega
  have c2 : 0 ≤ ((i + j : Nat) : Int) := by omega
  have c3 : ((i + j : Nat) : Int) < (out.length : Int) := by omega
  have c4 : 0 ≤ (i : Int) := by omega
  have c5 : (i : Int) < (a.length : Int) := by omega
  have c6 : i + j < out.length := by omega
  have c7 : j < b.length := by omega
  have hw : wrap64 ((i : Int) + (j : Int)) = ((i + j : Nat) : Int) := by rw [w64 (by omega) (by omega)]; omega
  have hw1 := w1 (i := j) (by omega)
  have HW := Aside0.mk (And.intro hw hw1)
  clear hw hw1
  generalize hyv : b.getD j 0 = y at *
  generalize hov : out.getD (i + j) 0 = o at *
  obtain ⟨g1, g2, g3, g4⟩ := mulB h0 h1 hx0 hx1 hy.1 hy.2 ho.1 ho.2
  have gm := Int.mul_ediv_add_emod (o + x * y + c) 1000000000
  have gr0 := Int.emod_nonneg (o + x * y + c) (show (1000000000 : Int) ≠ 0 by decide)
  have gr1 := Int.emod_lt_of_pos (o + x * y + c) (show (0 : Int) < 1000000000 by decide)
  have gq0 : 0 ≤ (o + x * y + c) / 1000000000 := Int.ediv_nonneg g2 (by decide)
  have gt := tmodB g2
  generalize (o + x * y + c) / 1000000000 = q at *
  generalize (o + x * y + c) % 1000000000 = r' at *
  have hs : r' + 1000000000 * q = c + (x * y + o) := by clear g1 g3 gt; omega
  have HG := Aside0.mk (And.intro g1 (And.intro g3 gt))
  clear g1 g3 gt gm
  obtain ⟨out', k1, k2, k3, k4, k5⟩ := ih (j + 1) (out.set (i + j) r') q (by omega) (hd.set _ gr0 gr1) (by simp [hl]) gq0 g4 (fun m hm => by rw [getD_set (by omega)]; exact hz m hm)
  refine ⟨out', fun r he => ?_, k2, k3, ?_, k5⟩
  ·refine Ev.step (fun k => ?_) (k1 r he)
   simp only [dioramaref02_Times.l1, HW.out.1, rd_nat, hx, Int.toNat_natCast]
   rw [if_pos c1, if_pos c2, if_pos c3, if_pos c4, if_pos c5, digit_f, hyv, hov]
   simp only [Option.bind_some, HG.out.1, HG.out.2.1, HG.out.2.2, HW.out.2]
  ·rw [k4, dv_set _ _ _ _ c6, hov, dv_drop 1000000000 b j c7, hyv, ← Nat.add_assoc, pw_succ]
   exact (mul_step hs).symm
theorem times_l0 (a b : List Int) (ha : Dg 1000000000 a) (hb : Dg 1000000000 b) (hn : a.length + b.length ≤ 1000000) :
  ∀ (d i : Nat) (out : List Int), i + d = a.length → Dg 1000000000 out → out.length = a.length + b.length → dv 1000000000 out = dv 1000000000 (a.take i) * dv 1000000000 b → (∀ m, i + b.length ≤ m → out.getD m 0 = 0) →
  ∃ r, Ev (fun k => dioramaref02_Times.l0 k a b out (i : Int)) r ∧ Nn r ∧ dv 1000000000 r = dv 1000000000 a * dv 1000000000 b ∧ r.length ≤ a.length + b.length := by
 intro d
 induction d with
 | zero =>
  intro i out hi hd hl hv hz
  obtain ⟨r, he, hc, hr, hlr⟩ := trimmed_f out hd (by omega)
  refine ⟨r, Ev.step (f := fun k => (dioramaref02_trimmed.f k out).bind fun t => some t) (fun k => ?_) (Ev.bind he (Ev.now _)), hc, by rw [hr, hv, nv_take_all (by omega)], by omega⟩
  simp only [dioramaref02_Times.l0]
  rw [if_neg (by omega)]
 | succ d ih =>
  intro i out hi hd hl hv hz
  have hx := ha.getD (by decide) i
  obtain ⟨out', k1, k2, k3, k4, k5⟩ := times_l1 a b i (a.getD i 0) rfl (by omega) hb hx.1 hx.2 hn b.length 0 out 0 (by omega) hd hl (by decide) (by decide) hz
  obtain ⟨r, he, h⟩ := ih (i + 1) out' (by omega) k3 k2 (by
   rw [k4, hv, dv_take_succ' _ a i]
   simp only [List.drop_zero, Nat.add_zero]
   grind) (fun m hm => k5 m (by omega))
  refine ⟨r, Ev.step (fun k => ?_) (k1 r he), h⟩
  simp only [dioramaref02_Times.l0]
  rw [if_pos (by omega)]
  rfl
theorem times_f (a b : List Int) (ha : Nn a) (hb : Nn b) (hn : a.length + b.length ≤ 1000000) : ∃ r, Ev (fun k => dioramaref02_Times.f k a b) r ∧ Nn r ∧ dv 1000000000 r = dv 1000000000 a * dv 1000000000 b ∧ r.length ≤ a.length + b.length := by
 have e1 : wrap64 ((a.length : Int) + (b.length : Int)) = ((a.length + b.length : Nat) : Int) := by rw [w64 (by omega) (by omega)]; omega
 obtain ⟨r, he, h⟩ := times_l0 a b ha.dg hb.dg hn a.length 0 (List.replicate (a.length + b.length) 0) (by omega) (Dg.replicate (by decide) _) (by simp) (by rw [dv_replicate]; simp [dv]) (fun m _ => by
  rw [List.getD_eq_getElem?_getD, List.getElem?_replicate]
  split <;> rfl)
 refine ⟨r, Ev.congr (fun k => ?_) he, h⟩
 simp only [dioramaref02_Times.f, e1, Int.toNat_natCast]
 rw [if_pos (by omega), if_pos (by omega)]
 rfl
theorem drop_le (l : List Int) (hd : Dg 1000000000 l) (i : Nat) : dv 1000000000 (l.drop i) ≤ dv 1000000000 l ∧ 0 ≤ dv 1000000000 (l.drop i) := by
 have h0 := dv_nonneg (by decide) (hd.drop i)
 refine ⟨?_, h0⟩
 by_cases hi : i ≤ l.length
 ·have h1 := dv_split 1000000000 l i hi
  have h2 := dv_nonneg (by decide) (hd.take i)
  have h3 : 0 < pw 1000000000 i := pow_pos (by decide) i
  have h4 : 1 * dv 1000000000 (l.drop i) ≤ pw 1000000000 i * dv 1000000000 (l.drop i) := Int.mul_le_mul_of_nonneg_right (by omega) h0
  omega
 ·rw [List.drop_of_length_le (by omega)]
  exact dv_nonneg (by decide) hd
theorem small_l (l : List Int) (hd : Dg 1000000000 l) (hn : l.length ≤ 1000000) (hs : dv 1000000000 l ≤ 9223372036854775807) : ∀ i : Nat, i ≤ l.length → Ev (fun k => dioramaref02_Small.l0 k l (dv 1000000000 (l.drop i)) ((i : Int) - 1)) (dv 1000000000 l, true) := by
 intro i
 induction i with
 | zero =>
  intro _
  refine Ev.step (f := fun _ => some (dv 1000000000 l, true)) (fun k => ?_) (Ev.now _)
  simp [dioramaref02_Small.l0]
 | succ i ih =>
  intro hi
  have e : (((i + 1 : Nat) : Int) - 1) = (i : Int) := by omega
  have h1 := dv_drop 1000000000 l i (by omega)
  have h2 := drop_le l hd i
  have h3 := drop_le l hd (i + 1)
  have hx := hd.getD (by decide) i
  rw [e]
  refine Ev.step (fun k => ?_) (ih (by omega))
  simp only [dioramaref02_Small.l0, rd_nat]
  rw [if_pos (by omega), if_pos (by omega), if_pos (by omega), w64 (x := _ * 1000000000) (by omega) (by omega), w64 (x := _ + _) (by omega) (by omega), w64 (x := (i : Int) - 1) (by omega) (by omega), h1]
  congr 1
  omega
theorem small_f (l : List Int) (most : Int) (hl : Nn l) (hn : l.length ≤ 1000000) (h0 : 0 ≤ most) (h1 : most ≤ 9223372036854775807) : Ev (fun k => dioramaref02_Small.f k l most) (if most < dv 1000000000 l then (0, false) else (dv 1000000000 l, true)) := by
 obtain ⟨r, he, hr, hv, hlr⟩ := of_f most h0 h1
 have hc := compare_f l r hl hr hn (by omega)
 rw [hv] at hc
 by_cases hb : most < dv 1000000000 l
 ·rw [if_pos hb]
  rw [cmp2 hb] at hc
  exact Ev.bind he (Ev.bind hc (Ev.congr (f := fun _ => some (0, false)) (fun k => by simp) (Ev.now _)))
 ·rw [if_neg hb]
  have hle : ¬ (Nd.cmpI (dv 1000000000 l) most > 0) := by
   unfold Nd.cmpI
   by_cases h2 : dv 1000000000 l < most
   ·rw [if_pos h2]; decide
   ·rw [if_neg h2, if_neg hb]; decide
  have h2 := small_l l hl.dg hn (by omega) l.length (Nat.le_refl _)
  rw [List.drop_of_length_le (Nat.le_refl _)] at h2
  refine Ev.bind he (Ev.bind hc (Ev.congr (fun k => ?_) h2))
  rw [if_neg hle, w64 (by omega) (by omega)]
  rfl
end Go.Proofs.Ytpbhepdgamoiaaa.Pb
namespace Go.Proofs.Ytpbhepdgamoiaaa.Pc
open Go.RowKit Go.Proofs.Ytpbhepdgamoiaaa.P Go.Proofs.Ytpbhepdgamoiaaa.E Go.Proofs.YtpbhepdgamoiaaaW.PrintWords Go.Proofs.YtpbhepdgamoiaaaW.PrintLast Go.Proofs.Ytpbhepdgamoiaaa.Ml Go.Proofs.Ytpbhepdgamoiaaa.Mn Go.Proofs.Ytpbhepdgamoiaaa.Pa Go.Proofs.Ytpbhepdgamoiaaa.Pb
set_option linter.unusedVariables false
set_option linter.unusedSimpArgs false
theorem drop_set' {l : List Int} {i : Nat} {v : Int} : (l.set i v).drop (i + 1) = l.drop (i + 1) := by
 rw [List.drop_set]
 simp
theorem over_l1 (a b q rest : List Int) (i : Nat) (hb : Nn b) (hr : Nn rest) (hi : i < q.length) (hq : q.length ≤ 1000000) (hlb : b.length ≤ 100000) (hlr : rest.length ≤ 200000) (hbp : 0 < dv 1000000000 b) :
  ∀ (m : Nat) (low high : Int), high - low ≤ m → 0 ≤ low → low ≤ high → high ≤ 999999999 → low * dv 1000000000 b ≤ dv 1000000000 rest → dv 1000000000 rest < (high + 1) * dv 1000000000 b →
  ∃ t rest', 0 ≤ t ∧ t < 1000000000 ∧ Nn rest' ∧ dv 1000000000 rest = t * dv 1000000000 b + dv 1000000000 rest' ∧ dv 1000000000 rest' < dv 1000000000 b ∧ (∀ r, Ev (fun k => dioramaref02_Over.l0 k a b (q.set i t) rest' ((i : Int) - 1)) r → Ev (fun k => dioramaref02_Over.l1 k a b q rest (i : Int) low high) r) := by
 intro m
 induction m with
 | zero =>
  intro low high hm h0 h1 h2 hlo hhi
  obtain rfl : low = high := by omega
  obtain ⟨o, eo, ho, vo, lo⟩ := of_f low h0 (by omega)
  obtain ⟨p, ep, hp, vp, lp⟩ := times_f b o hb ho (by omega)
  have e1 : dv 1000000000 p = low * dv 1000000000 b := by rw [vp, vo, Int.mul_comm]
  obtain ⟨s, es, hs, vs, ls⟩ := minus_f rest p hr hp (by omega) (by omega)
  have e2 : (low + 1) * dv 1000000000 b = low * dv 1000000000 b + dv 1000000000 b := by rw [Int.add_mul]; omega
  refine ⟨low, s, h0, by omega, hs, by omega, by omega, fun r he => ?_⟩
  refine Ev.step (f := fun k => (dioramaref02_Of.f k low).bind fun t197 => ((dioramaref02_Times.f k b t197).bind fun t200 => ((dioramaref02_Minus.f k rest t200).bind fun t203 => (dioramaref02_Over.l0 k a b (q.set i low) t203 ((i : Int) - 1))))) (fun k => ?_) (Ev.bind eo (Ev.bind ep (Ev.bind es he)))
  simp only [dioramaref02_Over.l1, Int.toNat_natCast]
  rw [if_neg (by omega), if_pos (by omega), if_pos (by omega), w64 (by omega) (by omega)]
 | succ m ih =>
  intro low high hm h0 h1 h2 hlo hhi
  by_cases hlt : low < high
  ·have hmid : wrap64 (Int.tdiv (wrap64 (wrap64 (low + high) + 1)) 2) = (low + high + 1) / 2 := by
    rw [w64 (x := low + high) (by omega) (by omega), w64 (x := low + high + 1) (by omega) (by omega), Int.tdiv_eq_ediv_of_nonneg (by omega), w64 (by omega) (by omega)]
   have hm1 : low < (low + high + 1) / 2 := by omega
   have hm2 : (low + high + 1) / 2 ≤ high := by omega
   generalize (low + high + 1) / 2 = mid at *
   obtain ⟨o, eo, ho, vo, lo⟩ := of_f mid (by omega) (by omega)
   obtain ⟨p, ep, hp, vp, lp⟩ := times_f b o hb ho (by omega)
   have e1 : dv 1000000000 p = mid * dv 1000000000 b := by rw [vp, vo, Int.mul_comm]
   have ec := compare_f p rest hp hr (by omega) (by omega)
   rw [e1] at ec
   by_cases hc : mid * dv 1000000000 b ≤ dv 1000000000 rest
   ·obtain ⟨t, rest', g1, g2, g3, g4, g5, g6⟩ := ih mid high (by omega) (by omega) hm2 h2 hc hhi
    have hle : Nd.cmpI (mid * dv 1000000000 b) (dv 1000000000 rest) ≤ 0 := by
     unfold Nd.cmpI
     by_cases h2 : mid * dv 1000000000 b < dv 1000000000 rest
     ·rw [if_pos h2]; decide
     ·rw [if_neg h2, if_neg (by omega)]; decide
    refine ⟨t, rest', g1, g2, g3, g4, g5, fun r he => ?_⟩
    refine Ev.step (f := fun k => (dioramaref02_Of.f k mid).bind fun t206 => ((dioramaref02_Times.f k b t206).bind fun t209 => ((dioramaref02_Compare.f k t209 rest).bind fun t212 => (if t212 ≤ 0 then (dioramaref02_Over.l1 k a b q rest (i : Int) mid high) else (dioramaref02_Over.l1 k a b q rest (i : Int) low (wrap64 (mid - 1))))))) (fun k => ?_) (Ev.bind eo (Ev.bind ep (Ev.bind ec (Ev.congr (fun k => ?_) (g6 r he)))))
    ·simp only [dioramaref02_Over.l1, hmid]
     rw [if_pos hlt]
    ·rw [if_pos hle]
   ·have hw : wrap64 (mid - 1) = mid - 1 := w64 (by omega) (by omega)
    obtain ⟨t, rest', g1, g2, g3, g4, g5, g6⟩ := ih low (mid - 1) (by omega) h0 (by omega) (by omega) hlo (by rw [Int.sub_add_cancel]; omega)
    have hle : ¬ Nd.cmpI (mid * dv 1000000000 b) (dv 1000000000 rest) ≤ 0 := by
     rw [cmp2 (by omega)]; decide
    refine ⟨t, rest', g1, g2, g3, g4, g5, fun r he => ?_⟩
    refine Ev.step (f := fun k => (dioramaref02_Of.f k mid).bind fun t206 => ((dioramaref02_Times.f k b t206).bind fun t209 => ((dioramaref02_Compare.f k t209 rest).bind fun t212 => (if t212 ≤ 0 then (dioramaref02_Over.l1 k a b q rest (i : Int) mid high) else (dioramaref02_Over.l1 k a b q rest (i : Int) low (wrap64 (mid - 1))))))) (fun k => ?_) (Ev.bind eo (Ev.bind ep (Ev.bind ec (Ev.congr (fun k => ?_) (g6 r he)))))
    ·simp only [dioramaref02_Over.l1, hmid]
     rw [if_pos hlt]
    ·rw [if_neg hle, hw]
  ·exact ih low high (by omega) h0 h1 h2 hlo hhi
theorem over_l0 (a b : List Int) (ha : Dg 1000000000 a) (hb : Nn b) (hla : a.length ≤ 100000) (hlb : b.length ≤ 100000) (hbp : 0 < dv 1000000000 b) :
  ∀ (i : Nat) (q rest : List Int), i ≤ a.length → q.length = a.length → Dg 1000000000 q → Nn rest → dv 1000000000 rest < dv 1000000000 b → dv 1000000000 (a.drop i) = dv 1000000000 (q.drop i) * dv 1000000000 b + dv 1000000000 rest →
  ∃ r1 r2, Ev (fun k => dioramaref02_Over.l0 k a b q rest ((i : Int) - 1)) (r1, r2) ∧ Nn r1 ∧ Nn r2 ∧ dv 1000000000 a = dv 1000000000 r1 * dv 1000000000 b + dv 1000000000 r2 ∧ dv 1000000000 r2 < dv 1000000000 b ∧ r1.length ≤ a.length ∧ r2.length ≤ b.length := by
 have hlen : ∀ {l : List Int}, Nn l → dv 1000000000 l < dv 1000000000 b → l.length ≤ b.length := by
  intro l hl h
  refine Nat.le_of_not_lt fun h2 => ?_
  have := dv_len (by decide) hb.dg hl h2
  omega
 intro i
 induction i with
 | zero =>
  intro q rest _ hq dq hr hlt hv
  obtain ⟨r, he, hc, hvr, hlr⟩ := trimmed_f q dq (by omega)
  rw [List.drop_zero, List.drop_zero] at hv
  refine ⟨r, rest, Ev.step (f := fun k => (dioramaref02_trimmed.f k q).bind fun t => some (t, rest)) (fun k => ?_) (Ev.bind he (Ev.now _)), hc, hr, by rw [hvr]; exact hv, hlt, by omega, hlen hr hlt⟩
  simp [dioramaref02_Over.l0]
 | succ i ih =>
  intro q rest hi hq dq hr hlt hv
  have e : (((i + 1 : Nat) : Int) - 1) = (i : Int) := by omega
  have hx := ha.getD (by decide) i
  have hlr := hlen hr hlt
  obtain ⟨u, eu, hu, vu, lu⟩ := trimmed_f (a.getD i 0 :: rest) (Dg.cons hx.1 hx.2 hr.dg) (by simp; omega)
  have vu2 : dv 1000000000 u = a.getD i 0 + 1000000000 * dv 1000000000 rest := vu
  have r0 := dv_nonneg (by decide) hr.dg
  simp only [List.length_cons] at lu
  obtain ⟨t, rest', g1, g2, g3, g4, g5, g6⟩ := over_l1 a b q u i hb hu (by omega) (by omega) hlb (by omega) hbp 999999999 0 999999999 (by decide) (by decide) (by decide) (by decide) (by have := dv_nonneg (by decide) hu.dg ; omega) (by
   have : (1000000000 : Int) * (dv 1000000000 rest + 1) ≤ 1000000000 * dv 1000000000 b := Int.mul_le_mul_of_nonneg_left (by omega) (by decide)
   rw [vu2]
   omega)
  obtain ⟨r1, r2, he, h⟩ := ih (q.set i t) rest' (by omega) (by simpa using hq) (dq.set _ g1 g2) g3 g5 (by
   rw [dv_drop _ a i (by omega), dv_drop _ (q.set i t) i (by simp; omega), drop_set', getD_set_self (by omega), hv]
   have := vu2
   rw [g4] at this
   grind)
  refine ⟨r1, r2, ?_, h⟩
  rw [e]
  refine Ev.step (f := fun k => (dioramaref02_trimmed.f k (a.getD i 0 :: rest)).bind fun t193 => (dioramaref02_Over.l1 k a b q t193 (i : Int) 0 999999999)) (fun k => ?_) (Ev.bind eu (g6 _ he))
  simp only [dioramaref02_Over.l0, rd_nat, Option.bind_some, List.singleton_append, List.length_singleton]
  rw [if_pos (by omega), if_pos (by omega), if_pos (by omega), if_pos (by omega)]
theorem over_f (a b : List Int) (ha : Nn a) (hb : Nn b) (hla : a.length ≤ 100000) (hlb : b.length ≤ 100000) (hbp : 0 < dv 1000000000 b) :
  ∃ r1 r2, Ev (fun k => dioramaref02_Over.f k a b) (r1, r2) ∧ Nn r1 ∧ Nn r2 ∧ dv 1000000000 a = dv 1000000000 r1 * dv 1000000000 b + dv 1000000000 r2 ∧ dv 1000000000 r2 < dv 1000000000 b ∧ r1.length ≤ a.length ∧ r2.length ≤ b.length := by
 obtain ⟨r1, r2, he, h⟩ := over_l0 a b ha.dg hb hla hlb hbp a.length (List.replicate a.length 0) [] (Nat.le_refl _) (by simp) (Dg.replicate (by decide) _) (Cn.nil _) hbp (by rw [List.drop_of_length_le (Nat.le_refl _), List.drop_of_length_le (by simp)]; simp [dv])
 refine ⟨r1, r2, Ev.congr (fun k => ?_) he, h⟩
 simp only [dioramaref02_Over.f, Int.toNat_natCast]
 rw [if_pos (by omega), if_pos (by omega), w64 (by omega) (by omega)]
end Go.Proofs.Ytpbhepdgamoiaaa.Pc
namespace Go.Proofs.Ytpbhepdgamoiaaa.Qr
open Go.RowKit Go Go.Proofs.YtpbhepdgamoiaaaW.PrintWords Go.Proofs.YtpbhepdgamoiaaaW.PrintLast Go.Proofs.YtpbhepdgamoiaaaW.PrintMore Go.Proofs.Ytpbhepdgamoiaaa.Ml Go.Proofs.Ytpbhepdgamoiaaa.Mn Go.Proofs.Ytpbhepdgamoiaaa.Nd Go.Proofs.Ytpbhepdgamoiaaa.Pa Go.Proofs.Ytpbhepdgamoiaaa.Pb Go.Proofs.Ytpbhepdgamoiaaa.Rf Go.Proofs.Ytpbhepdgamoiaaa.Er Go.Proofs.Ytpbhepdgamoiaaa.Ek Go.Proofs.Ytpbhepdgamoiaaa.E Go.Proofs.Ytpbhepdgamoiaaa.Pe Go.Proofs.Ytpbhepdgamoiaaa.Pf
set_option linter.unusedVariables false
set_option linter.unusedSimpArgs false
structure RV (b : Bool) (x y : List Int) (q : Rat) (n : Nat) : Prop where
 nx : Nn x
 ny : Nn y
 pos : 0 < dv 1000000000 y
 eq : q = qq (sg b (dv 1000000000 x)) (dv 1000000000 y)
 lx : x.length ≤ n
 ly : y.length ≤ n
theorem RV.mono {b : Bool} {x y : List Int} {q : Rat} {n m : Nat} (h : RV b x y q n) (hm : n ≤ m) : RV b x y q m := ⟨h.nx, h.ny, h.pos, h.eq, Nat.le_trans h.lx hm, Nat.le_trans h.ly hm⟩
theorem RV.x0 {b : Bool} {x y : List Int} {q : Rat} {n : Nat} (h : RV b x y q n) : 0 ≤ dv 1000000000 x := dv_nonneg (by decide) h.nx.dg
def RE (f : Nat → Option (Bool × List Int × List Int)) (q : Rat) (n : Nat) : Prop := ∃ b x y, Ev f (b, x, y) ∧ RV b x y q n
theorem qq_parts {a b : Int} (hb : 0 < b) : ∃ g : Int, 0 < g ∧ a = (qq a b).num * g ∧ b = ((qq a b).den : Int) * g := by
 obtain ⟨h1, h2⟩ := rat_low (a := a) (b := b) (by omega)
 refine ⟨(Int.gcd a b : Nat), ?_, ?_, ?_⟩
 ·have := Int.gcd_pos_of_ne_zero_right a (show b ≠ 0 by omega)
  omega
 ·rw [← h1]
  unfold Ra.ratN Ea.lowN
  rw [if_neg (by omega)]
  exact (Int.ediv_mul_cancel (Int.gcd_dvd_left a b)).symm
 ·rw [← h2]
  unfold Ra.ratD Ea.lowD
  rw [if_neg (by omega)]
  exact (Int.ediv_mul_cancel (Int.gcd_dvd_right a b)).symm
theorem qq_lt {a b c d : Int} (hb : 0 < b) (hd : 0 < d) : qq a b < qq c d ↔ a * d < c * b := by
 obtain ⟨g, hg, e1, e2⟩ := qq_parts (a := a) hb
 obtain ⟨h, hh, e3, e4⟩ := qq_parts (a := c) hd
 rw [Rat.lt_iff]
 generalize (qq a b).num = N1 at *
 generalize ((qq a b).den : Int) = D1 at *
 generalize (qq c d).num = N2 at *
 generalize ((qq c d).den : Int) = D2 at *
 subst e1 e2 e3 e4
 have k1 : N1 * g * (D2 * h) = N1 * D2 * (g * h) := by grind
 have k2 : N2 * h * (D1 * g) = N2 * D1 * (g * h) := by grind
 rw [k1, k2]
 exact (Int.mul_lt_mul_right (Int.mul_pos hg hh)).symm
theorem RV.neg {b : Bool} {x y : List Int} {q : Rat} {n : Nat} (h : RV b x y q n) : RV (!b) x y (-q) n := by
 refine ⟨h.nx, h.ny, h.pos, ?_, h.lx, h.ly⟩
 rw [h.eq]
 unfold qq
 rw [Rat.neg_divInt]
 congr 1
 cases b <;> simp [sg]
end Go.Proofs.Ytpbhepdgamoiaaa.Qr
namespace Go.Proofs.Ytpbhepdgamoiaaa.Qn
open Go.RowKit Go Go.Proofs.YtpbhepdgamoiaaaW.PrintWords Go.Proofs.YtpbhepdgamoiaaaW.PrintLast Go.Proofs.YtpbhepdgamoiaaaW.PrintMore Go.Proofs.Ytpbhepdgamoiaaa.Ml Go.Proofs.Ytpbhepdgamoiaaa.Mn Go.Proofs.Ytpbhepdgamoiaaa.Nd Go.Proofs.Ytpbhepdgamoiaaa.Pa Go.Proofs.Ytpbhepdgamoiaaa.Pb Go.Proofs.Ytpbhepdgamoiaaa.Rf Go.Proofs.Ytpbhepdgamoiaaa.Er Go.Proofs.Ytpbhepdgamoiaaa.Ek Go.Proofs.Ytpbhepdgamoiaaa.E Go.Proofs.Ytpbhepdgamoiaaa.Pe Go.Proofs.Ytpbhepdgamoiaaa.Pf Go.Proofs.Ytpbhepdgamoiaaa.Pg Go.Proofs.Ytpbhepdgamoiaaa.Qr
set_option linter.unusedVariables false
set_option linter.unusedSimpArgs false
theorem qq_eq {a b c d : Int} (hb : b ≠ 0) (hd : d ≠ 0) : qq a b = qq c d ↔ a * d = c * b := by
 unfold qq
 exact Rat.divInt_eq_divInt_iff hb hd
end Go.Proofs.Ytpbhepdgamoiaaa.Qn
namespace Go.Proofs.Ytpbhepdgamoiaaa.Qo
open Go.RowKit Go Go.Proofs.YtpbhepdgamoiaaaW.PrintWords Go.Proofs.YtpbhepdgamoiaaaW.PrintLast Go.Proofs.YtpbhepdgamoiaaaW.PrintMore Go.Proofs.Ytpbhepdgamoiaaa.Ml Go.Proofs.Ytpbhepdgamoiaaa.Mn Go.Proofs.Ytpbhepdgamoiaaa.Nd Go.Proofs.Ytpbhepdgamoiaaa.Pa Go.Proofs.Ytpbhepdgamoiaaa.Pb Go.Proofs.Ytpbhepdgamoiaaa.Rf Go.Proofs.Ytpbhepdgamoiaaa.Er Go.Proofs.Ytpbhepdgamoiaaa.Ek Go.Proofs.Ytpbhepdgamoiaaa.E Go.Proofs.Ytpbhepdgamoiaaa.Pe Go.Proofs.Ytpbhepdgamoiaaa.Pf Go.Proofs.Ytpbhepdgamoiaaa.Pg Go.Proofs.Ytpbhepdgamoiaaa.Qr Go.Proofs.Ytpbhepdgamoiaaa.Qn
set_option linter.unusedVariables false
set_option linter.unusedSimpArgs false
theorem RV.int {b : Bool} {x y : List Int} {z : Int} {n : Nat} (h : RV b x y (qq z 1) n) (hy : dv 1000000000 y = 1) : sg b (dv 1000000000 x) = z := by
 have e := h.eq
 rw [hy, qq_eq (by decide) (by decide)] at e
 omega
structure RZ (b : Bool) (x y : List Int) (z : Int) (n : Nat) : Prop where
 nx : Nn x
 ny : Nn y
 y1 : dv 1000000000 y = 1
 eq : sg b (dv 1000000000 x) = z
 lx : x.length ≤ n
 ly : y.length ≤ n
end Go.Proofs.Ytpbhepdgamoiaaa.Qo
namespace Go.Proofs.Ytpbhepdgamoiaaa.Qw
open Go.RowKit Go Go.Proofs.YtpbhepdgamoiaaaW.PrintWords Go.Proofs.YtpbhepdgamoiaaaW.PrintLast Go.Proofs.YtpbhepdgamoiaaaW.PrintMore Go.Proofs.Ytpbhepdgamoiaaa.Ml Go.Proofs.Ytpbhepdgamoiaaa.Mn Go.Proofs.Ytpbhepdgamoiaaa.Nd Go.Proofs.Ytpbhepdgamoiaaa.Pa Go.Proofs.Ytpbhepdgamoiaaa.Pb Go.Proofs.Ytpbhepdgamoiaaa.Pc Go.Proofs.Ytpbhepdgamoiaaa.Rf Go.Proofs.Ytpbhepdgamoiaaa.Er Go.Proofs.Ytpbhepdgamoiaaa.Ek Go.Proofs.Ytpbhepdgamoiaaa.E Go.Proofs.Ytpbhepdgamoiaaa.Pe Go.Proofs.Ytpbhepdgamoiaaa.Pf Go.Proofs.Ytpbhepdgamoiaaa.Qr Go.Proofs.Ytpbhepdgamoiaaa.Qn Go.Proofs.Ytpbhepdgamoiaaa.Ew
set_option linter.unusedVariables false
set_option linter.unusedSimpArgs false
theorem qq_nonneg {a b : Int} (ha : 0 ≤ a) (hb : 0 < b) : ¬ qq a b < 0 := by
 have e : (0 : Rat) = qq 0 1 := by unfold qq; simp
 rw [e, qq_lt hb (by decide)]
 omega
end Go.Proofs.Ytpbhepdgamoiaaa.Qw

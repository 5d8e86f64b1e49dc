/-
  The reference's natural numbers, in digits of nine decimal places: what its printed functions compute. The reference's natural numbers: sums, differences, products, quotients, small ones. The reference divides. The normal list of a list of edits as a plain value, and that the code tells it. The reference's rational numbers as rational numbers. Whether lists are equal, alike; the first example of the chapter. The reference's normal list is the same. What the reference tells of a list: its normal list, its first error, its length. The reference's whole number of a rational number. The reference's time of a rational number is its lowest form. The reference's rational numbers in memory: what its calls make of them. The reference's first error and length; lists compared. The reference's Media: the walk (under way). The reference's comparison of two times: the walk.
-/
import Derived.Test.YtpbhepdgamoiaaaQREditFounda
import Derived.Test.YtpbhepdgamoiaaaQREditFoundd
import Derived.Test.YtpbhepdgamoiaaaQREditFounde
import Derived.Test.YtpbhepdgamoiaaaQREditFoundc
import Derived.Outline
namespace Go.Proofs.Ytpbhepdgamoiaaa.E
open Go.Proofs.Ytpbhepdgamoiaaa.Z Go.RowKit Go.Proofs.YtpbhepdgamoiaaaW.PrintWords Go.Proofs.YtpbhepdgamoiaaaW.PrintLast Go.Proofs.YtpbhepdgamoiaaaW.PrintMore
attribute [local go_sem] max2_int min2_int max_two min_two max_three min_three max_four min_four
set_option linter.unusedVariables false
set_option linter.unusedSimpArgs false
def dioramaref02_Valid.f (a0_0 : Int) (a0_1 : Int) : Option (Bool) := if a0_1 ≥ 1 then (if a0_1 ≤ 1152921504606846976 then (if a0_0 ≥ (-1152921504606846976) then (some (decide (a0_0 ≤ 1152921504606846976))) else (some false)) else (some false)) else (some false)
set_option maxHeartbeats 8000000 in
set_option maxRecDepth 100000 in
theorem dioramaref02_Valid.calls (a0_0 : Int) (a0_1 : Int) (r : Bool) (w : World) (h : dioramaref02_Valid.f a0_0 a0_1 = some r) :
  Calls Try.prog 35 #[.agg #[.int .i64 a0_0, .int .i64 a0_1]] w fun e w' => e = .returned (.bool r) ∧ Below w.heap.size w w' := by
 have hu37 := Try.underlying37; have HB := Aside0.mk (Below.refl w.heap.size w); have H : (if a0_1 ≥ 1 then (if a0_1 ≤ 1152921504606846976 then (if a0_0 ≥ (-1152921504606846976) then (some (decide (a0_0 ≤ 1152921504606846976))) else (some false)) else (some false)) else (some false)) = some r := h; clear h
 by_cases c2 : a0_1 ≥ 1
 ·rw [if_pos c2] at H; have c2b0 : decide (1 ≤ a0_1) = true := decide_eq_true c2; clear c2
  by_cases c3 : a0_1 ≤ 1152921504606846976
  ·rw [if_pos c3] at H; have c3b0 : decide (a0_1 ≤ 1152921504606846976) = true := decide_eq_true c3; clear c3
   by_cases c4 : a0_0 ≥ (-1152921504606846976)
   ·rw [if_pos c4] at H; have c4b0 : decide ((-1152921504606846976) ≤ a0_0) = true := decide_eq_true c4; clear c4; obtain rfl := Option.some.inj H
    go_enter Try.func35, Try.ntmps35
    go_wp2_with (first | ((with_reducible refine gate_dst (N := 1) rfl ?_); refine zB 1 37 #[.int .i64 a0_0, .int .i64 a0_1] ?_; intro gb702 hg w5 hbox hb; have BK702 := Aside0.mk hbox; have GW702 := gz hg; have GE702 := gz hg; replace HB := bp hb; clear hb hbox hg; obtain ⟨hcz6_0, hcz6_1, hfz6_0, hfz6_1⟩ := xc2 BK702))
    go_ret
    exact ⟨ez, bz⟩
   ·rw [if_neg c4] at H; have c4b0 : decide ((-1152921504606846976) ≤ a0_0) = false := decide_eq_false c4; clear c4; obtain rfl := Option.some.inj H
    go_enter Try.func35, Try.ntmps35
    go_wp2_with (first | ((with_reducible refine gate_dst (N := 1) rfl ?_); refine zB 1 37 #[.int .i64 a0_0, .int .i64 a0_1] ?_; intro gb702 hg w7 hbox hb; have BK702 := Aside0.mk hbox; have GW702 := gz hg; have GE702 := gz hg; replace HB := bp hb; clear hb hbox hg; obtain ⟨hcz8_0, hcz8_1, hfz8_0, hfz8_1⟩ := xc2 BK702))
    go_ret
    exact ⟨ez, bz⟩
  ·rw [if_neg c3] at H; have c3b0 : decide (a0_1 ≤ 1152921504606846976) = false := decide_eq_false c3; clear c3; obtain rfl := Option.some.inj H
   go_enter Try.func35, Try.ntmps35
   go_wp2_with (first | ((with_reducible refine gate_dst (N := 1) rfl ?_); refine zB 1 37 #[.int .i64 a0_0, .int .i64 a0_1] ?_; intro gb702 hg w9 hbox hb; have BK702 := Aside0.mk hbox; have GW702 := gz hg; have GE702 := gz hg; replace HB := bp hb; clear hb hbox hg; obtain ⟨hcz10_0, hcz10_1, hfz10_0, hfz10_1⟩ := xc2 BK702))
   go_ret
   exact ⟨ez, bz⟩
 ·rw [if_neg c2] at H; have c2b0 : decide (1 ≤ a0_1) = false := decide_eq_false c2; clear c2; obtain rfl := Option.some.inj H
  go_enter Try.func35, Try.ntmps35
  go_wp2_with (first | ((with_reducible refine gate_dst (N := 1) rfl ?_); refine zB 1 37 #[.int .i64 a0_0, .int .i64 a0_1] ?_; intro gb702 hg w11 hbox hb; have BK702 := Aside0.mk hbox; have GW702 := gz hg; have GE702 := gz hg; replace HB := bp hb; clear hb hbox hg; obtain ⟨hcz12_0, hcz12_1, hfz12_0, hfz12_1⟩ := xc2 BK702))
  go_ret
  exact ⟨ez, bz⟩
def dioramaref02_size.f (k : Nat) (a0 : Int) : Option (List Int) := if a0 < 0 then ((dioramaref02_Of.f k (wrap64 (-a0))).bind fun t703 => (some t703)) else ((dioramaref02_Of.f k a0).bind fun t706 => (some t706))
set_option maxHeartbeats 8000000 in
set_option maxRecDepth 100000 in
theorem dioramaref02_size.calls (k : Nat) (a0 : Int) (r : List Int) (w : World) (h : dioramaref02_size.f k a0 = some r) :
  Calls Try.prog 133 #[.int .i64 a0] w fun e w' => ∃ v0_ : Value, e = .returned (v0_) ∧ Kd.R (Kd.int .i64) 3 w' w.heap.size (fun _ => True) v0_ r ∧ Below w.heap.size w w' := by
 have HB := Aside0.mk (Below.refl w.heap.size w); have H : (if a0 < 0 then ((dioramaref02_Of.f k (wrap64 (-a0))).bind fun t703 => (some t703)) else ((dioramaref02_Of.f k a0).bind fun t706 => (some t706))) = some r := h
 clear h
 by_cases c2 : a0 < 0
 ·rw [if_pos c2] at H; have c2b0 : decide (a0 < 0) = true := decide_eq_true c2; clear c2; obtain ⟨t703, A3, H⟩ := ob H; obtain rfl := Option.some.inj H
  go_enter Try.func133, Try.ntmps133
  go_wp2_with (first | ((with_reducible refine gate_callee (f := 121) rfl ?_); refine zC 7 Try.func121 #[.int .i64 (wrap64 (-a0))] ?_; (with_reducible refine (dioramaref02_Of.calls k (wrap64 (-a0)) t703 _ A3.out).mono ?_); rintro e w4 ⟨v704, rfl, ho0, hb⟩; refine ⟨_, rfl, ?_⟩; have HO705 := Aside0.mk (Kd.R_lower ho0 sz); replace HB := bp hb; clear hb ho0))
  go_ret
  exact ⟨_, ez, by (with_reducible repeat (first | apply Kd.R_alloc | apply Kd.R_drewN | apply Kd.R_drew)); exact HO705.out, bz⟩
 ·rw [if_neg c2] at H; have c2b0 : decide (a0 < 0) = false := decide_eq_false c2; clear c2; obtain ⟨t706, A5, H⟩ := ob H; obtain rfl := Option.some.inj H
  go_enter Try.func133, Try.ntmps133
  go_wp2_with (first | ((with_reducible refine gate_callee (f := 121) rfl ?_); refine zC 9 Try.func121 #[.int .i64 a0] ?_; (with_reducible refine (dioramaref02_Of.calls k a0 t706 _ A5.out).mono ?_); rintro e w6 ⟨v707, rfl, ho0, hb⟩; refine ⟨_, rfl, ?_⟩; have HO708 := Aside0.mk (Kd.R_lower ho0 sz); replace HB := bp hb; clear hb ho0))
  go_ret
  exact ⟨_, ez, by (with_reducible repeat (first | apply Kd.R_alloc | apply Kd.R_drewN | apply Kd.R_drew)); exact HO708.out, bz⟩
def dioramaref02_RatOf.f (k : Nat) (a0_0 : Int) (a0_1 : Int) : Option (Bool × List Int × List Int) := (dioramaref02_size.f k a0_0).bind fun t711 => ((dioramaref02_Of.f k a0_1).bind fun t714 => (some (decide (a0_0 < 0), t711, t714)))
set_option maxHeartbeats 8000000 in
set_option maxRecDepth 100000 in
theorem dioramaref02_RatOf.calls (k : Nat) (a0_0 : Int) (a0_1 : Int) (r1 : Bool) (r2 : List Int) (r3 : List Int) (w : World) (h : dioramaref02_RatOf.f k a0_0 a0_1 = some (r1, r2, r3)) :
  Calls Try.prog 85 #[.agg #[.int .i64 a0_0, .int .i64 a0_1]] w fun e w' => ∃ v1_ v2_ : Value, e = .returned (.agg #[.bool r1, v1_, v2_]) ∧ Kd.R (Kd.int .i64) 3 w' w.heap.size (fun k_ => some k_ ≠ (v2_ : Value).ownBlock) v1_ r2 ∧ Kd.R (Kd.int .i64) 3 w' w.heap.size (fun k_ => some k_ ≠ (v1_ : Value).ownBlock) v2_ r3 ∧ Below w.heap.size w w' := by
 have hu37 := Try.underlying37; have hu95 := Try.underlying95; have HB := Aside0.mk (Below.refl w.heap.size w); have H : ((dioramaref02_size.f k a0_0).bind fun t711 => ((dioramaref02_Of.f k a0_1).bind fun t714 => (some (decide (a0_0 < 0), t711, t714)))) = some (r1, r2, r3) := h
 clear h; obtain ⟨t711, A2, H⟩ := ob H; obtain ⟨t714, A3, H⟩ := ob H; simp only [Option.some.injEq, Prod.mk.injEq] at H; obtain ⟨rfl, rfl, rfl⟩ := H
 go_enter Try.func85, Try.ntmps85
 try go_wp2_with (first | ((with_reducible refine gate_dst (N := 1) rfl ?_); refine zB 1 37 #[.int .i64 a0_0, .int .i64 a0_1] ?_; intro gb709 hg w4 hbox hb; have BK709 := Aside0.mk hbox; have GW709 := gz hg; have GE709 := gz hg; replace HB := bp hb; clear hb hbox hg) | ((with_reducible refine gate_dst (N := 2) rfl ?_); refine zB 2 95 #[.bool false, .slice none 0 0, .slice none 0 0] ?_; intro gb710 hg w5 hbox hb; have BK710 := Aside0.mk hbox; have GW710 := gz hg; have GE710 := gz hg; replace HB := bp hb; have NB709_710 := Aside0.mk ((by rw [hg]; exact Nat.ne_of_lt (bl BK709) : gb709 ≠ gb710)); have NB710_709 := Aside0.mk ((by rw [hg]; exact Nat.ne_of_gt (bl BK709) : gb710 ≠ gb709)); replace BK709 := kb BK709 hb; clear hb hbox hg))
 replace BK709 := Aside0.mk (blk_drew BK709.out); replace BK710 := Aside0.mk (blk_drew BK710.out); replace HB := Aside0.mk (below_drew1 HB.out); refine start_ (n := 11) (S := fun w' => w'.cell? ⟨gb709, 0, none⟩ = some (.int .i64 a0_0) ∧ w'.cell? ⟨gb709, 1, none⟩ = some (.int .i64 a0_1)) (ds := []) (bs 11 0) (by kernel_rfl) rfl rfl ⟨ct BK709 0, ct BK709 1⟩ (fun hHeld => ?_)
 generalize w5.drew = w6 at BK709 BK710 HB hHeld ⊢; refine zP 0 3 11 1 ?_; refine zP 3 6 11 9 ?_; refine zP 6 9 11 73 ?_; refine zT 1 4 11 75 hHeld ?_; refine zP 2 5 11 79 ?_; refine zT 4 7 11 95 hHeld ?_; refine zT 7 10 11 223 hHeld ?_; refine zN 5 (some 8) 11 255 (fun K hK => ?_); refine zG Try.func133 #[.int .i64 a0_0] ?_
 with_reducible refine (dioramaref02_size.calls k a0_0 t711 _ A2.out).mono ?_
 rintro e w7 ⟨v712, rfl, ho0, hb⟩; refine ⟨_, rfl, ?_⟩; have HO713 := Aside0.mk (Kd.R_lower ho0 sz); replace BK709 := kb BK709 hb; replace BK710 := kb BK710 hb; replace HB := bp hb; clear hb ho0; refine hK.out _ _ ⟨ct BK709 0, ct BK709 1⟩ (fun hHeld => ?_); clear hK K; refine zM 8 ?_; refine zN 8 (some 11) 11 511 (fun K hK => ?_); refine zG Try.func121 #[.int .i64 a0_1] ?_
 with_reducible refine (dioramaref02_Of.calls k a0_1 t714 _ A3.out).mono ?_
 rintro e w8 ⟨v715, rfl, ho0, hb⟩; refine ⟨_, rfl, ?_⟩; have HO716 := Aside0.mk (Kd.R_lower (Kd.R_new' ho0 (Kd.R_lt (rz HO713))) sz); replace HO713 := Aside0.mk (Kd.R_elder' (rz HO713) (Kd.R_base ho0) hb); replace BK709 := kb BK709 hb; replace BK710 := kb BK710 hb; replace HB := bp hb; clear hb ho0; obtain ⟨Ao9, co9, eo9⟩ := Kd.R_slice HO716.out
 (first | subst eo9 | (injection eo9 with f1_ f2_ f3_; have f4_ := f1_.symm; have f5_ := f3_.symm; clear f1_ f2_ f3_; subst f4_; subst f5_))
 obtain ⟨Ao10, co10, eo10⟩ := Kd.R_slice HO713.out
 (first | subst eo10 | (injection eo10 with f1_ f2_ f3_; have f4_ := f1_.symm; have f5_ := f3_.symm; clear f1_ f2_ f3_; subst f4_; subst f5_))
 refine hK.out _ _ ⟨ct BK709 0, ct BK709 1⟩ (fun hHeld => ?_); clear hK K; refine zM 11 ?_; refine zP 9 12 11 1023 ?_; refine zN 10 none 11 2047 (fun K hK => ?_); have hs11 : w8.cell? ⟨gb710, 0, none⟩ = some (.bool false) := ct BK710 0; have hfs11 := blk_frozen BK710.out 0; have hns11_0 := NB709_710.out; have hms11_0 := NB710_709.out; have hs12 : w8.cell? ⟨gb710, 1, none⟩ = some (.slice none 0 0) := ct BK710 1; have hfs12 := blk_frozen BK710.out 1; have hns12_0 := NB709_710.out; have hms12_0 := NB710_709.out; have hs13 : w8.cell? ⟨gb710, 2, none⟩ = some (.slice none 0 0) := ct BK710 2; have hfs13 := blk_frozen BK710.out 2; have hns13_0 := NB709_710.out; have hms13_0 := NB710_709.out; refine skip_ (w1 := ?_) (by rfl) rfl ?_ ?_
 rotate_left
 ·go_simp
  rfl
 refine hK.out _ _ ⟨((cell_far (p := ⟨gb710, _, none⟩) NB709_710.out _).trans (((cell_far (p := ⟨gb710, _, none⟩) NB709_710.out _).trans (((cell_far (p := ⟨gb710, _, none⟩) NB709_710.out _).trans (hHeld.1)))))), ((cell_far (p := ⟨gb710, _, none⟩) NB709_710.out _).trans (((cell_far (p := ⟨gb710, _, none⟩) NB709_710.out _).trans (((cell_far (p := ⟨gb710, _, none⟩) NB709_710.out _).trans (hHeld.2))))))⟩ (fun hHeld => ?_); clear hK K; refine done_ (by kernel_rfl) ?_
 try go_wp2
 refine bodyPost_ret (results_cell_row rfl _ _ gb710 95 #[.bool (decide (a0_0 < 0)), .slice Ao10 t711.length co10, .slice Ao9 t714.length co9] (0, 0) _ rfl (by (with_reducible repeat (first | refine blk_drewN ?_ _ | refine blk_drew ?_ | refine blk_alloc ?_ _)); refine blk_put (cs := #[.bool (decide (a0_0 < 0)), .slice Ao10 t711.length co10, .slice none 0 0]) ?_ 2 _ rfl; (with_reducible repeat (first | refine blk_drewN ?_ _ | refine blk_drew ?_ | refine blk_alloc ?_ _)); refine blk_put (cs := #[.bool (decide (a0_0 < 0)), .slice none 0 0, .slice none 0 0]) ?_ 1 _ rfl; (with_reducible repeat (first | refine blk_drewN ?_ _ | refine blk_drew ?_ | refine blk_alloc ?_ _)); refine blk_put (cs := #[.bool false, .slice none 0 0, .slice none 0 0]) ?_ 0 _ rfl; (with_reducible repeat (first | refine blk_drewN ?_ _ | refine blk_drew ?_ | refine blk_alloc ?_ _)); exact BK710.out) Try.underlying95 rfl (by kernel_rfl)) rfl ?_
 exact ⟨_, _, ez, by (with_reducible repeat (first | apply Kd.R_alloc | apply Kd.R_drewN | apply Kd.R_drew)); exact Kd.R_mono (Kd.R_far (p := ⟨gb710, 2, none⟩) (Kd.R_far (p := ⟨gb710, 1, none⟩) (Kd.R_far (p := ⟨gb710, 0, none⟩) (Kd.R_types HO713.out BK710.out (by decide)) (fun _ hk => hk.2) (.bool (decide (a0_0 < 0)))) (fun _ hk => hk.2) (.slice Ao10 t711.length co10)) (fun _ hk => hk.2) (.slice Ao9 t714.length co9)) (fun _ hk => hk.1.2), by (with_reducible repeat (first | apply Kd.R_alloc | apply Kd.R_drewN | apply Kd.R_drew)); exact Kd.R_mono (Kd.R_far (p := ⟨gb710, 2, none⟩) (Kd.R_far (p := ⟨gb710, 1, none⟩) (Kd.R_far (p := ⟨gb710, 0, none⟩) (Kd.R_types HO716.out BK710.out (by decide)) (fun _ hk => hk.2) (.bool (decide (a0_0 < 0)))) (fun _ hk => hk.2) (.slice Ao10 t711.length co10)) (fun _ hk => hk.2) (.slice Ao9 t714.length co9)) (fun _ hk => hk.1.2), bz⟩
end Go.Proofs.Ytpbhepdgamoiaaa.E
namespace Go.Proofs.Ytpbhepdgamoiaaa.E
open Go.Proofs.Ytpbhepdgamoiaaa.Z Go.RowKit Go.Proofs.YtpbhepdgamoiaaaW.PrintWords Go.Proofs.YtpbhepdgamoiaaaW.PrintLast Go.Proofs.YtpbhepdgamoiaaaW.PrintMore
attribute [local go_sem] max2_int min2_int max_two min_two max_three min_three max_four min_four
set_option linter.unusedVariables false
set_option linter.unusedSimpArgs false
attribute [local go_sem high] eqA37
end Go.Proofs.Ytpbhepdgamoiaaa.E
namespace Go.Proofs.Ytpbhepdgamoiaaa.E
open Go.Proofs.Ytpbhepdgamoiaaa.Z Go.RowKit Go.Proofs.YtpbhepdgamoiaaaW.PrintWords Go.Proofs.YtpbhepdgamoiaaaW.PrintLast Go.Proofs.YtpbhepdgamoiaaaW.PrintMore
attribute [local go_sem] max2_int min2_int max_two min_two max_three min_three max_four min_four
set_option linter.unusedVariables false
set_option linter.unusedSimpArgs false
end Go.Proofs.Ytpbhepdgamoiaaa.E
namespace Go.Proofs.Ytpbhepdgamoiaaa.E
open Go.Proofs.Ytpbhepdgamoiaaa.Z Go.RowKit Go.Proofs.YtpbhepdgamoiaaaW.PrintWords Go.Proofs.YtpbhepdgamoiaaaW.PrintLast Go.Proofs.YtpbhepdgamoiaaaW.PrintMore
attribute [local go_sem] max2_int min2_int max_two min_two max_three min_three max_four min_four
set_option linter.unusedVariables false
set_option linter.unusedSimpArgs false
attribute [local go_sem high] eqA77
end Go.Proofs.Ytpbhepdgamoiaaa.E
namespace Go.Proofs.Ytpbhepdgamoiaaa.E
open Go.Proofs.Ytpbhepdgamoiaaa.Z Go.RowKit Go.Proofs.YtpbhepdgamoiaaaW.PrintWords Go.Proofs.YtpbhepdgamoiaaaW.PrintLast Go.Proofs.YtpbhepdgamoiaaaW.PrintMore
attribute [local go_sem] max2_int min2_int max_two min_two max_three min_three max_four min_four
set_option linter.unusedVariables false
set_option linter.unusedSimpArgs false
end Go.Proofs.Ytpbhepdgamoiaaa.E
namespace Go.Proofs.Ytpbhepdgamoiaaa.Pa
open Go.RowKit Go.Proofs.Ytpbhepdgamoiaaa.P Go.Proofs.Ytpbhepdgamoiaaa.E Go.Proofs.YtpbhepdgamoiaaaW.PrintWords Go.Proofs.YtpbhepdgamoiaaaW.PrintLast Go.Proofs.Ytpbhepdgamoiaaa.Ml Go.Proofs.Ytpbhepdgamoiaaa.Mn
set_option linter.unusedVariables false
set_option linter.unusedSimpArgs false
abbrev Bd : Int := 1000000000
abbrev Nn (l : List Int) : Prop := Cn 1000000000 l
theorem top_cons {x : Int} {l : List Int} (h : Top l) (hx : l = [] → x ≠ 0) : Top (x :: l) := by
 intro hne
 cases l with
 | nil => simpa using hx rfl
 | cons y t =>
  rw [List.getLast_cons (by simp)]
  exact h (by simp)
theorem digit_f (l : List Int) (i : Nat) : dioramaref02_digit.f l (i : Int) = some (l.getD i 0) := by
 unfold dioramaref02_digit.f
 by_cases h : i < l.length
 ·rw [if_pos (by omega), if_pos (by omega), rd_nat]
 ·rw [if_neg (by omega), getD_ge (by omega)]
theorem tmodB {x : Int} (h : 0 ≤ x) : Int.tmod x 1000000000 = x % 1000000000 := Int.tmod_eq_emod_of_nonneg h
theorem tdivB {x : Int} (h : 0 ≤ x) : Int.tdiv x 1000000000 = x / 1000000000 := Int.tdiv_eq_ediv_of_nonneg h
theorem of_l (m : Nat) : ∀ (x : Int) (acc : List Int), 0 ≤ x → x < pw 1000000000 m → x ≤ 9223372036854775807 → acc.length + m ≤ 1000 → ∃ r, Ev (fun k => dioramaref02_Of.l0 k x acc) (acc ++ r) ∧ Nn r ∧ dv 1000000000 r = x ∧ r.length ≤ m := by
 induction m with
 | zero =>
  intro x acc h0 h1 _ _
  have hx : x = 0 := by simp [pw] at h1; omega
  subst hx
  exact ⟨[], Ev.step (f := fun _ => some (acc ++ [])) (fun k => by simp [dioramaref02_Of.l0]) (Ev.now _), Cn.nil _, rfl, Nat.le_refl _⟩
 | succ m ih =>
  intro x acc h0 h1 h2 hl
  by_cases hx : x = 0
  ·subst hx
   exact ⟨[], Ev.step (f := fun _ => some (acc ++ [])) (fun k => by simp [dioramaref02_Of.l0]) (Ev.now _), Cn.nil _, rfl, Nat.zero_le _⟩
  ·have hd : x / 1000000000 < pw 1000000000 m := by
    rw [pw_succ] at h1
    omega
   obtain ⟨r, he, hc, hv, hr⟩ := ih (x / 1000000000) (acc ++ [x % 1000000000]) (by omega) hd (by omega) (by simp; omega)
   refine ⟨x % 1000000000 :: r, ?_, ⟨Dg.cons (by omega) (by omega) hc.dg, top_cons hc.top (fun h => ?_)⟩, ?_, by simp; omega⟩
   ·rw [List.append_assoc, List.singleton_append] at he
    refine Ev.step (fun k => ?_) he
    simp only [dioramaref02_Of.l0]
    rw [if_pos (by omega), if_pos (by omega), tdivB h0, tmodB h0, w64 (by omega) (by omega)]
   ·subst h
    simp only [dv] at hv
    omega
   ·simp only [dv] at hv ⊢
    rw [hv]
    omega
theorem of_f (x : Int) (h0 : 0 ≤ x) (h1 : x ≤ 9223372036854775807) : ∃ r, Ev (fun k => dioramaref02_Of.f k x) r ∧ Nn r ∧ dv 1000000000 r = x ∧ r.length ≤ 3 := by
 obtain ⟨r, he, h⟩ := of_l 3 x [] h0 (by simp [pw]; omega) h1 (by simp)
 exact ⟨r, he, h⟩
theorem trimmed_l (l : List Int) (hd : Dg 1000000000 l) (hl : l.length ≤ 1000000) : ∀ n : Nat, n ≤ l.length → dv 1000000000 (l.take n) = dv 1000000000 l → ∃ r, Ev (fun k => dioramaref02_trimmed.l0 k l (n : Int)) r ∧ Nn r ∧ dv 1000000000 r = dv 1000000000 l ∧ r.length ≤ n := by
 intro n
 induction n with
 | zero =>
  intro _ hv
  refine ⟨[], Ev.step (f := fun _ => some []) (fun k => ?_) (Ev.now _), Cn.nil _, by rw [← hv]; rfl, Nat.le_refl _⟩
  simp [dioramaref02_trimmed.l0]
 | succ n ih =>
  intro hn hv
  have hw : wrap64 (((n + 1 : Nat) : Int) - 1) = (n : Int) := by rw [w64 (by omega) (by omega)]; omega
  by_cases hz : l.getD n 0 = 0
  ·obtain ⟨r, he, hc, hr, hlr⟩ := ih (by omega) (by rw [← hv] ; rw [dv_take_succ', hz]; omega)
   refine ⟨r, Ev.step (fun k => ?_) he, hc, hr, by omega⟩
   simp only [dioramaref02_trimmed.l0, hw, rd_nat]
   rw [if_pos (by omega), if_pos (by omega), if_pos (by omega), if_pos hz]
  ·refine ⟨l.take (n + 1), Ev.step (f := fun _ => some (l.take (n + 1))) (fun k => ?_) (Ev.now _), ⟨hd.take _, top_of_getD ?_⟩, hv, by simp; omega⟩
   ·simp only [dioramaref02_trimmed.l0, hw, rd_nat]
    rw [if_pos (by omega), if_pos (by omega), if_pos (by omega), if_neg hz, if_pos (by omega), if_pos (by omega), Int.toNat_natCast]
   ·rw [List.length_take, Nat.min_eq_left (by omega)]
    simp only [Nat.add_sub_cancel]
    rw [List.getD_eq_getElem?_getD, List.getElem?_take_of_lt (by omega), ← List.getD_eq_getElem?_getD]
    exact hz
theorem trimmed_f (l : List Int) (hd : Dg 1000000000 l) (hl : l.length ≤ 1000000) : ∃ r, Ev (fun k => dioramaref02_trimmed.f k l) r ∧ Nn r ∧ dv 1000000000 r = dv 1000000000 l ∧ r.length ≤ l.length :=
 trimmed_l l hd hl l.length (Nat.le_refl _) (by rw [List.take_length])
theorem cmp1 {x y : Int} (h : x < y) : Nd.cmpI x y = -1 := by unfold Nd.cmpI; rw [if_pos h]
theorem cmp2 {x y : Int} (h : y < x) : Nd.cmpI x y = 1 := by unfold Nd.cmpI; rw [if_neg (by omega), if_pos h]
theorem cmp0 {x y : Int} (h : x = y) : Nd.cmpI x y = 0 := by unfold Nd.cmpI; rw [if_neg (by omega), if_neg (by omega)]
theorem compare_l (a b : List Int) (ha : Dg 1000000000 a) (hb : Dg 1000000000 b) (hl : a.length = b.length) (hn : a.length ≤ 1000000) : ∀ i : Nat, i ≤ a.length → dv 1000000000 (a.drop i) = dv 1000000000 (b.drop i) →
  Ev (fun k => dioramaref02_Compare.l0 k a b ((i : Int) - 1)) (Nd.cmpI (dv 1000000000 a) (dv 1000000000 b)) := by
 intro i
 induction i with
 | zero =>
  intro _ h
  refine Ev.step (f := fun _ => some 0) (fun k => ?_) (by rw [cmp0 (by simpa using h)]; exact Ev.now _)
  simp [dioramaref02_Compare.l0]
 | succ i ih =>
  intro hi h
  have e : (((i + 1 : Nat) : Int) - 1) = (i : Int) := by omega
  have hw : wrap64 ((i : Int) - 1) = (i : Int) - 1 := w64 (by omega) (by omega)
  rw [e]
  rcases Int.lt_trichotomy (a.getD i 0) (b.getD i 0) with h1 | h1 | h1
  ·rw [cmp1 (dv_less (by decide) ha hb hl i (by omega) h h1)]
   refine Ev.step (f := fun _ => some (-1)) (fun k => ?_) (Ev.now _)
   simp only [dioramaref02_Compare.l0, rd_nat]
   rw [if_pos (by omega), if_pos (by omega), if_pos (by omega), if_pos (by omega), if_pos h1]
  ·refine Ev.step (fun k => ?_) (ih (by omega) (by rw [dv_drop _ a i (by omega), dv_drop _ b i (by omega), h1, h]))
   simp only [dioramaref02_Compare.l0, rd_nat, hw]
   rw [if_pos (by omega), if_pos (by omega), if_pos (by omega), if_pos (by omega), if_neg (by omega), if_neg (by omega)]
  ·rw [cmp2 (dv_less (by decide) hb ha hl.symm i (by omega) h.symm h1)]
   refine Ev.step (f := fun _ => some 1) (fun k => ?_) (Ev.now _)
   simp only [dioramaref02_Compare.l0, rd_nat]
   rw [if_pos (by omega), if_pos (by omega), if_pos (by omega), if_pos (by omega), if_neg (by omega), if_pos h1]
theorem compare_f (a b : List Int) (ha : Nn a) (hb : Nn b) (hn : a.length ≤ 1000000) (hm : b.length ≤ 1000000) : Ev (fun k => dioramaref02_Compare.f k a b) (Nd.cmpI (dv 1000000000 a) (dv 1000000000 b)) := by
 by_cases hl : a.length = b.length
 ·have h := compare_l a b ha.dg hb.dg hl hn a.length (Nat.le_refl _) (by rw [List.drop_of_length_le (Nat.le_refl _), List.drop_of_length_le (by omega)])
  refine Ev.congr (fun k => ?_) h
  simp only [dioramaref02_Compare.f]
  rw [if_pos (by omega), w64 (by omega) (by omega)]
 ·by_cases h1 : a.length < b.length
  ·rw [cmp1 (dv_len (by decide) ha.dg hb h1)]
   refine Ev.congr (f := fun _ => some (-1)) (fun k => ?_) (Ev.now _)
   simp only [dioramaref02_Compare.f]
   rw [if_neg (by omega), if_pos (by omega)]
  ·rw [cmp2 (dv_len (by decide) hb.dg ha (by omega))]
   refine Ev.congr (f := fun _ => some 1) (fun k => ?_) (Ev.now _)
   simp only [dioramaref02_Compare.f]
   rw [if_neg (by omega), if_neg (by omega)]
end Go.Proofs.Ytpbhepdgamoiaaa.Pa
namespace Go.Proofs.Ytpbhepdgamoiaaa.Pb
open Go.RowKit Go.Proofs.Ytpbhepdgamoiaaa.P Go.Proofs.Ytpbhepdgamoiaaa.E Go.Proofs.YtpbhepdgamoiaaaW.PrintWords Go.Proofs.YtpbhepdgamoiaaaW.PrintLast Go.Proofs.Ytpbhepdgamoiaaa.Ml Go.Proofs.Ytpbhepdgamoiaaa.Mn Go.Proofs.Ytpbhepdgamoiaaa.Pa
set_option linter.unusedVariables false
set_option linter.unusedSimpArgs false
theorem nv_take_all {l : List Int} {n : Nat} (h : l.length ≤ n) : dv 1000000000 (l.take n) = dv 1000000000 l := by rw [List.take_of_length_le h]
theorem dg_snoc {l : List Int} {x : Int} (h : Dg 1000000000 l) (h0 : 0 ≤ x) (h1 : x < 1000000000) : Dg 1000000000 (l ++ [x]) := h.append (Dg.cons h0 h1 (Dg.nil _))
theorem w1 {i : Nat} (h : i ≤ 10000000) : wrap64 ((i : Int) + 1) = ((i + 1 : Nat) : Int) := by rw [w64 (by omega) (by omega)]; omega
theorem minus_l (a b : List Int) (ha : Dg 1000000000 a) (hb : Dg 1000000000 b) (hn : a.length ≤ 1000000) (hlb : b.length ≤ a.length) (hle : dv 1000000000 b ≤ dv 1000000000 a) :
  ∀ (d i : Nat) (out : List Int) (c : Int), i + d = a.length → out.length = i → Dg 1000000000 out → 0 ≤ c → c ≤ 1 → dv 1000000000 out = dv 1000000000 (a.take i) - dv 1000000000 (b.take i) + c * pw 1000000000 i →
  ∃ r, Ev (fun k => dioramaref02_Minus.l0 k a b out c (i : Int)) r ∧ Nn r ∧ dv 1000000000 r = dv 1000000000 a - dv 1000000000 b ∧ r.length ≤ a.length := by
 intro d
 induction d with
 | zero =>
  intro i out c hi hl hd h0 h1 hv
  obtain ⟨r, he, hc, hr, hlr⟩ := trimmed_f out hd (by omega)
  have hlt := dv_lt (by decide) hd
  rw [hl] at hlt
  rw [nv_take_all (by omega), nv_take_all (by omega)] at hv
  have c0 : c = 0 := by
   rcases (show c = 0 ∨ c = 1 by omega) with h | h
   ·exact h
   ·rw [h] at hv
    omega
  refine ⟨r, Ev.step (f := fun k => (dioramaref02_trimmed.f k out).bind fun t => some t) (fun k => ?_) (Ev.bind he (Ev.now _)), hc, by rw [hr, hv, c0]; omega, by omega⟩
  simp only [dioramaref02_Minus.l0]
  rw [if_neg (by omega)]
 | succ d ih =>
  intro i out c hi hl hd h0 h1 hv
  have hx := ha.getD (by decide) i
  have hy := hb.getD (by decide) i
  have e1 := dv_take_succ' 1000000000 a i
  have e2 := dv_take_succ' 1000000000 b i
  have e3 := pw_succ 1000000000 i
  generalize hxv : a.getD i 0 = x at *
  generalize hyv : b.getD i 0 = y at *
  have hw : wrap64 (wrap64 (x - y) - c) = x - y - c := by rw [w64 (x := x - y) (by omega) (by omega), w64 (by omega) (by omega)]
  have hw2 : wrap64 (x - y - c + 1000000000) = x - y - c + 1000000000 := w64 (by omega) (by omega)
  by_cases hneg : x - y - c < 0
  ·obtain ⟨r, he, h⟩ := ih (i + 1) (out ++ [x - y - c + 1000000000]) 1 (by omega) (by simp [hl]) (dg_snoc hd (by omega) (by omega)) (by decide) (by decide) (by
    rw [dv_snoc, hl, hv, e1, e2, e3]
    grind)
   refine ⟨r, Ev.step (fun k => ?_) he, h⟩
   simp only [dioramaref02_Minus.l0]
   rw [if_pos (by omega), digit_f, digit_f, hxv, hyv]
   simp only [Option.bind_some, hw, hw2]
   rw [if_pos hneg, if_pos (by omega), w1 (by omega)]
  ·obtain ⟨r, he, h⟩ := ih (i + 1) (out ++ [x - y - c]) 0 (by omega) (by simp [hl]) (dg_snoc hd (by omega) (by omega)) (by decide) (by decide) (by
    rw [dv_snoc, hl, hv, e1, e2]
    grind)
   refine ⟨r, Ev.step (fun k => ?_) he, h⟩
   simp only [dioramaref02_Minus.l0]
   rw [if_pos (by omega), digit_f, digit_f, hxv, hyv]
   simp only [Option.bind_some, hw, hw2]
   rw [if_neg hneg, if_pos (by omega), w1 (by omega)]
theorem len_le {a b : List Int} (ha : Nn a) (hb : Nn b) (h : dv 1000000000 b ≤ dv 1000000000 a) : b.length ≤ a.length := by
 refine Nat.le_of_not_lt fun hl => ?_
 have := dv_len (by decide) ha.dg hb hl
 omega
theorem minus_f (a b : List Int) (ha : Nn a) (hb : Nn b) (hn : a.length ≤ 1000000) (hle : dv 1000000000 b ≤ dv 1000000000 a) : ∃ r, Ev (fun k => dioramaref02_Minus.f k a b) r ∧ Nn r ∧ dv 1000000000 r = dv 1000000000 a - dv 1000000000 b ∧ r.length ≤ a.length :=
 minus_l a b ha.dg hb.dg hn (len_le ha hb hle) hle a.length 0 [] 0 (by omega) rfl (Dg.nil _) (by decide) (by decide) (by simp [dv])
theorem plus_l (a b : List Int) (ha : Nn a) (hb : Nn b) (hn : a.length ≤ 1000000) (hm : b.length ≤ 1000000) :
  ∀ (d i : Nat) (out : List Int) (c : Int), i + d = max a.length b.length + 1 → out.length = i → Dg 1000000000 out → 0 ≤ c → c ≤ 1 → (i ≤ max a.length b.length ∨ c = 0) → (i < a.length ∨ i < b.length ∨ 0 < c ∨ Top out) → dv 1000000000 out = dv 1000000000 (a.take i) + dv 1000000000 (b.take i) - c * pw 1000000000 i →
  ∃ r, Ev (fun k => dioramaref02_Plus.l0 k a b out c (i : Int)) r ∧ Nn r ∧ dv 1000000000 r = dv 1000000000 a + dv 1000000000 b ∧ r.length ≤ max a.length b.length + 1 := by
 intro d
 induction d with
 | zero =>
  intro i out c hi hl hd h0 h1 hic ht hv
  have c0 : c = 0 := by omega
  subst c0
  rw [nv_take_all (by omega), nv_take_all (by omega)] at hv
  refine ⟨out, Ev.step (f := fun k => dioramaref02_Plus.j1 k a b out 0 (i : Int) (decide ((0 : Int) > 0))) (fun k => ?_) (Ev.step (f := fun _ => some out) (fun k => ?_) (Ev.now _)), ⟨hd, ?_⟩, by rw [hv]; omega, by omega⟩
  ·simp only [dioramaref02_Plus.l0]
   rw [if_neg (by omega), if_neg (by omega)]
  ·simp [dioramaref02_Plus.j1]
  ·rcases ht with h | h | h | h
   ·omega
   ·omega
   ·omega
   ·exact h
 | succ d ih =>
  intro i out c hi hl hd h0 h1 hic ht hv
  by_cases hgo : i < a.length ∨ i < b.length ∨ 0 < c
  ·have hx := ha.dg.getD (by decide) i
   have hy := hb.dg.getD (by decide) i
   have e1 := dv_take_succ' 1000000000 a i
   have e2 := dv_take_succ' 1000000000 b i
   have e3 := pw_succ 1000000000 i
   have zx : a.length ≤ i → a.getD i 0 = 0 := fun h => getD_ge h
   have zy : b.length ≤ i → b.getD i 0 = 0 := fun h => getD_ge h
   have tx : i + 1 = a.length → a.getD i 0 ≠ 0 := fun h => by have := top_getD ha.top (by omega); rwa [← h, Nat.add_sub_cancel] at this
   have ty : i + 1 = b.length → b.getD i 0 ≠ 0 := fun h => by have := top_getD hb.top (by omega); rwa [← h, Nat.add_sub_cancel] at this
   generalize hxv : a.getD i 0 = x at *
   generalize hyv : b.getD i 0 = y at *
   have hw : wrap64 (wrap64 (x + y) + c) = x + y + c := by rw [w64 (x := x + y) (by omega) (by omega), w64 (by omega) (by omega)]
   have hw2 : wrap64 ((x + y + c) / 1000000000) = (x + y + c) / 1000000000 := w64 (by omega) (by omega)
   obtain ⟨r, he, h⟩ := ih (i + 1) (out ++ [(x + y + c) % 1000000000]) ((x + y + c) / 1000000000) (by omega) (by simp [hl]) (dg_snoc hd (by omega) (by omega)) (by omega) (by omega)
    (by
     by_cases hmx : i < max a.length b.length
     ·left; omega
     ·right
      rw [zx (by omega), zy (by omega)]
      omega)
    (by
     by_cases g1 : i + 1 < a.length
     ·exact .inl g1
     ·by_cases g2 : i + 1 < b.length
      ·exact .inr (.inl g2)
      ·by_cases g3 : 0 < (x + y + c) / 1000000000
       ·exact .inr (.inr (.inl g3))
       ·refine .inr (.inr (.inr (top_of_getD ?_)))
        have hne : (x + y + c) % 1000000000 ≠ 0 := by
         rcases hgo with g | g | g
         ·have := tx (by omega); omega
         ·have := ty (by omega); omega
         ·omega
        simp only [List.length_append, List.length_singleton, Nat.add_sub_cancel]
        rw [List.getD_eq_getElem?_getD, List.getElem?_append_right (Nat.le_refl _)]
        simpa using hne)
    (by
     rw [dv_snoc, hl, hv, e1, e2, e3]
     have hdm := Int.mul_ediv_add_emod (x + y + c) 1000000000
     generalize (x + y + c) / 1000000000 = Q at *
     generalize (x + y + c) % 1000000000 = R at *
     have : R = x + y + c - 1000000000 * Q := by omega
     subst this
     grind)
   refine ⟨r, ?_, h⟩
   have hj : Ev (fun k => dioramaref02_Plus.j1 k a b out c (i : Int) true) r := by
    refine Ev.step (fun k => ?_) he
    simp only [dioramaref02_Plus.j1, if_true]
    rw [digit_f, digit_f, hxv, hyv]
    simp only [Option.bind_some, hw]
    rw [if_pos (by omega), tmodB (by omega), tdivB (by omega), hw2, w1 (by omega)]
   refine Ev.step (fun k => ?_) hj
   simp only [dioramaref02_Plus.l0]
   by_cases g1 : i < a.length
   ·rw [if_pos (by omega)]
   ·rw [if_neg (by omega)]
    by_cases g2 : i < b.length
    ·rw [if_pos (by omega)]
    ·rw [if_neg (by omega), decide_eq_true (show c > 0 by omega)]
  ·have c0 : c = 0 := by omega
   subst c0
   rw [nv_take_all (by omega), nv_take_all (by omega)] at hv
   refine ⟨out, Ev.step (f := fun k => dioramaref02_Plus.j1 k a b out 0 (i : Int) (decide ((0 : Int) > 0))) (fun k => ?_) (Ev.step (f := fun _ => some out) (fun k => ?_) (Ev.now _)), ⟨hd, ?_⟩, by rw [hv]; omega, by omega⟩
   ·simp only [dioramaref02_Plus.l0]
    rw [if_neg (by omega), if_neg (by omega)]
   ·simp [dioramaref02_Plus.j1]
   ·rcases ht with h | h | h | h
    ·omega
    ·omega
    ·omega
    ·exact h
theorem plus_f (a b : List Int) (ha : Nn a) (hb : Nn b) (hn : a.length ≤ 1000000) (hm : b.length ≤ 1000000) : ∃ r, Ev (fun k => dioramaref02_Plus.f k a b) r ∧ Nn r ∧ dv 1000000000 r = dv 1000000000 a + dv 1000000000 b ∧ r.length ≤ max a.length b.length + 1 :=
 plus_l a b ha hb hn hm (max a.length b.length + 1) 0 [] 0 (by omega) rfl (Dg.nil _) (by decide) (by decide) (.inr rfl) (.inr (.inr (.inr (fun h => absurd rfl h)))) (by simp [dv])
theorem mulB {c x y o : Int} (hc0 : 0 ≤ c) (hc1 : c < 1000000000) (hx0 : 0 ≤ x) (hx1 : x < 1000000000) (hy0 : 0 ≤ y) (hy1 : y < 1000000000) (ho0 : 0 ≤ o) (ho1 : o < 1000000000) :
  wrap64 (wrap64 (o + wrap64 (x * y)) + c) = o + x * y + c ∧ 0 ≤ o + x * y + c ∧ wrap64 (Int.tdiv (o + x * y + c) 1000000000) = (o + x * y + c) / 1000000000 ∧ (o + x * y + c) / 1000000000 < 1000000000 := by
 obtain ⟨h1, h2⟩ := mul_lt_sq hx0 hx1 hy0 hy1
 have h2' : x * y ≤ 999999998000000001 := h2
 rw [w64 (x := x * y) (by omega) (by omega), w64 (x := o + x * y) (by omega) (by omega), w64 (x := o + x * y + c) (by omega) (by omega), tdivB (by omega), w64 (by omega) (by omega)]
 refine ⟨rfl, by omega, rfl, by omega⟩
set_option maxHeartbeats 1000000 in
theorem times_l1 (a b : List Int) (i : Nat) (x : Int) (hx : a.getD i 0 = x) (hi : i < a.length) (hb : Dg 1000000000 b) (hx0 : 0 ≤ x) (hx1 : x < 1000000000) (hn : a.length + b.length ≤ 1000000) :
  ∀ (d j : Nat) (out : List Int) (c : Int), j + d = b.length → Dg 1000000000 out → out.length = a.length + b.length → 0 ≤ c → c < 1000000000 → (∀ m, i + b.length ≤ m → out.getD m 0 = 0) →
  ∃ out', (∀ r, Ev (fun k => dioramaref02_Times.l0 k a b out' ((i + 1 : Nat) : Int)) r → Ev (fun k => dioramaref02_Times.l1 k a b out (i : Int) c (j : Int)) r) ∧ out'.length = a.length + b.length ∧ Dg 1000000000 out' ∧
   dv 1000000000 out' = dv 1000000000 out + c * pw 1000000000 (i + j) + x * dv 1000000000 (b.drop j) * pw 1000000000 (i + j) ∧ ∀ m, i + 1 + b.length ≤ m → out'.getD m 0 = 0 := by
 intro d
 induction d with
 | zero =>
  intro j out c hj hd hl h0 h1 hz
  obtain rfl : j = b.length := by omega
  have hend : ∀ (out : List Int) (j : Nat) r, b.length ≤ j → Ev (fun k => dioramaref02_Times.l0 k a b out ((i + 1 : Nat) : Int)) r → Ev (fun k => dioramaref02_Times.l1 k a b out (i : Int) 0 (j : Int)) r := by
   intro out j r hj he
   refine Ev.step (fun k => ?_) he
   simp only [dioramaref02_Times.l1]
   rw [if_neg (by omega), if_neg (by omega), w1 (by omega)]
  rw [List.drop_of_length_le (Nat.le_refl _)]
  by_cases hc : c = 0
  ·subst hc
   exact ⟨out, fun r he => hend out _ r (Nat.le_refl _) he, hl, hd, by simp [dv], fun m hm => hz m (by omega)⟩
  ·refine ⟨out.set (i + b.length) c, fun r he => ?_, by simp [hl], hd.set _ h0 h1, ?_, fun m hm => by rw [getD_set (by omega)]; exact hz m (by omega)⟩
   ·have h2 := hend (out.set (i + b.length) c) (b.length + 1) r (by omega) he
    refine Ev.step (fun k => ?_) h2
    have hw : wrap64 ((i : Int) + (b.length : Int)) = ((i + b.length : Nat) : Int) := by rw [w64 (by omega) (by omega)]; omega
    obtain ⟨g1, g2, g3, g4⟩ := mulB (o := 0) (y := 0) h0 h1 hx0 hx1 (by decide) (by decide) (by decide) (by decide)
    have e0 : (0 : Int) + x * 0 + c = c := by omega
    rw [e0] at g1 g3
    simp only [dioramaref02_Times.l1, hw, rd_nat, hx, Int.toNat_natCast]
    rw [if_neg (by omega), if_pos (by omega), if_pos (by omega), if_pos (by omega), if_pos (by omega), if_pos (by omega), digit_f, getD_ge (Nat.le_refl _), hz _ (Nat.le_refl _)]
    simp only [Option.bind_some, g1, g3]
    rw [tmodB h0, Int.emod_eq_of_lt h0 h1, Int.ediv_eq_zero_of_lt h0 h1, w1 (by omega)]
   ·rw [dv_set _ _ _ _ (by omega), hz _ (Nat.le_refl _)]
    simp [dv]
 | succ d ih =>
  intro j out c hj hd hl h0 h1 hz
  have hy := hb.getD (by decide) j
  have ho := hd.getD (by decide) (i + j)
  have c1 : (j : Int) < (b.length : Int) := by omega
  have c2 : 0 ≤ ((i + j : Nat) : Int) := by omega
  have c3 : ((i + j : Nat) : Int) < (out.length : Int) := by omega
  have c4 : 0 ≤ (i : Int) := by omega
  have c5 : (i : Int) < (a.length : Int) := by omega
  have c6 : i + j < out.length := by omega
  have c7 : j < b.length := by omega
  have hw : wrap64 ((i : Int) + (j : Int)) = ((i + j : Nat) : Int) := by rw [w64 (by omega) (by omega)]; omega
  have hw1 := w1 (i := j) (by omega)
  have HW := Aside0.mk (And.intro hw hw1)
  clear hw hw1
  generalize hyv : b.getD j 0 = y at *
  generalize hov : out.getD (i + j) 0 = o at *
  obtain ⟨g1, g2, g3, g4⟩ := mulB h0 h1 hx0 hx1 hy.1 hy.2 ho.1 ho.2
  have gm := Int.mul_ediv_add_emod (o + x * y + c) 1000000000
  have gr0 := Int.emod_nonneg (o + x * y + c) (show (1000000000 : Int) ≠ 0 by decide)
  have gr1 := Int.emod_lt_of_pos (o + x * y + c) (show (0 : Int) < 1000000000 by decide)
  have gq0 : 0 ≤ (o + x * y + c) / 1000000000 := Int.ediv_nonneg g2 (by decide)
  have gt := tmodB g2
  generalize (o + x * y + c) / 1000000000 = q at *
  generalize (o + x * y + c) % 1000000000 = r' at *
  have hs : r' + 1000000000 * q = c + (x * y + o) := by clear g1 g3 gt; omega
  have HG := Aside0.mk (And.intro g1 (And.intro g3 gt))
  clear g1 g3 gt gm
  obtain ⟨out', k1, k2, k3, k4, k5⟩ := ih (j + 1) (out.set (i + j) r') q (by omega) (hd.set _ gr0 gr1) (by simp [hl]) gq0 g4 (fun m hm => by rw [getD_set (by omega)]; exact hz m hm)
  refine ⟨out', fun r he => ?_, k2, k3, ?_, k5⟩
  ·refine Ev.step (fun k => ?_) (k1 r he)
   simp only [dioramaref02_Times.l1, HW.out.1, rd_nat, hx, Int.toNat_natCast]
   rw [if_pos c1, if_pos c2, if_pos c3, if_pos c4, if_pos c5, digit_f, hyv, hov]
   simp only [Option.bind_some, HG.out.1, HG.out.2.1, HG.out.2.2, HW.out.2]
  ·rw [k4, dv_set _ _ _ _ c6, hov, dv_drop 1000000000 b j c7, hyv, ← Nat.add_assoc, pw_succ]
   exact (mul_step hs).symm
theorem times_l0 (a b : List Int) (ha : Dg 1000000000 a) (hb : Dg 1000000000 b) (hn : a.length + b.length ≤ 1000000) :
  ∀ (d i : Nat) (out : List Int), i + d = a.length → Dg 1000000000 out → out.length = a.length + b.length → dv 1000000000 out = dv 1000000000 (a.take i) * dv 1000000000 b → (∀ m, i + b.length ≤ m → out.getD m 0 = 0) →
  ∃ r, Ev (fun k => dioramaref02_Times.l0 k a b out (i : Int)) r ∧ Nn r ∧ dv 1000000000 r = dv 1000000000 a * dv 1000000000 b ∧ r.length ≤ a.length + b.length := by
 intro d
 induction d with
 | zero =>
  intro i out hi hd hl hv hz
  obtain ⟨r, he, hc, hr, hlr⟩ := trimmed_f out hd (by omega)
  refine ⟨r, Ev.step (f := fun k => (dioramaref02_trimmed.f k out).bind fun t => some t) (fun k => ?_) (Ev.bind he (Ev.now _)), hc, by rw [hr, hv, nv_take_all (by omega)], by omega⟩
  simp only [dioramaref02_Times.l0]
  rw [if_neg (by omega)]
 | succ d ih =>
  intro i out hi hd hl hv hz
  have hx := ha.getD (by decide) i
  obtain ⟨out', k1, k2, k3, k4, k5⟩ := times_l1 a b i (a.getD i 0) rfl (by omega) hb hx.1 hx.2 hn b.length 0 out 0 (by omega) hd hl (by decide) (by decide) hz
  obtain ⟨r, he, h⟩ := ih (i + 1) out' (by omega) k3 k2 (by
   rw [k4, hv, dv_take_succ' _ a i]
   simp only [List.drop_zero, Nat.add_zero]
   grind) (fun m hm => k5 m (by omega))
  refine ⟨r, Ev.step (fun k => ?_) (k1 r he), h⟩
  simp only [dioramaref02_Times.l0]
  rw [if_pos (by omega)]
  rfl
theorem times_f (a b : List Int) (ha : Nn a) (hb : Nn b) (hn : a.length + b.length ≤ 1000000) : ∃ r, Ev (fun k => dioramaref02_Times.f k a b) r ∧ Nn r ∧ dv 1000000000 r = dv 1000000000 a * dv 1000000000 b ∧ r.length ≤ a.length + b.length := by
 have e1 : wrap64 ((a.length : Int) + (b.length : Int)) = ((a.length + b.length : Nat) : Int) := by rw [w64 (by omega) (by omega)]; omega
 obtain ⟨r, he, h⟩ := times_l0 a b ha.dg hb.dg hn a.length 0 (List.replicate (a.length + b.length) 0) (by omega) (Dg.replicate (by decide) _) (by simp) (by rw [dv_replicate]; simp [dv]) (fun m _ => by
  rw [List.getD_eq_getElem?_getD, List.getElem?_replicate]
  split <;> rfl)
 refine ⟨r, Ev.congr (fun k => ?_) he, h⟩
 simp only [dioramaref02_Times.f, e1, Int.toNat_natCast]
 rw [if_pos (by omega), if_pos (by omega)]
 rfl
end Go.Proofs.Ytpbhepdgamoiaaa.Pb
namespace Go.Proofs.Ytpbhepdgamoiaaa.Pc
open Go.RowKit Go.Proofs.Ytpbhepdgamoiaaa.P Go.Proofs.Ytpbhepdgamoiaaa.E Go.Proofs.YtpbhepdgamoiaaaW.PrintWords Go.Proofs.YtpbhepdgamoiaaaW.PrintLast Go.Proofs.Ytpbhepdgamoiaaa.Ml Go.Proofs.Ytpbhepdgamoiaaa.Mn Go.Proofs.Ytpbhepdgamoiaaa.Pa Go.Proofs.Ytpbhepdgamoiaaa.Pb
set_option linter.unusedVariables false
set_option linter.unusedSimpArgs false
theorem drop_set' {l : List Int} {i : Nat} {v : Int} : (l.set i v).drop (i + 1) = l.drop (i + 1) := by
 rw [List.drop_set]
 simp
theorem over_l1 (a b q rest : List Int) (i : Nat) (hb : Nn b) (hr : Nn rest) (hi : i < q.length) (hq : q.length ≤ 1000000) (hlb : b.length ≤ 100000) (hlr : rest.length ≤ 200000) (hbp : 0 < dv 1000000000 b) :
  ∀ (m : Nat) (low high : Int), high - low ≤ m → 0 ≤ low → low ≤ high → high ≤ 999999999 → low * dv 1000000000 b ≤ dv 1000000000 rest → dv 1000000000 rest < (high + 1) * dv 1000000000 b →
  ∃ t rest', 0 ≤ t ∧ t < 1000000000 ∧ Nn rest' ∧ dv 1000000000 rest = t * dv 1000000000 b + dv 1000000000 rest' ∧ dv 1000000000 rest' < dv 1000000000 b ∧ (∀ r, Ev (fun k => dioramaref02_Over.l0 k a b (q.set i t) rest' ((i : Int) - 1)) r → Ev (fun k => dioramaref02_Over.l1 k a b q rest (i : Int) low high) r) := by
 intro m
 induction m with
 | zero =>
  intro low high hm h0 h1 h2 hlo hhi
  obtain rfl : low = high := by omega
  obtain ⟨o, eo, ho, vo, lo⟩ := of_f low h0 (by omega)
  obtain ⟨p, ep, hp, vp, lp⟩ := times_f b o hb ho (by omega)
  have e1 : dv 1000000000 p = low * dv 1000000000 b := by rw [vp, vo, Int.mul_comm]
  obtain ⟨s, es, hs, vs, ls⟩ := minus_f rest p hr hp (by omega) (by omega)
  have e2 : (low + 1) * dv 1000000000 b = low * dv 1000000000 b + dv 1000000000 b := by rw [Int.add_mul]; omega
  refine ⟨low, s, h0, by omega, hs, by omega, by omega, fun r he => ?_⟩
  refine Ev.step (f := fun k => (dioramaref02_Of.f k low).bind fun t197 => ((dioramaref02_Times.f k b t197).bind fun t200 => ((dioramaref02_Minus.f k rest t200).bind fun t203 => (dioramaref02_Over.l0 k a b (q.set i low) t203 ((i : Int) - 1))))) (fun k => ?_) (Ev.bind eo (Ev.bind ep (Ev.bind es he)))
  simp only [dioramaref02_Over.l1, Int.toNat_natCast]
  rw [if_neg (by omega), if_pos (by omega), if_pos (by omega), w64 (by omega) (by omega)]
 | succ m ih =>
  intro low high hm h0 h1 h2 hlo hhi
  by_cases hlt : low < high
  ·have hmid : wrap64 (Int.tdiv (wrap64 (wrap64 (low + high) + 1)) 2) = (low + high + 1) / 2 := by
    rw [w64 (x := low + high) (by omega) (by omega), w64 (x := low + high + 1) (by omega) (by omega), Int.tdiv_eq_ediv_of_nonneg (by omega), w64 (by omega) (by omega)]
   have hm1 : low < (low + high + 1) / 2 := by omega
   have hm2 : (low + high + 1) / 2 ≤ high := by omega
   generalize (low + high + 1) / 2 = mid at *
   obtain ⟨o, eo, ho, vo, lo⟩ := of_f mid (by omega) (by omega)
   obtain ⟨p, ep, hp, vp, lp⟩ := times_f b o hb ho (by omega)
   have e1 : dv 1000000000 p = mid * dv 1000000000 b := by rw [vp, vo, Int.mul_comm]
   have ec := compare_f p rest hp hr (by omega) (by omega)
   rw [e1] at ec
   by_cases hc : mid * dv 1000000000 b ≤ dv 1000000000 rest
   ·obtain ⟨t, rest', g1, g2, g3, g4, g5, g6⟩ := ih mid high (by omega) (by omega) hm2 h2 hc hhi
    have hle : Nd.cmpI (mid * dv 1000000000 b) (dv 1000000000 rest) ≤ 0 := by
     unfold Nd.cmpI
     by_cases h2 : mid * dv 1000000000 b < dv 1000000000 rest
     ·rw [if_pos h2]; decide
     ·rw [if_neg h2, if_neg (by omega)]; decide
    refine ⟨t, rest', g1, g2, g3, g4, g5, fun r he => ?_⟩
    refine Ev.step (f := fun k => (dioramaref02_Of.f k mid).bind fun t206 => ((dioramaref02_Times.f k b t206).bind fun t209 => ((dioramaref02_Compare.f k t209 rest).bind fun t212 => (if t212 ≤ 0 then (dioramaref02_Over.l1 k a b q rest (i : Int) mid high) else (dioramaref02_Over.l1 k a b q rest (i : Int) low (wrap64 (mid - 1))))))) (fun k => ?_) (Ev.bind eo (Ev.bind ep (Ev.bind ec (Ev.congr (fun k => ?_) (g6 r he)))))
    ·simp only [dioramaref02_Over.l1, hmid]
     rw [if_pos hlt]
    ·rw [if_pos hle]
   ·have hw : wrap64 (mid - 1) = mid - 1 := w64 (by omega) (by omega)
    obtain ⟨t, rest', g1, g2, g3, g4, g5, g6⟩ := ih low (mid - 1) (by omega) h0 (by omega) (by omega) hlo (by rw [Int.sub_add_cancel]; omega)
    have hle : ¬ Nd.cmpI (mid * dv 1000000000 b) (dv 1000000000 rest) ≤ 0 := by
     rw [cmp2 (by omega)]; decide
    refine ⟨t, rest', g1, g2, g3, g4, g5, fun r he => ?_⟩
    refine Ev.step (f := fun k => (dioramaref02_Of.f k mid).bind fun t206 => ((dioramaref02_Times.f k b t206).bind fun t209 => ((dioramaref02_Compare.f k t209 rest).bind fun t212 => (if t212 ≤ 0 then (dioramaref02_Over.l1 k a b q rest (i : Int) mid high) else (dioramaref02_Over.l1 k a b q rest (i : Int) low (wrap64 (mid - 1))))))) (fun k => ?_) (Ev.bind eo (Ev.bind ep (Ev.bind ec (Ev.congr (fun k => ?_) (g6 r he)))))
    ·simp only [dioramaref02_Over.l1, hmid]
     rw [if_pos hlt]
    ·rw [if_neg hle, hw]
  ·exact ih low high (by omega) h0 h1 h2 hlo hhi
theorem over_l0 (a b : List Int) (ha : Dg 1000000000 a) (hb : Nn b) (hla : a.length ≤ 100000) (hlb : b.length ≤ 100000) (hbp : 0 < dv 1000000000 b) :
  ∀ (i : Nat) (q rest : List Int), i ≤ a.length → q.length = a.length → Dg 1000000000 q → Nn rest → dv 1000000000 rest < dv 1000000000 b → dv 1000000000 (a.drop i) = dv 1000000000 (q.drop i) * dv 1000000000 b + dv 1000000000 rest →
  ∃ r1 r2, Ev (fun k => dioramaref02_Over.l0 k a b q rest ((i : Int) - 1)) (r1, r2) ∧ Nn r1 ∧ Nn r2 ∧ dv 1000000000 a = dv 1000000000 r1 * dv 1000000000 b + dv 1000000000 r2 ∧ dv 1000000000 r2 < dv 1000000000 b ∧ r1.length ≤ a.length ∧ r2.length ≤ b.length := by
 have hlen : ∀ {l : List Int}, Nn l → dv 1000000000 l < dv 1000000000 b → l.length ≤ b.length := by
  intro l hl h
  refine Nat.le_of_not_lt fun h2 => ?_
  have := dv_len (by decide) hb.dg hl h2
  omega
 intro i
 induction i with
 | zero =>
  intro q rest _ hq dq hr hlt hv
  obtain ⟨r, he, hc, hvr, hlr⟩ := trimmed_f q dq (by omega)
  rw [List.drop_zero, List.drop_zero] at hv
  refine ⟨r, rest, Ev.step (f := fun k => (dioramaref02_trimmed.f k q).bind fun t => some (t, rest)) (fun k => ?_) (Ev.bind he (Ev.now _)), hc, hr, by rw [hvr]; exact hv, hlt, by omega, hlen hr hlt⟩
  simp [dioramaref02_Over.l0]
 | succ i ih =>
  intro q rest hi hq dq hr hlt hv
  have e : (((i + 1 : Nat) : Int) - 1) = (i : Int) := by omega
  have hx := ha.getD (by decide) i
  have hlr := hlen hr hlt
  obtain ⟨u, eu, hu, vu, lu⟩ := trimmed_f (a.getD i 0 :: rest) (Dg.cons hx.1 hx.2 hr.dg) (by simp; omega)
  have vu2 : dv 1000000000 u = a.getD i 0 + 1000000000 * dv 1000000000 rest := vu
  have r0 := dv_nonneg (by decide) hr.dg
  simp only [List.length_cons] at lu
  obtain ⟨t, rest', g1, g2, g3, g4, g5, g6⟩ := over_l1 a b q u i hb hu (by omega) (by omega) hlb (by omega) hbp 999999999 0 999999999 (by decide) (by decide) (by decide) (by decide) (by have := dv_nonneg (by decide) hu.dg ; omega) (by
   have : (1000000000 : Int) * (dv 1000000000 rest + 1) ≤ 1000000000 * dv 1000000000 b := Int.mul_le_mul_of_nonneg_left (by omega) (by decide)
   rw [vu2]
   omega)
  obtain ⟨r1, r2, he, h⟩ := ih (q.set i t) rest' (by omega) (by simpa using hq) (dq.set _ g1 g2) g3 g5 (by
   rw [dv_drop _ a i (by omega), dv_drop _ (q.set i t) i (by simp; omega), drop_set', getD_set_self (by omega), hv]
   have := vu2
   rw [g4] at this
   grind)
  refine ⟨r1, r2, ?_, h⟩
  rw [e]
  refine Ev.step (f := fun k => (dioramaref02_trimmed.f k (a.getD i 0 :: rest)).bind fun t193 => (dioramaref02_Over.l1 k a b q t193 (i : Int) 0 999999999)) (fun k => ?_) (Ev.bind eu (g6 _ he))
  simp only [dioramaref02_Over.l0, rd_nat, Option.bind_some, List.singleton_append, List.length_singleton]
  rw [if_pos (by omega), if_pos (by omega), if_pos (by omega), if_pos (by omega)]
theorem over_f (a b : List Int) (ha : Nn a) (hb : Nn b) (hla : a.length ≤ 100000) (hlb : b.length ≤ 100000) (hbp : 0 < dv 1000000000 b) :
  ∃ r1 r2, Ev (fun k => dioramaref02_Over.f k a b) (r1, r2) ∧ Nn r1 ∧ Nn r2 ∧ dv 1000000000 a = dv 1000000000 r1 * dv 1000000000 b + dv 1000000000 r2 ∧ dv 1000000000 r2 < dv 1000000000 b ∧ r1.length ≤ a.length ∧ r2.length ≤ b.length := by
 obtain ⟨r1, r2, he, h⟩ := over_l0 a b ha.dg hb hla hlb hbp a.length (List.replicate a.length 0) [] (Nat.le_refl _) (by simp) (Dg.replicate (by decide) _) (Cn.nil _) hbp (by rw [List.drop_of_length_le (Nat.le_refl _), List.drop_of_length_le (by simp)]; simp [dv])
 refine ⟨r1, r2, Ev.congr (fun k => ?_) he, h⟩
 simp only [dioramaref02_Over.f, Int.toNat_natCast]
 rw [if_pos (by omega), if_pos (by omega), w64 (by omega) (by omega)]
end Go.Proofs.Ytpbhepdgamoiaaa.Pc
namespace Go.Proofs.Ytpbhepdgamoiaaa.Pf
open Go.RowKit Go Go.Proofs.YtpbhepdgamoiaaaW.PrintWords Go.Proofs.YtpbhepdgamoiaaaW.PrintLast Go.Proofs.YtpbhepdgamoiaaaW.PrintMore Go.Proofs.Ytpbhepdgamoiaaa.Mn Go.Proofs.Ytpbhepdgamoiaaa.Rf Go.Proofs.Ytpbhepdgamoiaaa.Er Go.Proofs.Ytpbhepdgamoiaaa.Ek Go.Proofs.Ytpbhepdgamoiaaa.E Go.Proofs.Ytpbhepdgamoiaaa.Pe
set_option linter.unusedVariables false
set_option linter.unusedSimpArgs false
def lowV (x : Ed) : Ed := ⟨x.f0, x.f1, (qq x.f2 x.f3).num, ((qq x.f2 x.f3).den : Int)⟩
def ovV (ms ts : Int) (a b : Ed) : Bool := overB ms ts a.f0 a.f1 a.f2 a.f3 b.f1 b.f2 b.f3
def push (ms ts : Int) : List Ed → Ed → List Ed
 | [], e => [e]
 | a :: t, e => if ovV ms ts a e = true then ⟨a.f0 + e.f0, a.f1, a.f2, a.f3⟩ :: t else e :: a :: t
def nrmR (ms ts : Int) (out l : List Ed) : List Ed := (l.map lowV).foldl (push ms ts) out
def nrm (ms ts : Int) (l : List Ed) : List Ed := (nrmR ms ts [] l).reverse
def fin (out : List Ed) : List Ed × Int := if 20 < out.length then ([], 2) else (out.reverse, 0)
def nrmV (ms ts : Int) (l : List Ed) : List Ed × Int := if 1099511627776 < sumD l then ([], 2) else fin (nrmR ms ts [] l)
structure Wd (x : Ed) : Prop where
 d0 : 1 ≤ x.f0
 m0 : -1 ≤ x.f1
 m1 : x.f1 ≤ 1099511627776
 n0 : 0 ≤ x.f2
 n1 : x.f2 ≤ 1000
 e0 : 1 ≤ x.f3
 e1 : x.f3 ≤ 1000
theorem wd_low {x : Ed} (h : Vd x) : Wd (lowV x) := by
 have hq := qq_low h.n0 h.e0
 have h1 := h.n1
 have h2 := h.e1
 exact ⟨h.d0, h.m0, h.m1, hq.1, by unfold lowV; simp only; omega, hq.2.2.1, by unfold lowV; simp only; omega⟩
theorem low_f {x : Ed} (h : Vd x) : edit_lowest.f x.f0 x.f1 x.f2 x.f3 = some ((lowV x).f0, (lowV x).f1, (lowV x).f2, (lowV x).f3) := by
 unfold edit_lowest.f rateOk
 have h0 := h.n0
 have h1 := h.n1
 have h2 := h.e0
 have h3 := h.e1
 rw [decide_eq_true h0, decide_eq_true (show x.f2 ≤ 1000000 by omega), decide_eq_true h2, decide_eq_true (show x.f3 ≤ 1000000 by omega)]
 rfl
theorem over_f {ms ts : Int} {a b : Ed} (hc : Ck ms ts) (ha : Wd a) (hd : a.f0 ≤ 1099511627776) (hb : Wd b) : edit_clocks_over.f ms ts a.f0 a.f1 a.f2 a.f3 b.f0 b.f1 b.f2 b.f3 = some (ovV ms ts a b) := by
 unfold edit_clocks_over.f overOk in64
 have c0 := hc.m0
 have c1 := hc.m1
 have c2 := hc.t0
 have c3 := hc.t1
 have a0 := ha.d0
 have a1 := ha.m0
 have a2 := ha.m1
 have a3 := ha.n0
 have a4 := ha.n1
 have a5 := ha.e0
 have a6 := ha.e1
 have b1 := hb.m0
 have b2 := hb.m1
 rw [if_pos (by simp only [Bool.and_eq_true, decide_eq_true_eq]; omega)]
 rfl
theorem push_sum (ms ts : Int) (out : List Ed) (e : Ed) : sumD (push ms ts out e) = sumD out + e.f0 := by
 cases out with
 | nil => simp [push, sumD]
 | cons a t =>
  simp only [push]
  split
  ·simp only [sumD]; omega
  ·simp only [sumD]; omega
theorem push_wd {ms ts : Int} {out : List Ed} {e : Ed} (h : ∀ x ∈ out, Wd x) (he : Wd e) : ∀ x ∈ push ms ts out e, Wd x := by
 cases out with
 | nil => simpa [push] using he
 | cons a t =>
  have ha := h a (by simp)
  simp only [push]
  split
  ·intro x hx
   simp only [List.mem_cons] at hx
   rcases hx with rfl | hx
   ·have a0 := ha.d0
    have e0 := he.d0
    exact ⟨by simp only; omega, ha.m0, ha.m1, ha.n0, ha.n1, ha.e0, ha.e1⟩
   ·exact h x (by simp [hx])
  ·intro x hx
   simp only [List.mem_cons] at hx
   rcases hx with rfl | hx
   ·exact he
   ·exact h x (by simpa using hx)
theorem push_len (ms ts : Int) (out : List Ed) (e : Ed) : (push ms ts out e).length ≤ out.length + 1 := by
 cases out with
 | nil => simp [push]
 | cons a t =>
  simp only [push]
  split <;> simp
theorem wd_sum {l : List Ed} (h : ∀ x ∈ l, Wd x) : 0 ≤ sumD l := by
 induction l with
 | nil => simp [sumD]
 | cons x t ih =>
  have h1 := (h x (by simp)).d0
  have h2 := ih (fun y hy => h y (by simp [hy]))
  simp only [sumD]
  omega
theorem normal_l {ms ts : Int} (hc : Ck ms ts) (l : List Ed) (hV : ∀ x ∈ l, Vd x) (hl : l.length ≤ 1000000000) (rest : List Ed) :
  ∀ pre out, l = pre ++ rest → sumD out = sumD pre → sumD pre ≤ 1099511627776 → (∀ x ∈ out, Wd x) → out.length ≤ pre.length →
   Ev (fun k => edit_clocks_normal.l0 k out.reverse (sumD pre) l (l.length : Int) (pre.length : Int) ms ts) (if 1099511627776 < sumD l then ([], 2) else fin (nrmR ms ts out rest)) := by
 induction rest with
 | nil =>
  intro pre out he hs hp hw ho
  subst he
  rw [if_neg (by simp only [List.append_nil]; omega)]
  refine Ev.step (f := fun _ => some (fin (nrmR ms ts out []))) (fun k => ?_) (Ev.now _)
  simp only [edit_clocks_normal.l0, List.append_nil]
  rw [if_neg (by omega)]
  unfold fin nrmR
  simp only [List.map_nil, List.foldl_nil, List.length_reverse]
  by_cases h : 20 < out.length
  ·rw [if_pos h, if_pos (by omega)]
  ·rw [if_neg h, if_neg (by omega)]
 | cons x t ih =>
  intro pre out he hs hp hw ho
  have hlen : l.length = pre.length + (t.length + 1) := by rw [he]; simp
  have hx : rd_T77 l (pre.length : Int) = x := by rw [he]; exact rd_at pre x t
  have hvx : Vd x := hV x (by rw [he]; simp)
  have hst : 0 ≤ sumD t := sumD_nonneg (fun y hy => hV y (by rw [he]; simp [hy]))
  have hsl : sumD l = sumD pre + x.f0 + sumD t := by rw [he, sumD_app]; simp only [sumD]; omega
  have hs0 : 0 ≤ sumD pre := by rw [← hs]; exact wd_sum hw
  have hd0 := hvx.d0
  have hd1 := hvx.d1
  have hsp : sumD (pre ++ [x]) = sumD pre + x.f0 := by rw [sumD_app]; simp [sumD]
  by_cases hbig : sumD pre + x.f0 > 1099511627776
  ·rw [if_pos (by omega)]
   refine Ev.step (f := fun _ => some ([], 2)) (fun k => ?_) (Ev.now _)
   simp only [edit_clocks_normal.l0]
   rw [if_pos (by omega), if_pos (by omega), if_pos (by omega), hx, low_f hvx]
   simp only [Option.bind_some]
   rw [show (lowV x).f0 = x.f0 from rfl, w64 (by omega) (by omega), if_pos hbig]
  ·have hwl := wd_low hvx
   have hr := ih (pre ++ [x]) (push ms ts out (lowV x)) (by rw [he]; simp) (by rw [push_sum, hs, hsp]; rfl) (by omega) (push_wd hw hwl) (by have := push_len ms ts out (lowV x); simp only [List.length_append, List.length_cons, List.length_nil]; omega)
   have hn : nrmR ms ts out (x :: t) = nrmR ms ts (push ms ts out (lowV x)) t := rfl
   rw [hn]
   refine Ev.step (f := fun k => edit_clocks_normal.l1 k out.reverse (sumD (pre ++ [x])) (out.reverse.length : Int) l (l.length : Int) (pre.length : Int) ms ts (lowV x).f0 (lowV x).f1 (lowV x).f2 (lowV x).f3) (fun k => ?_) ?_
   ·simp only [edit_clocks_normal.l0]
    rw [if_pos (by omega), if_pos (by omega), if_pos (by omega), hx, low_f hvx]
    simp only [Option.bind_some]
    rw [show (lowV x).f0 = x.f0 from rfl, w64 (by omega) (by omega), if_neg hbig, hsp]
   ·refine Ev.step (f := fun k => edit_clocks_normal.l0 k (push ms ts out (lowV x)).reverse (sumD (pre ++ [x])) l (l.length : Int) ((pre ++ [x]).length : Int) ms ts) (fun k => ?_) hr
    simp only [edit_clocks_normal.l1]
    have hpl : wrap64 ((pre.length : Int) + 1) = ((pre ++ [x]).length : Int) := by rw [w64 (by omega) (by omega)]; simp
    rw [hpl]
    cases out with
    | nil =>
     rw [if_neg (show ¬ (([] : List Ed).reverse.length : Int) > 0 by simp), if_pos (show ([] : List Ed).reverse.length < 4398046511104 by simp)]
     rfl
    | cons a o =>
     have hla : (a :: o).reverse.length = o.length + 1 := by simp
     have hra : rd_T77 (a :: o).reverse (o.length : Int) = a := by
      rw [List.reverse_cons]
      have := rd_at o.reverse a []
      rw [List.length_reverse] at this
      exact this
     have hol : o.length + 1 ≤ pre.length := ho
     have hsa := wd_sum (l := o) (fun y hy => hw y (by simp [hy]))
     have hda : a.f0 ≤ 1099511627776 := by simp only [sumD] at hs; omega
     rw [hla, if_pos (by omega), w64 (by omega) (by omega), show ((o.length + 1 : Nat) : Int) - 1 = (o.length : Int) by omega, if_pos (by omega), if_pos (by omega), hra]
     have ha0 := (hw a (by simp)).d0
     have hov : edit_clocks_over.f ms ts a.f0 a.f1 a.f2 a.f3 (lowV x).f0 (lowV x).f1 (lowV x).f2 (lowV x).f3 = some (ovV ms ts a (lowV x)) := over_f hc (hw a (by simp)) hda hwl
     rw [hov]
     simp only [Option.bind_some, push]
     by_cases hb : ovV ms ts a (lowV x) = true
     ·rw [if_pos hb, if_pos hb]
      have hf : (lowV x).f0 = x.f0 := rfl
      simp only [sumD] at hs
      rw [w64 (by rw [hf]; omega) (by rw [hf]; omega)]
      congr 1
      rw [List.reverse_cons, List.reverse_cons, Int.toNat_natCast]
      have : o.length = o.reverse.length := by simp
      rw [this, List.set_append_right _ _ (Nat.le_refl _)]
      simp
     ·rw [if_neg hb, if_neg hb, if_pos (by omega)]
      congr 1
      simp
theorem normal_f {ms ts : Int} (hc : Ck ms ts) (l : List Ed) (hV : ∀ x ∈ l, Vd x) (hl : l.length ≤ 1000000000) : Ev (fun k => edit_clocks_normal.f k ms ts l) (nrmV ms ts l) :=
 normal_l hc l hV hl l [] [] rfl rfl (by simp [sumD]) (by simp) (by simp)
theorem nrmR_len (ms ts : Int) (l : List Ed) : ∀ out, (nrmR ms ts out l).length ≤ out.length + l.length := by
 induction l with
 | nil => intro out; simp [nrmR]
 | cons x t ih =>
  intro out
  have h := ih (push ms ts out (lowV x))
  have hn : nrmR ms ts out (x :: t) = nrmR ms ts (push ms ts out (lowV x)) t := rfl
  have h2 := push_len ms ts out (lowV x)
  rw [hn]
  simp only [List.length_cons]
  omega
def norV (ms ts : Int) (l : List Ed) : List Ed × Int := if chk l ms ts = 0 then (nrm ms ts l, 0) else ([], chk l ms ts)
theorem Normal_f (l : List Ed) (ms ts : Int) : Ev (fun k => edit_Normal.f k l ms ts) (norV ms ts l) := by
 unfold norV
 by_cases h0 : chk l ms ts = 0
 ·obtain ⟨hc, hl, hV, hs⟩ := chk_ok.1 h0
  rw [if_pos h0]
  have hr : nrmV ms ts l = (nrm ms ts l, 0) := by
   have := nrmR_len ms ts l []
   simp only [List.length_nil] at this
   unfold nrmV fin nrm
   rw [if_neg (by omega), if_neg (by omega)]
  have h1 := check_f l ms ts
  rw [h0] at h1
  refine Ev.congr (fun k => rfl) (Ev.bind h1 ?_)
  refine Ev.congr (fun k => if_pos rfl) (Ev.bind (normal_f hc l hV (by omega)) ?_)
  rw [hr]
  exact Ev.now _
 ·rw [if_neg h0]
  refine Ev.congr (fun k => rfl) (Ev.bind (check_f l ms ts) ?_)
  refine Ev.congr (fun k => if_neg h0) (Ev.now _)
end Go.Proofs.Ytpbhepdgamoiaaa.Pf
namespace Go.Proofs.Ytpbhepdgamoiaaa.Qr
open Go.RowKit Go Go.Proofs.YtpbhepdgamoiaaaW.PrintWords Go.Proofs.YtpbhepdgamoiaaaW.PrintLast Go.Proofs.YtpbhepdgamoiaaaW.PrintMore Go.Proofs.Ytpbhepdgamoiaaa.Ml Go.Proofs.Ytpbhepdgamoiaaa.Mn Go.Proofs.Ytpbhepdgamoiaaa.Nd Go.Proofs.Ytpbhepdgamoiaaa.Pa Go.Proofs.Ytpbhepdgamoiaaa.Pb Go.Proofs.Ytpbhepdgamoiaaa.Rf Go.Proofs.Ytpbhepdgamoiaaa.Er Go.Proofs.Ytpbhepdgamoiaaa.Ek Go.Proofs.Ytpbhepdgamoiaaa.E Go.Proofs.Ytpbhepdgamoiaaa.Pe Go.Proofs.Ytpbhepdgamoiaaa.Pf
set_option linter.unusedVariables false
set_option linter.unusedSimpArgs false
structure RV (b : Bool) (x y : List Int) (q : Rat) (n : Nat) : Prop where
 nx : Nn x
 ny : Nn y
 pos : 0 < dv 1000000000 y
 eq : q = qq (sg b (dv 1000000000 x)) (dv 1000000000 y)
 lx : x.length ≤ n
 ly : y.length ≤ n
theorem RV.mono {b : Bool} {x y : List Int} {q : Rat} {n m : Nat} (h : RV b x y q n) (hm : n ≤ m) : RV b x y q m := ⟨h.nx, h.ny, h.pos, h.eq, Nat.le_trans h.lx hm, Nat.le_trans h.ly hm⟩
theorem RV.x0 {b : Bool} {x y : List Int} {q : Rat} {n : Nat} (h : RV b x y q n) : 0 ≤ dv 1000000000 x := dv_nonneg (by decide) h.nx.dg
def RE (f : Nat → Option (Bool × List Int × List Int)) (q : Rat) (n : Nat) : Prop := ∃ b x y, Ev f (b, x, y) ∧ RV b x y q n
theorem qq_parts {a b : Int} (hb : 0 < b) : ∃ g : Int, 0 < g ∧ a = (qq a b).num * g ∧ b = ((qq a b).den : Int) * g := by
 obtain ⟨h1, h2⟩ := rat_low (a := a) (b := b) (by omega)
 refine ⟨(Int.gcd a b : Nat), ?_, ?_, ?_⟩
 ·have := Int.gcd_pos_of_ne_zero_right a (show b ≠ 0 by omega)
  omega
 ·rw [← h1]
  unfold Ra.ratN Ea.lowN
  rw [if_neg (by omega)]
  exact (Int.ediv_mul_cancel (Int.gcd_dvd_left a b)).symm
 ·rw [← h2]
  unfold Ra.ratD Ea.lowD
  rw [if_neg (by omega)]
  exact (Int.ediv_mul_cancel (Int.gcd_dvd_right a b)).symm
theorem qq_lt {a b c d : Int} (hb : 0 < b) (hd : 0 < d) : qq a b < qq c d ↔ a * d < c * b := by
 obtain ⟨g, hg, e1, e2⟩ := qq_parts (a := a) hb
 obtain ⟨h, hh, e3, e4⟩ := qq_parts (a := c) hd
 rw [Rat.lt_iff]
 generalize (qq a b).num = N1 at *
 generalize ((qq a b).den : Int) = D1 at *
 generalize (qq c d).num = N2 at *
 generalize ((qq c d).den : Int) = D2 at *
 subst e1 e2 e3 e4
 have k1 : N1 * g * (D2 * h) = N1 * D2 * (g * h) := by grind
 have k2 : N2 * h * (D1 * g) = N2 * D1 * (g * h) := by grind
 rw [k1, k2]
 exact (Int.mul_lt_mul_right (Int.mul_pos hg hh)).symm
theorem sumR_f {b1 b2 : Bool} {x1 y1 x2 y2 : List Int} {p q : Rat} {n m : Nat} (h1 : RV b1 x1 y1 p n) (h2 : RV b2 x2 y2 q m) (hl : n + m + 2 ≤ 1000000) : RE (fun k => dioramaref02_Sum.f k b1 x1 y1 b2 x2 y2) (p + q) (n + m + 1) := by
 have l1 := h1.lx
 have l2 := h1.ly
 have l3 := h2.lx
 have l4 := h2.ly
 obtain ⟨u, eu, nu, vu, lu⟩ := times_f x1 y2 h1.nx h2.ny (by omega)
 obtain ⟨v, ev, nv, vv, lv⟩ := times_f x2 y1 h2.nx h1.ny (by omega)
 obtain ⟨y, ey, ny, vy, ly⟩ := times_f y1 y2 h1.ny h2.ny (by omega)
 have hpos : 0 < dv 1000000000 y := by rw [vy]; exact Int.mul_pos h1.pos h2.pos
 have heq : p + q = qq (sg b1 (dv 1000000000 u) + sg b2 (dv 1000000000 v)) (dv 1000000000 y) := by
  have e1 : sg b1 (dv 1000000000 u) = sg b1 (dv 1000000000 x1) * dv 1000000000 y2 := by rw [vu]; cases b1 <;> simp [sg, Int.neg_mul]
  have e2 : sg b2 (dv 1000000000 v) = sg b2 (dv 1000000000 x2) * dv 1000000000 y1 := by rw [vv]; cases b2 <;> simp [sg, Int.neg_mul]
  rw [h1.eq, h2.eq, vy, e1, e2]
  unfold qq
  rw [Rat.divInt_add_divInt _ _ (by have := h1.pos; omega) (by have := h2.pos; omega)]
 by_cases hb : b1 = b2
 ·subst hb
  obtain ⟨s, es, ns, vs, ls⟩ := plus_f u v nu nv (by omega) (by omega)
  refine ⟨b1, s, y, ?_, ⟨ns, ny, hpos, ?_, by omega, by omega⟩⟩
  ·refine Ev.congr (fun k => rfl) (Ev.bind eu (Ev.bind ev (Ev.bind ey ?_)))
   exact Ev.congr (fun k => if_pos (by simp)) (Ev.bind es (Ev.now _))
  ·rw [heq, vs]
   cases b1
   ·simp [sg]
   ·simp [sg, Int.neg_add]
 ·have hc := compare_f u v nu nv (by omega) (by omega)
  have hne : ¬ (b1 == b2) = true := by simpa using hb
  by_cases hle : dv 1000000000 v ≤ dv 1000000000 u
  ·obtain ⟨s, es, ns, vs, ls⟩ := minus_f u v nu nv (by omega) hle
   refine ⟨b1, s, y, ?_, ⟨ns, ny, hpos, ?_, by omega, by omega⟩⟩
   ·refine Ev.congr (fun k => rfl) (Ev.bind eu (Ev.bind ev (Ev.bind ey ?_)))
    refine Ev.congr (fun k => if_neg hne) (Ev.bind hc ?_)
    refine Ev.congr (fun k => if_pos ?_) (Ev.bind es (Ev.now _))
    unfold cmpI
    rw [if_neg (by omega)]
    split <;> decide
   ·rw [heq, vs]
    cases b1 <;> cases b2 <;> simp [sg] at hb ⊢ <;> congr 1 <;> omega
  ·obtain ⟨s, es, ns, vs, ls⟩ := minus_f v u nv nu (by omega) (by omega)
   refine ⟨b2, s, y, ?_, ⟨ns, ny, hpos, ?_, by omega, by omega⟩⟩
   ·refine Ev.congr (fun k => rfl) (Ev.bind eu (Ev.bind ev (Ev.bind ey ?_)))
    refine Ev.congr (fun k => if_neg hne) (Ev.bind hc ?_)
    refine Ev.congr (fun k => if_neg ?_) (Ev.bind es (Ev.now _))
    unfold cmpI
    rw [if_pos (by omega)]
    decide
   ·rw [heq, vs]
    cases b1 <;> cases b2 <;> simp [sg] at hb ⊢ <;> congr 1 <;> omega
theorem RV.neg {b : Bool} {x y : List Int} {q : Rat} {n : Nat} (h : RV b x y q n) : RV (!b) x y (-q) n := by
 refine ⟨h.nx, h.ny, h.pos, ?_, h.lx, h.ly⟩
 rw [h.eq]
 unfold qq
 rw [Rat.neg_divInt]
 congr 1
 cases b <;> simp [sg]
theorem RV.sign {b : Bool} {x y : List Int} {q : Rat} {n : Nat} (h : RV b x y q n) : (b && decide ((x.length : Int) > 0)) = decide (q < 0) := by
 have h0 := h.x0
 have hz := dv_eq_zero (by decide) h.nx
 have hq : q < 0 ↔ sg b (dv 1000000000 x) < 0 := by
  have e : (0 : Rat) = qq 0 1 := by unfold qq; simp
  rw [h.eq, e, qq_lt h.pos (by decide)]
  simp
 rw [Bool.eq_iff_iff]
 simp only [Bool.and_eq_true, decide_eq_true_eq, hq]
 have hl : (x.length : Int) > 0 ↔ dv 1000000000 x ≠ 0 := by
  rw [ne_eq, hz]
  cases x <;> simp
 rw [hl]
 cases b
 ·simp [sg]; omega
 ·simp [sg]; omega
theorem lessR_f {b1 b2 : Bool} {x1 y1 x2 y2 : List Int} {p q : Rat} {n m : Nat} (h1 : RV b1 x1 y1 p n) (h2 : RV b2 x2 y2 q m) (hl : n + m + 2 ≤ 1000000) : Ev (fun k => dioramaref02_Less.f k b1 x1 y1 b2 x2 y2) (decide (p < q)) := by
 obtain ⟨b, x, y, he, hv⟩ := sumR_f h1 h2.neg hl
 have hs := hv.sign
 have e : decide (p + -q < 0) = decide (p < q) := by
  congr 1
  apply propext
  constructor <;> intro h <;> grind
 rw [e] at hs
 refine Ev.congr (fun k => rfl) (Ev.bind he ?_)
 cases b with
 | true =>
  refine Ev.congr (fun k => if_pos rfl) ?_
  rw [← hs]
  exact Ev.now _
 | false =>
  refine Ev.congr (f := fun _ => some false) (fun k => if_neg (by simp)) ?_
  rw [← hs]
  exact Ev.now _
end Go.Proofs.Ytpbhepdgamoiaaa.Qr
namespace Go.Proofs.Ytpbhepdgamoiaaa.Pg
open Go.RowKit Go Go.Proofs.YtpbhepdgamoiaaaW.PrintWords Go.Proofs.YtpbhepdgamoiaaaW.PrintLast Go.Proofs.YtpbhepdgamoiaaaW.PrintMore Go.Proofs.Ytpbhepdgamoiaaa.Mn Go.Proofs.Ytpbhepdgamoiaaa.Rf Go.Proofs.Ytpbhepdgamoiaaa.Er Go.Proofs.Ytpbhepdgamoiaaa.Ek Go.Proofs.Ytpbhepdgamoiaaa.E Go.Proofs.Ytpbhepdgamoiaaa.Pe Go.Proofs.Ytpbhepdgamoiaaa.Pf
set_option linter.unusedVariables false
set_option linter.unusedSimpArgs false
instance : DecidableEq Ed := fun x y =>
 decidable_of_iff (x.f0 = y.f0 ∧ x.f1 = y.f1 ∧ x.f2 = y.f2 ∧ x.f3 = y.f3) ⟨fun h => by cases x; cases y; simp_all, fun h => by subst h; simp⟩
def exL : List Ed := [⟨10, 0, 1, 1⟩, ⟨5, 10, 1, 1⟩]
theorem nrm_ex : nrm 10 10 exL = [⟨15, 0, 1, 1⟩] := by decide +kernel
theorem chk_ex : chk exL 10 10 = 0 := by decide +kernel
theorem awake_f : Ev (fun k => dioramalaw10_awake.f k) true := by
 have h := Normal_f exL 10 10
 unfold norV at h
 rw [if_pos chk_ex, nrm_ex] at h
 refine Ev.congr (fun k => rfl) (Ev.bind h ?_)
 refine Ev.congr (f := fun _ => some true) (fun k => ?_) (Ev.now _)
 rfl
theorem many_f (l : List Ed) : dioramalaw10_many.f l = some (decide (60 < l.length)) := by
 unfold dioramalaw10_many.f
 congr 1
 by_cases h : 60 < l.length
 ·rw [decide_eq_true h, decide_eq_true (by omega)]
 ·rw [decide_eq_false h, decide_eq_false (by omega)]
end Go.Proofs.Ytpbhepdgamoiaaa.Pg
namespace Go.Proofs.Ytpbhepdgamoiaaa.Qn
open Go.RowKit Go Go.Proofs.YtpbhepdgamoiaaaW.PrintWords Go.Proofs.YtpbhepdgamoiaaaW.PrintLast Go.Proofs.YtpbhepdgamoiaaaW.PrintMore Go.Proofs.Ytpbhepdgamoiaaa.Ml Go.Proofs.Ytpbhepdgamoiaaa.Mn Go.Proofs.Ytpbhepdgamoiaaa.Nd Go.Proofs.Ytpbhepdgamoiaaa.Pa Go.Proofs.Ytpbhepdgamoiaaa.Pb Go.Proofs.Ytpbhepdgamoiaaa.Rf Go.Proofs.Ytpbhepdgamoiaaa.Er Go.Proofs.Ytpbhepdgamoiaaa.Ek Go.Proofs.Ytpbhepdgamoiaaa.E Go.Proofs.Ytpbhepdgamoiaaa.Pe Go.Proofs.Ytpbhepdgamoiaaa.Pf Go.Proofs.Ytpbhepdgamoiaaa.Pg Go.Proofs.Ytpbhepdgamoiaaa.Qr
set_option linter.unusedVariables false
set_option linter.unusedSimpArgs false
theorem qq_eq {a b c d : Int} (hb : b ≠ 0) (hd : d ≠ 0) : qq a b = qq c d ↔ a * d = c * b := by
 unfold qq
 exact Rat.divInt_eq_divInt_iff hb hd
end Go.Proofs.Ytpbhepdgamoiaaa.Qn
namespace Go.Proofs.Ytpbhepdgamoiaaa.Qo
open Go.RowKit Go Go.Proofs.YtpbhepdgamoiaaaW.PrintWords Go.Proofs.YtpbhepdgamoiaaaW.PrintLast Go.Proofs.YtpbhepdgamoiaaaW.PrintMore Go.Proofs.Ytpbhepdgamoiaaa.Ml Go.Proofs.Ytpbhepdgamoiaaa.Mn Go.Proofs.Ytpbhepdgamoiaaa.Nd Go.Proofs.Ytpbhepdgamoiaaa.Pa Go.Proofs.Ytpbhepdgamoiaaa.Pb Go.Proofs.Ytpbhepdgamoiaaa.Rf Go.Proofs.Ytpbhepdgamoiaaa.Er Go.Proofs.Ytpbhepdgamoiaaa.Ek Go.Proofs.Ytpbhepdgamoiaaa.E Go.Proofs.Ytpbhepdgamoiaaa.Pe Go.Proofs.Ytpbhepdgamoiaaa.Pf Go.Proofs.Ytpbhepdgamoiaaa.Pg Go.Proofs.Ytpbhepdgamoiaaa.Qr Go.Proofs.Ytpbhepdgamoiaaa.Qn
set_option linter.unusedVariables false
set_option linter.unusedSimpArgs false
theorem RV.int {b : Bool} {x y : List Int} {z : Int} {n : Nat} (h : RV b x y (qq z 1) n) (hy : dv 1000000000 y = 1) : sg b (dv 1000000000 x) = z := by
 have e := h.eq
 rw [hy, qq_eq (by decide) (by decide)] at e
 omega
structure RZ (b : Bool) (x y : List Int) (z : Int) (n : Nat) : Prop where
 nx : Nn x
 ny : Nn y
 y1 : dv 1000000000 y = 1
 eq : sg b (dv 1000000000 x) = z
 lx : x.length ≤ n
 ly : y.length ≤ n
end Go.Proofs.Ytpbhepdgamoiaaa.Qo
namespace Go.Proofs.Ytpbhepdgamoiaaa.Qw
open Go.RowKit Go Go.Proofs.YtpbhepdgamoiaaaW.PrintWords Go.Proofs.YtpbhepdgamoiaaaW.PrintLast Go.Proofs.YtpbhepdgamoiaaaW.PrintMore Go.Proofs.Ytpbhepdgamoiaaa.Ml Go.Proofs.Ytpbhepdgamoiaaa.Mn Go.Proofs.Ytpbhepdgamoiaaa.Nd Go.Proofs.Ytpbhepdgamoiaaa.Pa Go.Proofs.Ytpbhepdgamoiaaa.Pb Go.Proofs.Ytpbhepdgamoiaaa.Pc Go.Proofs.Ytpbhepdgamoiaaa.Rf Go.Proofs.Ytpbhepdgamoiaaa.Er Go.Proofs.Ytpbhepdgamoiaaa.Ek Go.Proofs.Ytpbhepdgamoiaaa.E Go.Proofs.Ytpbhepdgamoiaaa.Pe Go.Proofs.Ytpbhepdgamoiaaa.Pf Go.Proofs.Ytpbhepdgamoiaaa.Qr Go.Proofs.Ytpbhepdgamoiaaa.Qn Go.Proofs.Ytpbhepdgamoiaaa.Ew
set_option linter.unusedVariables false
set_option linter.unusedSimpArgs false
theorem qq_nonneg {a b : Int} (ha : 0 ≤ a) (hb : 0 < b) : ¬ qq a b < 0 := by
 have e : (0 : Rat) = qq 0 1 := by unfold qq; simp
 rw [e, qq_lt hb (by decide)]
 omega
end Go.Proofs.Ytpbhepdgamoiaaa.Qw
namespace Go.Proofs.Ytpbhepdgamoiaaa.Qt
open Go.RowKit Go Go.Proofs.YtpbhepdgamoiaaaW.PrintWords Go.Proofs.YtpbhepdgamoiaaaW.PrintLast Go.Proofs.YtpbhepdgamoiaaaW.PrintMore Go.Proofs.Ytpbhepdgamoiaaa.Ml Go.Proofs.Ytpbhepdgamoiaaa.Mn Go.Proofs.Ytpbhepdgamoiaaa.Nd Go.Proofs.Ytpbhepdgamoiaaa.Pa Go.Proofs.Ytpbhepdgamoiaaa.Pb Go.Proofs.Ytpbhepdgamoiaaa.Pc Go.Proofs.Ytpbhepdgamoiaaa.Rf Go.Proofs.Ytpbhepdgamoiaaa.Er Go.Proofs.Ytpbhepdgamoiaaa.Ek Go.Proofs.Ytpbhepdgamoiaaa.Et Go.Proofs.Ytpbhepdgamoiaaa.E Go.Proofs.Ytpbhepdgamoiaaa.Pe Go.Proofs.Ytpbhepdgamoiaaa.Pf Go.Proofs.Ytpbhepdgamoiaaa.Qr Go.Proofs.Ytpbhepdgamoiaaa.Qn Go.Proofs.Ytpbhepdgamoiaaa.Qw
set_option linter.unusedVariables false
set_option linter.unusedSimpArgs false
end Go.Proofs.Ytpbhepdgamoiaaa.Qt
namespace Go.Proofs.Ytpbhepdgamoiaaa.Qm
open Go.RowKit Go Go.Proofs.YtpbhepdgamoiaaaW.PrintWords Go.Proofs.YtpbhepdgamoiaaaW.PrintLast Go.Proofs.YtpbhepdgamoiaaaW.PrintMore Go.Proofs.Ytpbhepdgamoiaaa.Ml Go.Proofs.Ytpbhepdgamoiaaa.Mn Go.Proofs.Ytpbhepdgamoiaaa.Nd Go.Proofs.Ytpbhepdgamoiaaa.Pa Go.Proofs.Ytpbhepdgamoiaaa.Pb Go.Proofs.Ytpbhepdgamoiaaa.Pc Go.Proofs.Ytpbhepdgamoiaaa.Rf Go.Proofs.Ytpbhepdgamoiaaa.Er Go.Proofs.Ytpbhepdgamoiaaa.Ek Go.Proofs.Ytpbhepdgamoiaaa.Et Go.Proofs.Ytpbhepdgamoiaaa.E Go.Proofs.Ytpbhepdgamoiaaa.Pe Go.Proofs.Ytpbhepdgamoiaaa.Pf Go.Proofs.Ytpbhepdgamoiaaa.Qr Go.Proofs.Ytpbhepdgamoiaaa.Qn Go.Proofs.Ytpbhepdgamoiaaa.Qw Go.Proofs.Ytpbhepdgamoiaaa.Qt
set_option linter.unusedVariables false
set_option linter.unusedSimpArgs false
def RM (w : World) (v : Value) (q : Rat) (n : Nat) : Prop := ∃ (b : Bool) (A1 : Option Addr) (c1 : Nat) (l1 : List Int) (A2 : Option Addr) (c2 : Nat) (l2 : List Int), v = .agg #[.bool b, .slice A1 l1.length c1, .slice A2 l2.length c2] ∧ Kd.V (Kd.int .i64) 3 w 0 (fun _ => True) (.slice A1 l1.length c1) l1 ∧ Kd.V (Kd.int .i64) 3 w 0 (fun _ => True) (.slice A2 l2.length c2) l2 ∧ RV b l1 l2 q n
theorem RM.below {w w' : World} {v : Value} {q : Rat} {n : Nat} (h : RM w v q n) (hb : Below w.heap.size w w') : RM w' v q n := by
 obtain ⟨b, A1, c1, l1, A2, c2, l2, rfl, h1, h2, hv⟩ := h
 exact ⟨b, A1, c1, l1, A2, c2, l2, rfl, Kd.V_below h1 hb, Kd.V_below h2 hb, hv⟩
def RP (w : World) (q : Rat) (n : Nat) (e : Ending) (w' : World) : Prop := ∃ v, e = .returned v ∧ Below w.heap.size w w' ∧ RM w' v q n
theorem RM.of {w : World} {B : Nat} {o1 o2 : Nat → Prop} {b : Bool} {v1 v2 : Value} {x y : List Int} {q : Rat} {n : Nat} (h1 : Kd.R (Kd.int .i64) 3 w B o1 v1 x) (h2 : Kd.R (Kd.int .i64) 3 w B o2 v2 y) (hv : RV b x y q n) : RM w (.agg #[.bool b, v1, v2]) q n := by
 obtain ⟨A1, c1, rfl⟩ := Kd.R_slice h1
 obtain ⟨A2, c2, rfl⟩ := Kd.R_slice h2
 exact ⟨b, A1, c1, x, A2, c2, y, rfl, Kd.V_mono (Kd.R_V h1) (fun _ _ => trivial), Kd.V_mono (Kd.R_V h2) (fun _ _ => trivial), hv⟩
theorem lessM (u v : Value) (p q : Rat) (n m : Nat) (w : World) (h1 : RM w u p n) (h2 : RM w v q m) (hl : n + m + 2 ≤ 1000000) :
  Calls Try.prog 86 #[u, v] w (ValP w (.bool (decide (p < q)))) := by
 obtain ⟨b1, A1, c1, l1, A2, c2, l2, rfl, k1, k2, g1⟩ := h1
 obtain ⟨b3, A3, c3, l3, A4, c4, l4, rfl, k3, k4, g2⟩ := h2
 obtain ⟨k, hk⟩ := (lessR_f g1 g2 hl).rounds
 obtain ⟨-, e1, r1⟩ := Kd.V_reads' k1
 obtain ⟨-, e2, r2⟩ := Kd.V_reads' k2
 obtain ⟨-, e3, r3⟩ := Kd.V_reads' k3
 obtain ⟨-, e4, r4⟩ := Kd.V_reads' k4
 exact dioramaref02_Less.calls k b1 A1 c1 l1 A2 c2 l2 b3 A3 c3 l3 A4 c4 l4 _ w r1 e1 r2 e2 r3 e3 r4 e4 hk
theorem ratOf_f (n d : Int) (hn : -9223372036854775807 ≤ n) (hn1 : n ≤ 9223372036854775807) (hd : 0 < d) (hd1 : d ≤ 9223372036854775807) : RE (fun k => dioramaref02_RatOf.f k n d) (qq n d) 3 := by
 obtain ⟨y, ey, ny, vy, ly⟩ := of_f d (by omega) hd1
 by_cases h : n < 0
 ·obtain ⟨x, ex, nx, vx, lx⟩ := of_f (-n) (by omega) (by omega)
  have hs : Ev (fun k => dioramaref02_size.f k n) x := by
   refine Ev.congr (fun k => if_pos h) ?_
   rw [w64 (by omega) (by omega)]
   exact Ev.bind ex (Ev.now _)
  refine ⟨decide (n < 0), x, y, Ev.congr (fun k => rfl) (Ev.bind hs (Ev.bind ey (Ev.now _))), ⟨nx, ny, by rw [vy]; exact hd, ?_, lx, ly⟩⟩
  rw [vx, vy, decide_eq_true h]
  simp [sg]
 ·obtain ⟨x, ex, nx, vx, lx⟩ := of_f n (by omega) hn1
  have hs : Ev (fun k => dioramaref02_size.f k n) x := Ev.congr (fun k => if_neg h) (Ev.bind ex (Ev.now _))
  refine ⟨decide (n < 0), x, y, Ev.congr (fun k => rfl) (Ev.bind hs (Ev.bind ey (Ev.now _))), ⟨nx, ny, by rw [vy]; exact hd, ?_, lx, ly⟩⟩
  rw [vx, vy, decide_eq_false h]
  simp [sg]
theorem ratOfM (n d : Int) (w : World) (hn : -9223372036854775807 ≤ n) (hn1 : n ≤ 9223372036854775807) (hd : 0 < d) (hd1 : d ≤ 9223372036854775807) :
  Calls Try.prog 85 #[.agg #[.int .i64 n, .int .i64 d]] w (RP w (qq n d) 3) := by
 obtain ⟨b, x, y, he, hv⟩ := ratOf_f n d hn hn1 hd hd1
 obtain ⟨k, hk⟩ := he.rounds
 refine (dioramaref02_RatOf.calls k n d b x y w hk).mono ?_
 rintro e w' ⟨v1, v2, rfl, h1, h2, hb⟩
 exact ⟨_, rfl, hb, RM.of h1 h2 hv⟩
def ratO (b : Bool) (u v : Value) : Obj := .cells #[.bool b, u, v] 95 (0, 0)
theorem rat_cells {w : World} {g : Nat} {b : Bool} {u v : Value} (h : w.heap[g]? = some (ratO b u v)) : w.cell? ⟨g, 0, none⟩ = some (.bool b) ∧ w.cell? ⟨g, 1, none⟩ = some u ∧ w.cell? ⟨g, 2, none⟩ = some v ∧ w.frozen? ⟨g, 0, none⟩ = false ∧ w.frozen? ⟨g, 1, none⟩ = false ∧ w.frozen? ⟨g, 2, none⟩ = false :=
 ⟨(blk_cell h 0).trans rfl, (blk_cell h 1).trans rfl, (blk_cell h 2).trans rfl, blk_frozen h 0, blk_frozen h 1, blk_frozen h 2⟩
theorem blk_three {w : World} {g : Nat} {t : TypeId} {a b c x y z : Value} (h : w.heap[g]? = some (.cells #[a, b, c] t (0, 0))) : (((w.setCell ⟨g, 0, none⟩ x).setCell ⟨g, 1, none⟩ y).setCell ⟨g, 2, none⟩ z).heap[g]? = some (.cells #[x, y, z] t (0, 0)) :=
 blk_put (cs := #[x, y, c]) (blk_put (cs := #[x, b, c]) (blk_put (cs := #[a, b, c]) h 0 x rfl) 1 y rfl) 2 z rfl
end Go.Proofs.Ytpbhepdgamoiaaa.Qm
namespace Go.Proofs.Ytpbhepdgamoiaaa.Qp
open Go.RowKit Go Go.Proofs.YtpbhepdgamoiaaaW.PrintWords Go.Proofs.YtpbhepdgamoiaaaW.PrintLast Go.Proofs.YtpbhepdgamoiaaaW.PrintMore Go.Proofs.Ytpbhepdgamoiaaa.Ml Go.Proofs.Ytpbhepdgamoiaaa.Mn Go.Proofs.Ytpbhepdgamoiaaa.Nd Go.Proofs.Ytpbhepdgamoiaaa.Pa Go.Proofs.Ytpbhepdgamoiaaa.Pb Go.Proofs.Ytpbhepdgamoiaaa.Rf Go.Proofs.Ytpbhepdgamoiaaa.Er Go.Proofs.Ytpbhepdgamoiaaa.Ek Go.Proofs.Ytpbhepdgamoiaaa.E Go.Proofs.Ytpbhepdgamoiaaa.Pe Go.Proofs.Ytpbhepdgamoiaaa.Pf Go.Proofs.Ytpbhepdgamoiaaa.Pg Go.Proofs.Ytpbhepdgamoiaaa.Qr Go.Proofs.Ytpbhepdgamoiaaa.Qn Go.Proofs.Ytpbhepdgamoiaaa.Qo
set_option linter.unusedVariables false
set_option linter.unusedSimpArgs false
end Go.Proofs.Ytpbhepdgamoiaaa.Qp
namespace Go.Proofs.Ytpbhepdgamoiaaa.Rm
open Go.RowKit Go Go.Proofs.YtpbhepdgamoiaaaW.PrintWords Go.Proofs.YtpbhepdgamoiaaaW.PrintLast Go.Proofs.YtpbhepdgamoiaaaW.PrintMore Go.Proofs.Ytpbhepdgamoiaaa.Ml Go.Proofs.Ytpbhepdgamoiaaa.Mn Go.Proofs.Ytpbhepdgamoiaaa.Nd Go.Proofs.Ytpbhepdgamoiaaa.Z Go.Proofs.Ytpbhepdgamoiaaa.Rf Go.Proofs.Ytpbhepdgamoiaaa.Er Go.Proofs.Ytpbhepdgamoiaaa.Ek Go.Proofs.Ytpbhepdgamoiaaa.Et Go.Proofs.Ytpbhepdgamoiaaa.E Go.Proofs.Ytpbhepdgamoiaaa.Pe Go.Proofs.Ytpbhepdgamoiaaa.Pf Go.Proofs.Ytpbhepdgamoiaaa.Qr Go.Proofs.Ytpbhepdgamoiaaa.Qn Go.Proofs.Ytpbhepdgamoiaaa.Qp Go.Proofs.Ytpbhepdgamoiaaa.Qw Go.Proofs.Ytpbhepdgamoiaaa.Qt Go.Proofs.Ytpbhepdgamoiaaa.Qm
set_option linter.unusedVariables false
set_option linter.unusedSimpArgs false
theorem rvalid_f (n d : Int) : dioramaref02_Valid.f n d = some (Ea.valid n d) := by
 unfold dioramaref02_Valid.f Ea.valid
 by_cases h1 : d ≥ 1
 ·rw [if_pos h1, decide_eq_true (show 1 ≤ d from h1)]
  by_cases h2 : d ≤ 1152921504606846976
  ·rw [if_pos h2, decide_eq_true h2]
   by_cases h3 : n ≥ -1152921504606846976
   ·rw [if_pos h3, decide_eq_true (show -1152921504606846976 ≤ n from h3)]
    rfl
   ·rw [if_neg h3, decide_eq_false (show ¬ -1152921504606846976 ≤ n from h3)]
    rfl
  ·rw [if_neg h2, decide_eq_false h2]
   rfl
 ·rw [if_neg h1, decide_eq_false (show ¬ 1 ≤ d from h1)]
  rfl
theorem rvalid_n (n d : Int) (w : World) : Calls Try.prog 35 #[.agg #[.int .i64 n, .int .i64 d]] w (ValP w (.bool (Ea.valid n d))) :=
 dioramaref02_Valid.calls n d _ w (rvalid_f n d)
structure My (w W : World) (n d : Int) (gz gt : Nat) (v : Bool × Value × Value) (q : Rat) : Prop where
 a : W.heap[w.heap.size]? = some (timeObj n d)
 r : W.heap[w.heap.size + 1]? = some (timeObj 0 0)
 z : W.heap[gz]? = some (timeObj 0 1)
 t : W.heap[gt]? = some (ratO v.1 v.2.1 v.2.2)
 m : RM W (.agg #[.bool v.1, v.2.1, v.2.2]) q 3
 below : Below w.heap.size w W
theorem My.step {w W W2 : World} {n d : Int} {gz gt : Nat} {v : Bool × Value × Value} {q : Rat} (h : My w W n d gz gt v q) (hb : Below W.heap.size W W2) : My w W2 n d gz gt v q :=
 ⟨blk_below h.a hb, blk_below h.r hb, blk_below h.z hb, blk_below h.t hb, h.m.below hb, h.below.trans (hb.mono h.below.size)⟩
structure My0 (w W : World) (n d : Int) : Prop where
 a : W.heap[w.heap.size]? = some (timeObj n d)
 r : W.heap[w.heap.size + 1]? = some (timeObj 0 0)
 below : Below w.heap.size w W
theorem My0.step {w W W2 : World} {n d : Int} (h : My0 w W n d) (hb : Below W.heap.size W W2) : My0 w W2 n d := ⟨blk_below h.a hb, blk_below h.r hb, h.below.trans (hb.mono h.below.size)⟩
theorem My0.start (w : World) (n d : Int) : My0 w ((w.alloc (timeObj n d)).alloc (timeObj 0 0)) n d := by
 have e1 : (w.alloc (timeObj n d)).heap.size = w.heap.size + 1 := by simp
 have k2 := blk_new (w.alloc (timeObj n d)) (timeObj 0 0)
 rw [e1] at k2
 exact ⟨blk_alloc (blk_new w _) _, k2, below_alloc (below_alloc (Below.refl _ w) _) _⟩
theorem lessM_t (u v : Value) (p q : Rat) (n m : Nat) (w : World) (h1 : RM w u p n) (h2 : RM w v q m) (hl : n + m + 2 ≤ 1000000) (h : p < q) :
  Calls Try.prog 86 #[u, v] w (ValP w (.bool true)) := by
 have := lessM u v p q n m w h1 h2 hl
 rwa [decide_eq_true h] at this
theorem lessM_f (u v : Value) (p q : Rat) (n m : Nat) (w : World) (h1 : RM w u p n) (h2 : RM w v q m) (hl : n + m + 2 ≤ 1000000) (h : ¬ p < q) :
  Calls Try.prog 86 #[u, v] w (ValP w (.bool false)) := by
 have := lessM u v p q n m w h1 h2 hl
 rwa [decide_eq_false h] at this
structure My1 (w W : World) (n d : Int) (gz : Nat) : Prop where
 a : W.heap[w.heap.size]? = some (timeObj n d)
 r : W.heap[w.heap.size + 1]? = some (timeObj 0 0)
 z : W.heap[gz]? = some (timeObj 0 1)
 below : Below w.heap.size w W
theorem My1.step {w W W2 : World} {n d : Int} {gz : Nat} (h : My1 w W n d gz) (hb : Below W.heap.size W W2) : My1 w W2 n d gz := ⟨blk_below h.a hb, blk_below h.r hb, blk_below h.z hb, h.below.trans (hb.mono h.below.size)⟩
theorem My1.start {w W : World} {n d : Int} (h : My0 w W n d) : My1 w (W.alloc (timeObj 0 1)) n d W.heap.size :=
 ⟨blk_alloc h.a _, blk_alloc h.r _, blk_new W _, h.below.trans ((below_alloc (Below.refl W.heap.size W) _).mono h.below.size)⟩
theorem My.start {w W : World} {n d : Int} {gz : Nat} {b : Bool} {u v : Value} {q : Rat} (h : My1 w W n d gz) (hm : RM W (.agg #[.bool b, u, v]) q 3) : My w (W.alloc (ratO b u v)) n d gz W.heap.size (b, u, v) q :=
 ⟨blk_alloc h.a _, blk_alloc h.r _, blk_alloc h.z _, blk_new W _, hm.below (below_alloc (Below.refl _ W) _), h.below.trans ((below_alloc (Below.refl W.heap.size W) _).mono h.below.size)⟩
theorem My.cells {w W : World} {n d : Int} {gz gt : Nat} {b : Bool} {u v : Value} {q : Rat} (h : My w W n d gz gt (b, u, v) q) : W.cell? ⟨gt, 0, none⟩ = some (.bool b) ∧ W.cell? ⟨gt, 1, none⟩ = some u ∧ W.cell? ⟨gt, 2, none⟩ = some v := ⟨(rat_cells h.t).1, (rat_cells h.t).2.1, (rat_cells h.t).2.2.1⟩
theorem RM.form {w : World} {v : Value} {q : Rat} {n : Nat} (h : RM w v q n) : ∃ b A1 k1 c1 A2 k2 c2, v = .agg #[.bool b, .slice A1 k1 c1, .slice A2 k2 c2] := by
 obtain ⟨b, A1, c1, l1, A2, c2, l2, rfl, _⟩ := h
 exact ⟨_, _, _, _, _, _, _, rfl⟩
end Go.Proofs.Ytpbhepdgamoiaaa.Rm
namespace Go.Proofs.Ytpbhepdgamoiaaa.E
open Go.RowKit Go Go.Proofs.YtpbhepdgamoiaaaW.PrintWords Go.Proofs.YtpbhepdgamoiaaaW.PrintLast Go.Proofs.YtpbhepdgamoiaaaW.PrintMore Go.Proofs.Ytpbhepdgamoiaaa.Et Go.Proofs.Ytpbhepdgamoiaaa.Pe
end Go.Proofs.Ytpbhepdgamoiaaa.E
namespace Go.Proofs.Ytpbhepdgamoiaaa.Rcm
open Go.RowKit Go Go.Proofs.YtpbhepdgamoiaaaW.PrintWords Go.Proofs.YtpbhepdgamoiaaaW.PrintLast Go.Proofs.YtpbhepdgamoiaaaW.PrintMore Go.Proofs.Ytpbhepdgamoiaaa.Ml Go.Proofs.Ytpbhepdgamoiaaa.Mn Go.Proofs.Ytpbhepdgamoiaaa.Nd Go.Proofs.Ytpbhepdgamoiaaa.Z Go.Proofs.Ytpbhepdgamoiaaa.Rf Go.Proofs.Ytpbhepdgamoiaaa.Er Go.Proofs.Ytpbhepdgamoiaaa.Ek Go.Proofs.Ytpbhepdgamoiaaa.Et Go.Proofs.Ytpbhepdgamoiaaa.E Go.Proofs.Ytpbhepdgamoiaaa.Pe Go.Proofs.Ytpbhepdgamoiaaa.Pf Go.Proofs.Ytpbhepdgamoiaaa.Qr Go.Proofs.Ytpbhepdgamoiaaa.Qn Go.Proofs.Ytpbhepdgamoiaaa.Qp Go.Proofs.Ytpbhepdgamoiaaa.Qw Go.Proofs.Ytpbhepdgamoiaaa.Qt Go.Proofs.Ytpbhepdgamoiaaa.Qm Go.Proofs.Ytpbhepdgamoiaaa.Rm
set_option linter.unusedVariables false
set_option linter.unusedSimpArgs false
def cmpV (n d n' d' : Int) : Int × Int := if Ea.valid n d = true ∧ Ea.valid n' d' = true then (cmpQ (qq n d) (qq n' d'), 0) else (0, 4)
structure Mc (w W : World) (n d n' d' : Int) : Prop where
 a : W.heap[w.heap.size]? = some (timeObj n d)
 b : W.heap[w.heap.size + 1]? = some (timeObj n' d')
 below : Below w.heap.size w W
theorem Mc.step {w W W2 : World} {n d n' d' : Int} (h : Mc w W n d n' d') (hb : Below W.heap.size W W2) : Mc w W2 n d n' d' := ⟨blk_below h.a hb, blk_below h.b hb, h.below.trans (hb.mono h.below.size)⟩
theorem Mc.start (w : World) (n d n' d' : Int) : Mc w ((w.alloc (timeObj n d)).alloc (timeObj n' d')) n d n' d' := by
 have e1 : (w.alloc (timeObj n d)).heap.size = w.heap.size + 1 := by simp
 have k2 := blk_new (w.alloc (timeObj n d)) (timeObj n' d')
 rw [e1] at k2
 exact ⟨blk_alloc (blk_new w _) _, k2, below_alloc (below_alloc (Below.refl _ w) _) _⟩
theorem valid_rng {n d : Int} (h : Ea.valid n d = true) : ((-9223372036854775807 ≤ n ∧ n ≤ 9223372036854775807)) ∧ 0 < d ∧ d ≤ 9223372036854775807 := by
 unfold Ea.valid at h
 simp only [Bool.and_eq_true, decide_eq_true_eq] at h
 omega
theorem ratOfM2 (n d : Int) (w : World) (hn : -9223372036854775807 ≤ n) (hn1 : n ≤ 9223372036854775807) (hd : 0 < d) (hd1 : d ≤ 9223372036854775807) :
  Calls Try.prog 85 #[.agg #[.int .i64 n, .int .i64 d]] w (fun e w' => ∃ b A1 k1 c1 A2 k2 c2, e = .returned (.agg #[.bool b, .slice A1 k1 c1, .slice A2 k2 c2]) ∧ Below w.heap.size w w' ∧ RM w' (.agg #[.bool b, .slice A1 k1 c1, .slice A2 k2 c2]) (qq n d) 3) := by
 refine (ratOfM n d w hn hn1 hd hd1).mono ?_
 rintro e w' ⟨v, rfl, hb, hm⟩
 obtain ⟨b, A1, k1, c1, A2, k2, c2, rfl⟩ := RM.form hm
 exact ⟨b, A1, k1, c1, A2, k2, c2, rfl, hb, hm⟩
theorem rat_other {w : World} {g g' : Nat} {x y z : Value} {o : Obj} (h : w.heap[g]? = some o) (hne : g ≠ g') : (((w.setCell ⟨g', 0, none⟩ x).setCell ⟨g', 1, none⟩ y).setCell ⟨g', 2, none⟩ z).heap[g]? = some o := set_other (set_other (set_other h hne) hne) hne
theorem V_set {W : World} {e b : Nat} {v : Value} {xs : List Int} (h : Kd.V (Kd.int .i64) e W b (fun _ => True) v xs) {g : Nat} {cs : Array Value} {t : TypeId} (hg : W.heap[g]? = some (.cells cs t (0, 0))) (hcs : ∀ (i : Nat) (z : Int), cs[i]? ≠ some (.int .i64 z)) (o : Nat) (u : Value) : Kd.V (Kd.int .i64) e (W.setCell ⟨g, o, none⟩ u) b (fun _ => True) v xs := by
 obtain ⟨A, c, rfl, hl, hF⟩ := h
 have hC := Kd.F_now hF
 refine ⟨A, c, rfl, hl, Kd.F_mono (Kd.C_F (Kd.heap_int .i64) ⟨hC.1, hC.2.1, fun hn => ?_⟩) (fun _ _ => trivial)⟩
 obtain ⟨ad, he, hc⟩ := hC.2.2 hn
 refine ⟨ad, he, fun j p hj => ?_⟩
 obtain ⟨c', hs, hr, hcell⟩ := hc j p hj
 refine ⟨c', hs, hr, fun i u' hu => ?_⟩
 have h1 := hcell i u' hu
 refine (cell_far (fun hb => ?_) u).trans h1
 have hr' : c' = [Value.int .i64 p] := hr
 rw [hr'] at hu
 have hu2 : u' = .int .i64 p := by
  cases i with
  | zero => exact (Option.some.inj hu).symm
  | succ i => cases hu
 rw [hu2] at h1
 generalize ad.add (j * (Kd.int .i64).sz + i) = a at h1 hb
 obtain ⟨ab, ao, ap⟩ := a
 simp only at hb
 subst hb
 cases ap with
 | none =>
  have := (blk_cell hg ao).symm.trans h1
  exact hcs _ _ this
 | some x =>
  simp [World.cell?, hg] at h1
theorem RM.set {W : World} {v : Value} {q : Rat} {n g o : Nat} {cs : Array Value} {t : TypeId} {u : Value} (h : RM W v q n) (hg : W.heap[g]? = some (.cells cs t (0, 0))) (hcs : ∀ (i : Nat) (z : Int), cs[i]? ≠ some (.int .i64 z)) : RM (W.setCell ⟨g, o, none⟩ u) v q n := by
 obtain ⟨b, A1, c1, l1, A2, c2, l2, rfl, h1, h2, hv⟩ := h
 exact ⟨b, A1, c1, l1, A2, c2, l2, rfl, V_set h1 hg hcs o u, V_set h2 hg hcs o u, hv⟩
theorem no_int {b : Bool} {A1 A2 : Option Addr} {k1 c1 k2 c2 : Nat} (i : Nat) (z : Int) : (#[Value.bool b, .slice A1 k1 c1, .slice A2 k2 c2] : Array Value)[i]? ≠ some (.int .i64 z) := by
 rcases i with _ | _ | _ | i <;> simp
theorem RM.set3 {W : World} {v : Value} {q : Rat} {n g : Nat} {b0 b : Bool} {A0 A1 A2 A3 : Option Addr} {j0 e0 j1 e1 k1 c1 k2 c2 : Nat} {t : TypeId} (h : RM W v q n) (hg : W.heap[g]? = some (.cells #[.bool b0, .slice A0 j0 e0, .slice A3 j1 e1] t (0, 0))) : RM (((W.setCell ⟨g, 0, none⟩ (.bool b)).setCell ⟨g, 1, none⟩ (.slice A1 k1 c1)).setCell ⟨g, 2, none⟩ (.slice A2 k2 c2)) v q n :=
 RM.set (RM.set (RM.set h hg no_int) (blk_put hg 0 (.bool b) rfl) no_int) (blk_put (cs := #[.bool b, .slice A0 j0 e0, .slice A3 j1 e1]) (blk_put hg 0 (.bool b) rfl) 1 (.slice A1 k1 c1) rfl) no_int
set_option maxHeartbeats 16000000 in
set_option maxRecDepth 100000 in
theorem rCmp_n (n d n' d' : Int) (w : World) : Calls Try.prog 45 #[.agg #[.int .i64 n, .int .i64 d], .agg #[.int .i64 n', .int .i64 d']] w (ValP w (.tuple #[.int .i64 (cmpV n d n' d').1, .int .i64 (cmpV n d n' d').2])) := by
 have hu2 := Try.underlying37
 have hu3 := Try.underlying95
 have HV := Aside0.mk (show cmpV n d n' d' = if Ea.valid n d = true ∧ Ea.valid n' d' = true then (cmpQ (qq n d) (qq n' d'), 0) else (0, 4) from rfl)
 generalize cmpV n d n' d' = V at *
 have hM := Aside0.mk (Mc.start w n d n' d')
 go_enter Try.func45, Try.ntmps45
 obtain ⟨p0, p1, f0, f1⟩ := time_cells hM.out.a
 go_wp2_with fail
 generalize hW : World.alloc (World.alloc _ _) _ = W
 have HM := Aside0.mk (show Mc w W n d n' d' by rw [← hW]; exact hM.out)
 clear hW hM p0 p1 f0 f1
 refine (rvalid_n n d W).mono ?_
 rintro e w2 ⟨rfl, hb2⟩
 have HM2 := Aside0.mk (HM.out.step hb2)
 clear hb2 HM
 cases h1 : Ea.valid n d with
 | false =>
  have HV2 := Aside0.mk (show V = (0, 4) by rw [HV.out, if_neg (by rw [h1]; simp)])
  clear HV h1
  go_wp2_with fail
  go_ret2
  rw [HV2.out]
  exact ⟨rfl, HM2.out.below⟩
 | true =>
  obtain ⟨p0, p1, f0, f1⟩ := time_cells HM2.out.b
  go_wp2_with fail
  refine (rvalid_n n' d' w2).mono ?_
  rintro e w3 ⟨rfl, hb3⟩
  have HM3 := Aside0.mk (HM2.out.step hb3)
  clear hb3 HM2 p0 p1 f0 f1
  cases h2 : Ea.valid n' d' with
  | false =>
   have HV2 := Aside0.mk (show V = (0, 4) by rw [HV.out, if_neg (by rw [h2]; simp)])
   clear HV h1 h2
   go_wp2_with fail
   go_ret2
   rw [HV2.out]
   exact ⟨rfl, HM3.out.below⟩
  | true =>
   have HV2 := Aside0.mk (show V = (cmpQ (qq n d) (qq n' d'), 0) by rw [HV.out, if_pos ⟨h1, h2⟩])
   have HR := Aside0.mk (And.intro (valid_rng h1) (valid_rng h2))
   clear HV h1 h2
   obtain ⟨c0, c1, _, _⟩ := time_cells HM3.out.a
   obtain ⟨c2, c3, _, _⟩ := time_cells HM3.out.b
   go_wp2_with fail
   refine start_ (n := 8) (S := fun w' => w'.cell? ⟨w.heap.size, 0, none⟩ = some (.int .i64 n) ∧ w'.cell? ⟨w.heap.size, 1, none⟩ = some (.int .i64 d) ∧ w'.cell? ⟨w.heap.size + 1, 0, none⟩ = some (.int .i64 n') ∧ w'.cell? ⟨w.heap.size + 1, 1, none⟩ = some (.int .i64 d')) (ds := [6, 7]) (bs 8 0) (by kernel_rfl) rfl rfl ⟨c0, c1, c2, c3⟩ (fun hHeld => ?_)
   refine zT 0 16 8 1 hHeld ?_
   refine zT 2 18 8 5 hHeld ?_
   refine join_ (σ := Bool × Option Addr × Nat × Nat × Option Addr × Nat × Nat × Bool × Option Addr × Nat × Nat × Option Addr × Nat × Nat × Nat × Nat) 2 (bs 8 63) (fun ⟨b1, A1, k1, e1, A2, k2, e2, b3, A3, k3, e3, A4, k4, e4, g4, g5⟩ => [(17, .agg #[.bool b1, .slice A1 k1 e1, .slice A2 k2 e2]), (19, .agg #[.bool b3, .slice A3 k3 e3, .slice A4 k4 e4]), (6, .pointer (some ⟨g4, 0, none⟩)), (7, .pointer (some ⟨g5, 0, none⟩))]) (fun ⟨b1, A1, k1, e1, A2, k2, e2, b3, A3, k3, e3, A4, k4, e4, g4, g5⟩ w' => Below w3.heap.size w3 w' ∧ (RM w' (.agg #[.bool b1, .slice A1 k1 e1, .slice A2 k2 e2]) (qq n d) 3) ∧ (RM w' (.agg #[.bool b3, .slice A3 k3 e3, .slice A4 k4 e4]) (qq n' d') 3) ∧ (w3.heap.size ≤ g4 ∧ w'.heap[g4]? = some (.cells #[.bool false, .slice none 0 0, .slice none 0 0] 95)) ∧ (w3.heap.size ≤ g5 ∧ w'.heap[g5]? = some (.cells #[.bool false, .slice none 0 0, .slice none 0 0] 95)) ∧ (g4 ≠ g5)) ?_ (fun hq_1_3_4_5 => ?_)
   rotate_left
   ·
    refine join_ (σ := Bool × Option Addr × Nat × Nat × Option Addr × Nat × Nat × Bool × Option Addr × Nat × Nat × Option Addr × Nat × Nat × Nat × Nat) 3 (bs 8 55) (fun ⟨b1, A1, k1, e1, A2, k2, e2, _, _, _, _, _, _, _, g4, g5⟩ => [(17, .agg #[.bool b1, .slice A1 k1 e1, .slice A2 k2 e2]), (6, .pointer (some ⟨g4, 0, none⟩)), (7, .pointer (some ⟨g5, 0, none⟩))]) (fun ⟨b1, A1, k1, e1, A2, k2, e2, _, _, _, _, _, _, _, g4, g5⟩ w' => Below w3.heap.size w3 w' ∧ (RM w' (.agg #[.bool b1, .slice A1 k1 e1, .slice A2 k2 e2]) (qq n d) 3) ∧ (w3.heap.size ≤ g4 ∧ w'.heap[g4]? = some (.cells #[.bool false, .slice none 0 0, .slice none 0 0] 95)) ∧ (w3.heap.size ≤ g5 ∧ w'.heap[g5]? = some (.cells #[.bool false, .slice none 0 0, .slice none 0 0] 95)) ∧ (g4 ≠ g5)) ?_ (fun hq_1_4_5 => ?_)
    ·rintro ⟨b1, A1, k1, e1, A2, k2, e2, b3, A3, k3, e3, A4, k4, e4, g4, g5⟩ w' ⟨hB, f1, f4, f5, ne4_5⟩
     refine norm_ (a' := ?_) ?_ ?_; rotate_left; (· simp only [putAll, Act.put, List.setIfInBounds_toArray, List.set_cons_zero, List.set_cons_succ, i64_w, i32_w]; rfl)
     refine one_ (i := 3) (N := some 19) (bs 8 63) rfl rfl (by kernel_rfl) (by decide) (fun K hK => ?_)
     ·
      refine goes_ Try.func85 (by kernel_rfl) rfl #[.agg #[.int .i64 n', .int .i64 d']] (by rfl) rfl rfl (by simp only [List.map_toArray, List.map_cons, List.map_nil]; rfl) ?_
      with_reducible refine (ratOfM2 n' d' w' HR.out.2.1.1 HR.out.2.1.2 HR.out.2.2.1 HR.out.2.2.2).mono ?_
      rintro e w9 ⟨b3, A3, k3, e3, A4, k4, e4, rfl, hb9, n3⟩
      refine ⟨_, rfl, ?_⟩
      have hB9 := hB.trans (hb9.mono hB.size)
      refine hK.out _ _ ⟨pw_cell_below hB9 c0, pw_cell_below hB9 c1, pw_cell_below hB9 c2, pw_cell_below hB9 c3⟩ (fun hHeld => ?_)
      clear hK K
      refine norm_ ?_ (hq_1_3_4_5 ⟨b1, A1, k1, e1, A2, k2, e2, b3, A3, k3, e3, A4, k4, e4, g4, g5⟩ _ ⟨hB9, f1.below hb9, n3, ⟨f4.1, blk_below f4.2 hb9⟩, ⟨f5.1, blk_below f5.2 hb9⟩, ne4_5⟩); (· simp only [putAll, Act.put, List.setIfInBounds_toArray, List.set_cons_zero, List.set_cons_succ, i64_w, i32_w])
    refine join_ (σ := Bool × Option Addr × Nat × Nat × Option Addr × Nat × Nat × Bool × Option Addr × Nat × Nat × Option Addr × Nat × Nat × Nat × Nat) 3 (bs 8 47) (fun ⟨b1, A1, k1, e1, A2, k2, e2, b3, A3, k3, e3, A4, k4, e4, _, g5⟩ => [(17, .agg #[.bool b1, .slice A1 k1 e1, .slice A2 k2 e2]), (19, .agg #[.bool b3, .slice A3 k3 e3, .slice A4 k4 e4]), (7, .pointer (some ⟨g5, 0, none⟩))]) (fun ⟨b1, A1, k1, e1, A2, k2, e2, b3, A3, k3, e3, A4, k4, e4, _, g5⟩ w' => Below w3.heap.size w3 w' ∧ (RM w' (.agg #[.bool b1, .slice A1 k1 e1, .slice A2 k2 e2]) (qq n d) 3) ∧ (RM w' (.agg #[.bool b3, .slice A3 k3 e3, .slice A4 k4 e4]) (qq n' d') 3) ∧ (w3.heap.size ≤ g5 ∧ w'.heap[g5]? = some (.cells #[.bool false, .slice none 0 0, .slice none 0 0] 95))) ?_ (fun hq_1_3_5 => ?_)
    ·rintro ⟨b1, A1, k1, e1, A2, k2, e2, b3, A3, k3, e3, A4, k4, e4, g4, g5⟩ w' ⟨hB, f1, f3, f5⟩
     refine norm_ (a' := ?_) ?_ ?_; rotate_left; (· simp only [putAll, Act.put, List.setIfInBounds_toArray, List.set_cons_zero, List.set_cons_succ, i64_w, i32_w]; rfl)
     refine one_ (i := 4) (N := some 6) (bs 8 63) rfl rfl (by kernel_rfl) (by decide) (fun K hK => ?_)
     ·
      refine value_ (v := .pointer (some ⟨w'.heap.size, 0, none⟩)) (w1 := w'.alloc (.cells #[.bool false, .slice none 0 0, .slice none 0 0] 95)) (by rfl) rfl ?_ ?_
      ·go_simp
      have hb9 : Below w'.heap.size w' (w'.alloc (.cells #[.bool false, .slice none 0 0, .slice none 0 0] 95)) := below_alloc (Below.refl _ _) _
      have n4 := blk_new w' (.cells #[.bool false, .slice none 0 0, .slice none 0 0] 95)
      have hB9 := hB.trans (hb9.mono hB.size)
      refine hK.out _ _ ⟨pw_cell_below hB9 c0, pw_cell_below hB9 c1, pw_cell_below hB9 c2, pw_cell_below hB9 c3⟩ (fun hHeld => ?_)
      clear hK K
      refine norm_ ?_ (hq_1_3_4_5 ⟨b1, A1, k1, e1, A2, k2, e2, b3, A3, k3, e3, A4, k4, e4, w'.heap.size, g5⟩ _ ⟨hB9, f1.below hb9, f3.below hb9, ⟨hB.size, n4⟩, ⟨f5.1, blk_below f5.2 hb9⟩, (by have := lt_of_some f5.2; omega)⟩); (· simp only [putAll, Act.put, List.setIfInBounds_toArray, List.set_cons_zero, List.set_cons_succ, i64_w, i32_w])
    refine join_ (σ := Bool × Option Addr × Nat × Nat × Option Addr × Nat × Nat × Bool × Option Addr × Nat × Nat × Option Addr × Nat × Nat × Nat × Nat) 3 (bs 8 31) (fun ⟨b1, A1, k1, e1, A2, k2, e2, b3, A3, k3, e3, A4, k4, e4, g4, _⟩ => [(17, .agg #[.bool b1, .slice A1 k1 e1, .slice A2 k2 e2]), (19, .agg #[.bool b3, .slice A3 k3 e3, .slice A4 k4 e4]), (6, .pointer (some ⟨g4, 0, none⟩))]) (fun ⟨b1, A1, k1, e1, A2, k2, e2, b3, A3, k3, e3, A4, k4, e4, g4, _⟩ w' => Below w3.heap.size w3 w' ∧ (RM w' (.agg #[.bool b1, .slice A1 k1 e1, .slice A2 k2 e2]) (qq n d) 3) ∧ (RM w' (.agg #[.bool b3, .slice A3 k3 e3, .slice A4 k4 e4]) (qq n' d') 3) ∧ (w3.heap.size ≤ g4 ∧ w'.heap[g4]? = some (.cells #[.bool false, .slice none 0 0, .slice none 0 0] 95))) ?_ (fun hq_1_3_4 => ?_)
    ·rintro ⟨b1, A1, k1, e1, A2, k2, e2, b3, A3, k3, e3, A4, k4, e4, g4, g5⟩ w' ⟨hB, f1, f3, f4⟩
     refine norm_ (a' := ?_) ?_ ?_; rotate_left; (· simp only [putAll, Act.put, List.setIfInBounds_toArray, List.set_cons_zero, List.set_cons_succ, i64_w, i32_w]; rfl)
     refine one_ (i := 5) (N := some 7) (bs 8 63) rfl rfl (by kernel_rfl) (by decide) (fun K hK => ?_)
     ·
      refine value_ (v := .pointer (some ⟨w'.heap.size, 0, none⟩)) (w1 := w'.alloc (.cells #[.bool false, .slice none 0 0, .slice none 0 0] 95)) (by rfl) rfl ?_ ?_
      ·go_simp
      have hb9 : Below w'.heap.size w' (w'.alloc (.cells #[.bool false, .slice none 0 0, .slice none 0 0] 95)) := below_alloc (Below.refl _ _) _
      have n5 := blk_new w' (.cells #[.bool false, .slice none 0 0, .slice none 0 0] 95)
      have hB9 := hB.trans (hb9.mono hB.size)
      refine hK.out _ _ ⟨pw_cell_below hB9 c0, pw_cell_below hB9 c1, pw_cell_below hB9 c2, pw_cell_below hB9 c3⟩ (fun hHeld => ?_)
      clear hK K
      refine norm_ ?_ (hq_1_3_4_5 ⟨b1, A1, k1, e1, A2, k2, e2, b3, A3, k3, e3, A4, k4, e4, g4, w'.heap.size⟩ _ ⟨hB9, f1.below hb9, f3.below hb9, ⟨f4.1, blk_below f4.2 hb9⟩, ⟨hB.size, n5⟩, (by have := lt_of_some f4.2; omega)⟩); (· simp only [putAll, Act.put, List.setIfInBounds_toArray, List.set_cons_zero, List.set_cons_succ, i64_w, i32_w])
    refine join_ (σ := Bool × Option Addr × Nat × Nat × Option Addr × Nat × Nat × Bool × Option Addr × Nat × Nat × Option Addr × Nat × Nat × Nat × Nat) 4 (bs 8 39) (fun ⟨b1, A1, k1, e1, A2, k2, e2, _, _, _, _, _, _, _, _, g5⟩ => [(17, .agg #[.bool b1, .slice A1 k1 e1, .slice A2 k2 e2]), (7, .pointer (some ⟨g5, 0, none⟩))]) (fun ⟨b1, A1, k1, e1, A2, k2, e2, _, _, _, _, _, _, _, _, g5⟩ w' => Below w3.heap.size w3 w' ∧ (RM w' (.agg #[.bool b1, .slice A1 k1 e1, .slice A2 k2 e2]) (qq n d) 3) ∧ (w3.heap.size ≤ g5 ∧ w'.heap[g5]? = some (.cells #[.bool false, .slice none 0 0, .slice none 0 0] 95))) ?_ (fun hq_1_5 => ?_)
    ·rintro ⟨b1, A1, k1, e1, A2, k2, e2, b3, A3, k3, e3, A4, k4, e4, g4, g5⟩ w' ⟨hB, f1, f5⟩
     refine norm_ (a' := ?_) ?_ ?_; rotate_left; (· simp only [putAll, Act.put, List.setIfInBounds_toArray, List.set_cons_zero, List.set_cons_succ, i64_w, i32_w]; rfl)
     refine two_ (i := 3) (j := 4) (Ni := some 19) (Nj := some 6) (bs 8 47) (bs 8 55) rfl rfl rfl rfl (by kernel_rfl) (by decide) (by decide) (fun K hK => ?_) (fun K hK => ?_)
     ·
      refine goes_ Try.func85 (by kernel_rfl) rfl #[.agg #[.int .i64 n', .int .i64 d']] (by rfl) rfl rfl (by simp only [List.map_toArray, List.map_cons, List.map_nil]; rfl) ?_
      with_reducible refine (ratOfM2 n' d' w' HR.out.2.1.1 HR.out.2.1.2 HR.out.2.2.1 HR.out.2.2.2).mono ?_
      rintro e w9 ⟨b3, A3, k3, e3, A4, k4, e4, rfl, hb9, n3⟩
      refine ⟨_, rfl, ?_⟩
      have hB9 := hB.trans (hb9.mono hB.size)
      refine hK.out _ _ ⟨pw_cell_below hB9 c0, pw_cell_below hB9 c1, pw_cell_below hB9 c2, pw_cell_below hB9 c3⟩ (fun hHeld => ?_)
      clear hK K
      refine norm_ ?_ (hq_1_3_5 ⟨b1, A1, k1, e1, A2, k2, e2, b3, A3, k3, e3, A4, k4, e4, 0, g5⟩ _ ⟨hB9, f1.below hb9, n3, ⟨f5.1, blk_below f5.2 hb9⟩⟩); (· simp only [putAll, Act.put, List.setIfInBounds_toArray, List.set_cons_zero, List.set_cons_succ, i64_w, i32_w])
     ·
      refine value_ (v := .pointer (some ⟨w'.heap.size, 0, none⟩)) (w1 := w'.alloc (.cells #[.bool false, .slice none 0 0, .slice none 0 0] 95)) (by rfl) rfl ?_ ?_
      ·go_simp
      have hb9 : Below w'.heap.size w' (w'.alloc (.cells #[.bool false, .slice none 0 0, .slice none 0 0] 95)) := below_alloc (Below.refl _ _) _
      have n4 := blk_new w' (.cells #[.bool false, .slice none 0 0, .slice none 0 0] 95)
      have hB9 := hB.trans (hb9.mono hB.size)
      refine hK.out _ _ ⟨pw_cell_below hB9 c0, pw_cell_below hB9 c1, pw_cell_below hB9 c2, pw_cell_below hB9 c3⟩ (fun hHeld => ?_)
      clear hK K
      refine norm_ ?_ (hq_1_4_5 ⟨b1, A1, k1, e1, A2, k2, e2, false, none, 0, 0, none, 0, 0, w'.heap.size, g5⟩ _ ⟨hB9, f1.below hb9, ⟨hB.size, n4⟩, ⟨f5.1, blk_below f5.2 hb9⟩, (by have := lt_of_some f5.2; omega)⟩); (· simp only [putAll, Act.put, List.setIfInBounds_toArray, List.set_cons_zero, List.set_cons_succ, i64_w, i32_w])
    refine join_ (σ := Bool × Option Addr × Nat × Nat × Option Addr × Nat × Nat × Bool × Option Addr × Nat × Nat × Option Addr × Nat × Nat × Nat × Nat) 4 (bs 8 53) (fun ⟨_, _, _, _, _, _, _, _, _, _, _, _, _, _, g4, g5⟩ => [(6, .pointer (some ⟨g4, 0, none⟩)), (7, .pointer (some ⟨g5, 0, none⟩))]) (fun ⟨_, _, _, _, _, _, _, _, _, _, _, _, _, _, g4, g5⟩ w' => Below w3.heap.size w3 w' ∧ (w3.heap.size ≤ g4 ∧ w'.heap[g4]? = some (.cells #[.bool false, .slice none 0 0, .slice none 0 0] 95)) ∧ (w3.heap.size ≤ g5 ∧ w'.heap[g5]? = some (.cells #[.bool false, .slice none 0 0, .slice none 0 0] 95)) ∧ (g4 ≠ g5)) ?_ (fun hq_4_5 => ?_)
    ·rintro ⟨b1, A1, k1, e1, A2, k2, e2, b3, A3, k3, e3, A4, k4, e4, g4, g5⟩ w' ⟨hB, f4, f5, ne4_5⟩
     refine norm_ (a' := ?_) ?_ ?_; rotate_left; (· simp only [putAll, Act.put, List.setIfInBounds_toArray, List.set_cons_zero, List.set_cons_succ, i64_w, i32_w]; rfl)
     refine one_ (i := 1) (N := some 17) (bs 8 55) rfl rfl (by kernel_rfl) (by decide) (fun K hK => ?_)
     ·
      refine goes_ Try.func85 (by kernel_rfl) rfl #[.agg #[.int .i64 n, .int .i64 d]] (by rfl) rfl rfl (by simp only [List.map_toArray, List.map_cons, List.map_nil]; rfl) ?_
      with_reducible refine (ratOfM2 n d w' HR.out.1.1.1 HR.out.1.1.2 HR.out.1.2.1 HR.out.1.2.2).mono ?_
      rintro e w9 ⟨b1, A1, k1, e1, A2, k2, e2, rfl, hb9, n1⟩
      refine ⟨_, rfl, ?_⟩
      have hB9 := hB.trans (hb9.mono hB.size)
      refine hK.out _ _ ⟨pw_cell_below hB9 c0, pw_cell_below hB9 c1, pw_cell_below hB9 c2, pw_cell_below hB9 c3⟩ (fun hHeld => ?_)
      clear hK K
      refine norm_ ?_ (hq_1_4_5 ⟨b1, A1, k1, e1, A2, k2, e2, false, none, 0, 0, none, 0, 0, g4, g5⟩ _ ⟨hB9, n1, ⟨f4.1, blk_below f4.2 hb9⟩, ⟨f5.1, blk_below f5.2 hb9⟩, ne4_5⟩); (· simp only [putAll, Act.put, List.setIfInBounds_toArray, List.set_cons_zero, List.set_cons_succ, i64_w, i32_w])
    refine join_ (σ := Bool × Option Addr × Nat × Nat × Option Addr × Nat × Nat × Bool × Option Addr × Nat × Nat × Option Addr × Nat × Nat × Nat × Nat) 4 (bs 8 23) (fun ⟨b1, A1, k1, e1, A2, k2, e2, _, _, _, _, _, _, _, g4, _⟩ => [(17, .agg #[.bool b1, .slice A1 k1 e1, .slice A2 k2 e2]), (6, .pointer (some ⟨g4, 0, none⟩))]) (fun ⟨b1, A1, k1, e1, A2, k2, e2, _, _, _, _, _, _, _, g4, _⟩ w' => Below w3.heap.size w3 w' ∧ (RM w' (.agg #[.bool b1, .slice A1 k1 e1, .slice A2 k2 e2]) (qq n d) 3) ∧ (w3.heap.size ≤ g4 ∧ w'.heap[g4]? = some (.cells #[.bool false, .slice none 0 0, .slice none 0 0] 95))) ?_ (fun hq_1_4 => ?_)
    ·rintro ⟨b1, A1, k1, e1, A2, k2, e2, b3, A3, k3, e3, A4, k4, e4, g4, g5⟩ w' ⟨hB, f1, f4⟩
     refine norm_ (a' := ?_) ?_ ?_; rotate_left; (· simp only [putAll, Act.put, List.setIfInBounds_toArray, List.set_cons_zero, List.set_cons_succ, i64_w, i32_w]; rfl)
     refine two_ (i := 3) (j := 5) (Ni := some 19) (Nj := some 7) (bs 8 31) (bs 8 55) rfl rfl rfl rfl (by kernel_rfl) (by decide) (by decide) (fun K hK => ?_) (fun K hK => ?_)
     ·
      refine goes_ Try.func85 (by kernel_rfl) rfl #[.agg #[.int .i64 n', .int .i64 d']] (by rfl) rfl rfl (by simp only [List.map_toArray, List.map_cons, List.map_nil]; rfl) ?_
      with_reducible refine (ratOfM2 n' d' w' HR.out.2.1.1 HR.out.2.1.2 HR.out.2.2.1 HR.out.2.2.2).mono ?_
      rintro e w9 ⟨b3, A3, k3, e3, A4, k4, e4, rfl, hb9, n3⟩
      refine ⟨_, rfl, ?_⟩
      have hB9 := hB.trans (hb9.mono hB.size)
      refine hK.out _ _ ⟨pw_cell_below hB9 c0, pw_cell_below hB9 c1, pw_cell_below hB9 c2, pw_cell_below hB9 c3⟩ (fun hHeld => ?_)
      clear hK K
      refine norm_ ?_ (hq_1_3_4 ⟨b1, A1, k1, e1, A2, k2, e2, b3, A3, k3, e3, A4, k4, e4, g4, 0⟩ _ ⟨hB9, f1.below hb9, n3, ⟨f4.1, blk_below f4.2 hb9⟩⟩); (· simp only [putAll, Act.put, List.setIfInBounds_toArray, List.set_cons_zero, List.set_cons_succ, i64_w, i32_w])
     ·
      refine value_ (v := .pointer (some ⟨w'.heap.size, 0, none⟩)) (w1 := w'.alloc (.cells #[.bool false, .slice none 0 0, .slice none 0 0] 95)) (by rfl) rfl ?_ ?_
      ·go_simp
      have hb9 : Below w'.heap.size w' (w'.alloc (.cells #[.bool false, .slice none 0 0, .slice none 0 0] 95)) := below_alloc (Below.refl _ _) _
      have n5 := blk_new w' (.cells #[.bool false, .slice none 0 0, .slice none 0 0] 95)
      have hB9 := hB.trans (hb9.mono hB.size)
      refine hK.out _ _ ⟨pw_cell_below hB9 c0, pw_cell_below hB9 c1, pw_cell_below hB9 c2, pw_cell_below hB9 c3⟩ (fun hHeld => ?_)
      clear hK K
      refine norm_ ?_ (hq_1_4_5 ⟨b1, A1, k1, e1, A2, k2, e2, false, none, 0, 0, none, 0, 0, g4, w'.heap.size⟩ _ ⟨hB9, f1.below hb9, ⟨f4.1, blk_below f4.2 hb9⟩, ⟨hB.size, n5⟩, (by have := lt_of_some f4.2; omega)⟩); (· simp only [putAll, Act.put, List.setIfInBounds_toArray, List.set_cons_zero, List.set_cons_succ, i64_w, i32_w])
    refine join_ (σ := Bool × Option Addr × Nat × Nat × Option Addr × Nat × Nat × Bool × Option Addr × Nat × Nat × Option Addr × Nat × Nat × Nat × Nat) 4 (bs 8 15) (fun ⟨b1, A1, k1, e1, A2, k2, e2, b3, A3, k3, e3, A4, k4, e4, _, _⟩ => [(17, .agg #[.bool b1, .slice A1 k1 e1, .slice A2 k2 e2]), (19, .agg #[.bool b3, .slice A3 k3 e3, .slice A4 k4 e4])]) (fun ⟨b1, A1, k1, e1, A2, k2, e2, b3, A3, k3, e3, A4, k4, e4, _, _⟩ w' => Below w3.heap.size w3 w' ∧ (RM w' (.agg #[.bool b1, .slice A1 k1 e1, .slice A2 k2 e2]) (qq n d) 3) ∧ (RM w' (.agg #[.bool b3, .slice A3 k3 e3, .slice A4 k4 e4]) (qq n' d') 3)) ?_ (fun hq_1_3 => ?_)
    ·rintro ⟨b1, A1, k1, e1, A2, k2, e2, b3, A3, k3, e3, A4, k4, e4, g4, g5⟩ w' ⟨hB, f1, f3⟩
     refine norm_ (a' := ?_) ?_ ?_; rotate_left; (· simp only [putAll, Act.put, List.setIfInBounds_toArray, List.set_cons_zero, List.set_cons_succ, i64_w, i32_w]; rfl)
     refine two_ (i := 4) (j := 5) (Ni := some 6) (Nj := some 7) (bs 8 31) (bs 8 47) rfl rfl rfl rfl (by kernel_rfl) (by decide) (by decide) (fun K hK => ?_) (fun K hK => ?_)
     ·
      refine value_ (v := .pointer (some ⟨w'.heap.size, 0, none⟩)) (w1 := w'.alloc (.cells #[.bool false, .slice none 0 0, .slice none 0 0] 95)) (by rfl) rfl ?_ ?_
      ·go_simp
      have hb9 : Below w'.heap.size w' (w'.alloc (.cells #[.bool false, .slice none 0 0, .slice none 0 0] 95)) := below_alloc (Below.refl _ _) _
      have n4 := blk_new w' (.cells #[.bool false, .slice none 0 0, .slice none 0 0] 95)
      have hB9 := hB.trans (hb9.mono hB.size)
      refine hK.out _ _ ⟨pw_cell_below hB9 c0, pw_cell_below hB9 c1, pw_cell_below hB9 c2, pw_cell_below hB9 c3⟩ (fun hHeld => ?_)
      clear hK K
      refine norm_ ?_ (hq_1_3_4 ⟨b1, A1, k1, e1, A2, k2, e2, b3, A3, k3, e3, A4, k4, e4, w'.heap.size, 0⟩ _ ⟨hB9, f1.below hb9, f3.below hb9, ⟨hB.size, n4⟩⟩); (· simp only [putAll, Act.put, List.setIfInBounds_toArray, List.set_cons_zero, List.set_cons_succ, i64_w, i32_w])
     ·
      refine value_ (v := .pointer (some ⟨w'.heap.size, 0, none⟩)) (w1 := w'.alloc (.cells #[.bool false, .slice none 0 0, .slice none 0 0] 95)) (by rfl) rfl ?_ ?_
      ·go_simp
      have hb9 : Below w'.heap.size w' (w'.alloc (.cells #[.bool false, .slice none 0 0, .slice none 0 0] 95)) := below_alloc (Below.refl _ _) _
      have n5 := blk_new w' (.cells #[.bool false, .slice none 0 0, .slice none 0 0] 95)
      have hB9 := hB.trans (hb9.mono hB.size)
      refine hK.out _ _ ⟨pw_cell_below hB9 c0, pw_cell_below hB9 c1, pw_cell_below hB9 c2, pw_cell_below hB9 c3⟩ (fun hHeld => ?_)
      clear hK K
      refine norm_ ?_ (hq_1_3_5 ⟨b1, A1, k1, e1, A2, k2, e2, b3, A3, k3, e3, A4, k4, e4, 0, w'.heap.size⟩ _ ⟨hB9, f1.below hb9, f3.below hb9, ⟨hB.size, n5⟩⟩); (· simp only [putAll, Act.put, List.setIfInBounds_toArray, List.set_cons_zero, List.set_cons_succ, i64_w, i32_w])
    refine join_ (σ := Bool × Option Addr × Nat × Nat × Option Addr × Nat × Nat × Bool × Option Addr × Nat × Nat × Option Addr × Nat × Nat × Nat × Nat) 5 (bs 8 7) (fun ⟨b1, A1, k1, e1, A2, k2, e2, _, _, _, _, _, _, _, _, _⟩ => [(17, .agg #[.bool b1, .slice A1 k1 e1, .slice A2 k2 e2])]) (fun ⟨b1, A1, k1, e1, A2, k2, e2, _, _, _, _, _, _, _, _, _⟩ w' => Below w3.heap.size w3 w' ∧ (RM w' (.agg #[.bool b1, .slice A1 k1 e1, .slice A2 k2 e2]) (qq n d) 3)) ?_ (fun hq_1 => ?_)
    ·rintro ⟨b1, A1, k1, e1, A2, k2, e2, b3, A3, k3, e3, A4, k4, e4, g4, g5⟩ w' ⟨hB, f1⟩
     refine norm_ (a' := ?_) ?_ ?_; rotate_left; (· simp only [putAll, Act.put, List.setIfInBounds_toArray, List.set_cons_zero, List.set_cons_succ, i64_w, i32_w]; rfl)
     refine three_ (i := 3) (j := 4) (k := 5) (Ni := some 19) (Nj := some 6) (Nk := some 7) (bs 8 15) (bs 8 23) (bs 8 39) rfl rfl rfl rfl rfl rfl (by kernel_rfl) (by decide) (by decide) (by decide) (fun K hK => ?_) (fun K hK => ?_) (fun K hK => ?_)
     ·
      refine goes_ Try.func85 (by kernel_rfl) rfl #[.agg #[.int .i64 n', .int .i64 d']] (by rfl) rfl rfl (by simp only [List.map_toArray, List.map_cons, List.map_nil]; rfl) ?_
      with_reducible refine (ratOfM2 n' d' w' HR.out.2.1.1 HR.out.2.1.2 HR.out.2.2.1 HR.out.2.2.2).mono ?_
      rintro e w9 ⟨b3, A3, k3, e3, A4, k4, e4, rfl, hb9, n3⟩
      refine ⟨_, rfl, ?_⟩
      have hB9 := hB.trans (hb9.mono hB.size)
      refine hK.out _ _ ⟨pw_cell_below hB9 c0, pw_cell_below hB9 c1, pw_cell_below hB9 c2, pw_cell_below hB9 c3⟩ (fun hHeld => ?_)
      clear hK K
      refine norm_ ?_ (hq_1_3 ⟨b1, A1, k1, e1, A2, k2, e2, b3, A3, k3, e3, A4, k4, e4, 0, 0⟩ _ ⟨hB9, f1.below hb9, n3⟩); (· simp only [putAll, Act.put, List.setIfInBounds_toArray, List.set_cons_zero, List.set_cons_succ, i64_w, i32_w])
     ·
      refine value_ (v := .pointer (some ⟨w'.heap.size, 0, none⟩)) (w1 := w'.alloc (.cells #[.bool false, .slice none 0 0, .slice none 0 0] 95)) (by rfl) rfl ?_ ?_
      ·go_simp
      have hb9 : Below w'.heap.size w' (w'.alloc (.cells #[.bool false, .slice none 0 0, .slice none 0 0] 95)) := below_alloc (Below.refl _ _) _
      have n4 := blk_new w' (.cells #[.bool false, .slice none 0 0, .slice none 0 0] 95)
      have hB9 := hB.trans (hb9.mono hB.size)
      refine hK.out _ _ ⟨pw_cell_below hB9 c0, pw_cell_below hB9 c1, pw_cell_below hB9 c2, pw_cell_below hB9 c3⟩ (fun hHeld => ?_)
      clear hK K
      refine norm_ ?_ (hq_1_4 ⟨b1, A1, k1, e1, A2, k2, e2, false, none, 0, 0, none, 0, 0, w'.heap.size, 0⟩ _ ⟨hB9, f1.below hb9, ⟨hB.size, n4⟩⟩); (· simp only [putAll, Act.put, List.setIfInBounds_toArray, List.set_cons_zero, List.set_cons_succ, i64_w, i32_w])
     ·
      refine value_ (v := .pointer (some ⟨w'.heap.size, 0, none⟩)) (w1 := w'.alloc (.cells #[.bool false, .slice none 0 0, .slice none 0 0] 95)) (by rfl) rfl ?_ ?_
      ·go_simp
      have hb9 : Below w'.heap.size w' (w'.alloc (.cells #[.bool false, .slice none 0 0, .slice none 0 0] 95)) := below_alloc (Below.refl _ _) _
      have n5 := blk_new w' (.cells #[.bool false, .slice none 0 0, .slice none 0 0] 95)
      have hB9 := hB.trans (hb9.mono hB.size)
      refine hK.out _ _ ⟨pw_cell_below hB9 c0, pw_cell_below hB9 c1, pw_cell_below hB9 c2, pw_cell_below hB9 c3⟩ (fun hHeld => ?_)
      clear hK K
      refine norm_ ?_ (hq_1_5 ⟨b1, A1, k1, e1, A2, k2, e2, false, none, 0, 0, none, 0, 0, 0, w'.heap.size⟩ _ ⟨hB9, f1.below hb9, ⟨hB.size, n5⟩⟩); (· simp only [putAll, Act.put, List.setIfInBounds_toArray, List.set_cons_zero, List.set_cons_succ, i64_w, i32_w])
    refine join_ (σ := Bool × Option Addr × Nat × Nat × Option Addr × Nat × Nat × Bool × Option Addr × Nat × Nat × Option Addr × Nat × Nat × Nat × Nat) 5 (bs 8 21) (fun ⟨_, _, _, _, _, _, _, _, _, _, _, _, _, _, g4, _⟩ => [(6, .pointer (some ⟨g4, 0, none⟩))]) (fun ⟨_, _, _, _, _, _, _, _, _, _, _, _, _, _, g4, _⟩ w' => Below w3.heap.size w3 w' ∧ (w3.heap.size ≤ g4 ∧ w'.heap[g4]? = some (.cells #[.bool false, .slice none 0 0, .slice none 0 0] 95))) ?_ (fun hq_4 => ?_)
    ·rintro ⟨b1, A1, k1, e1, A2, k2, e2, b3, A3, k3, e3, A4, k4, e4, g4, g5⟩ w' ⟨hB, f4⟩
     refine norm_ (a' := ?_) ?_ ?_; rotate_left; (· simp only [putAll, Act.put, List.setIfInBounds_toArray, List.set_cons_zero, List.set_cons_succ, i64_w, i32_w]; rfl)
     refine two_ (i := 1) (j := 5) (Ni := some 17) (Nj := some 7) (bs 8 23) (bs 8 53) rfl rfl rfl rfl (by kernel_rfl) (by decide) (by decide) (fun K hK => ?_) (fun K hK => ?_)
     ·
      refine goes_ Try.func85 (by kernel_rfl) rfl #[.agg #[.int .i64 n, .int .i64 d]] (by rfl) rfl rfl (by simp only [List.map_toArray, List.map_cons, List.map_nil]; rfl) ?_
      with_reducible refine (ratOfM2 n d w' HR.out.1.1.1 HR.out.1.1.2 HR.out.1.2.1 HR.out.1.2.2).mono ?_
      rintro e w9 ⟨b1, A1, k1, e1, A2, k2, e2, rfl, hb9, n1⟩
      refine ⟨_, rfl, ?_⟩
      have hB9 := hB.trans (hb9.mono hB.size)
      refine hK.out _ _ ⟨pw_cell_below hB9 c0, pw_cell_below hB9 c1, pw_cell_below hB9 c2, pw_cell_below hB9 c3⟩ (fun hHeld => ?_)
      clear hK K
      refine norm_ ?_ (hq_1_4 ⟨b1, A1, k1, e1, A2, k2, e2, false, none, 0, 0, none, 0, 0, g4, 0⟩ _ ⟨hB9, n1, ⟨f4.1, blk_below f4.2 hb9⟩⟩); (· simp only [putAll, Act.put, List.setIfInBounds_toArray, List.set_cons_zero, List.set_cons_succ, i64_w, i32_w])
     ·
      refine value_ (v := .pointer (some ⟨w'.heap.size, 0, none⟩)) (w1 := w'.alloc (.cells #[.bool false, .slice none 0 0, .slice none 0 0] 95)) (by rfl) rfl ?_ ?_
      ·go_simp
      have hb9 : Below w'.heap.size w' (w'.alloc (.cells #[.bool false, .slice none 0 0, .slice none 0 0] 95)) := below_alloc (Below.refl _ _) _
      have n5 := blk_new w' (.cells #[.bool false, .slice none 0 0, .slice none 0 0] 95)
      have hB9 := hB.trans (hb9.mono hB.size)
      refine hK.out _ _ ⟨pw_cell_below hB9 c0, pw_cell_below hB9 c1, pw_cell_below hB9 c2, pw_cell_below hB9 c3⟩ (fun hHeld => ?_)
      clear hK K
      refine norm_ ?_ (hq_4_5 ⟨false, none, 0, 0, none, 0, 0, false, none, 0, 0, none, 0, 0, g4, w'.heap.size⟩ _ ⟨hB9, ⟨f4.1, blk_below f4.2 hb9⟩, ⟨hB.size, n5⟩, (by have := lt_of_some f4.2; omega)⟩); (· simp only [putAll, Act.put, List.setIfInBounds_toArray, List.set_cons_zero, List.set_cons_succ, i64_w, i32_w])
    refine join_ (σ := Bool × Option Addr × Nat × Nat × Option Addr × Nat × Nat × Bool × Option Addr × Nat × Nat × Option Addr × Nat × Nat × Nat × Nat) 5 (bs 8 37) (fun ⟨_, _, _, _, _, _, _, _, _, _, _, _, _, _, _, g5⟩ => [(7, .pointer (some ⟨g5, 0, none⟩))]) (fun ⟨_, _, _, _, _, _, _, _, _, _, _, _, _, _, _, g5⟩ w' => Below w3.heap.size w3 w' ∧ (w3.heap.size ≤ g5 ∧ w'.heap[g5]? = some (.cells #[.bool false, .slice none 0 0, .slice none 0 0] 95))) ?_ (fun hq_5 => ?_)
    ·rintro ⟨b1, A1, k1, e1, A2, k2, e2, b3, A3, k3, e3, A4, k4, e4, g4, g5⟩ w' ⟨hB, f5⟩
     refine norm_ (a' := ?_) ?_ ?_; rotate_left; (· simp only [putAll, Act.put, List.setIfInBounds_toArray, List.set_cons_zero, List.set_cons_succ, i64_w, i32_w]; rfl)
     refine two_ (i := 1) (j := 4) (Ni := some 17) (Nj := some 6) (bs 8 39) (bs 8 53) rfl rfl rfl rfl (by kernel_rfl) (by decide) (by decide) (fun K hK => ?_) (fun K hK => ?_)
     ·
      refine goes_ Try.func85 (by kernel_rfl) rfl #[.agg #[.int .i64 n, .int .i64 d]] (by rfl) rfl rfl (by simp only [List.map_toArray, List.map_cons, List.map_nil]; rfl) ?_
      with_reducible refine (ratOfM2 n d w' HR.out.1.1.1 HR.out.1.1.2 HR.out.1.2.1 HR.out.1.2.2).mono ?_
      rintro e w9 ⟨b1, A1, k1, e1, A2, k2, e2, rfl, hb9, n1⟩
      refine ⟨_, rfl, ?_⟩
      have hB9 := hB.trans (hb9.mono hB.size)
      refine hK.out _ _ ⟨pw_cell_below hB9 c0, pw_cell_below hB9 c1, pw_cell_below hB9 c2, pw_cell_below hB9 c3⟩ (fun hHeld => ?_)
      clear hK K
      refine norm_ ?_ (hq_1_5 ⟨b1, A1, k1, e1, A2, k2, e2, false, none, 0, 0, none, 0, 0, 0, g5⟩ _ ⟨hB9, n1, ⟨f5.1, blk_below f5.2 hb9⟩⟩); (· simp only [putAll, Act.put, List.setIfInBounds_toArray, List.set_cons_zero, List.set_cons_succ, i64_w, i32_w])
     ·
      refine value_ (v := .pointer (some ⟨w'.heap.size, 0, none⟩)) (w1 := w'.alloc (.cells #[.bool false, .slice none 0 0, .slice none 0 0] 95)) (by rfl) rfl ?_ ?_
      ·go_simp
      have hb9 : Below w'.heap.size w' (w'.alloc (.cells #[.bool false, .slice none 0 0, .slice none 0 0] 95)) := below_alloc (Below.refl _ _) _
      have n4 := blk_new w' (.cells #[.bool false, .slice none 0 0, .slice none 0 0] 95)
      have hB9 := hB.trans (hb9.mono hB.size)
      refine hK.out _ _ ⟨pw_cell_below hB9 c0, pw_cell_below hB9 c1, pw_cell_below hB9 c2, pw_cell_below hB9 c3⟩ (fun hHeld => ?_)
      clear hK K
      refine norm_ ?_ (hq_4_5 ⟨false, none, 0, 0, none, 0, 0, false, none, 0, 0, none, 0, 0, w'.heap.size, g5⟩ _ ⟨hB9, ⟨hB.size, n4⟩, ⟨f5.1, blk_below f5.2 hb9⟩, (by have := lt_of_some f5.2; omega)⟩); (· simp only [putAll, Act.put, List.setIfInBounds_toArray, List.set_cons_zero, List.set_cons_succ, i64_w, i32_w])
    have hB := below_drew' (Below.refl _ w3.drew)
    refine three_ (i := 1) (j := 4) (k := 5) (Ni := some 17) (Nj := some 6) (Nk := some 7) (bs 8 7) (bs 8 21) (bs 8 37) rfl rfl rfl rfl rfl rfl (by kernel_rfl) (by decide) (by decide) (by decide) (fun K hK => ?_) (fun K hK => ?_) (fun K hK => ?_)
    ·
     refine goes_ Try.func85 (by kernel_rfl) rfl #[.agg #[.int .i64 n, .int .i64 d]] (by rfl) rfl rfl (by simp only [List.map_toArray, List.map_cons, List.map_nil]; rfl) ?_
     with_reducible refine (ratOfM2 n d w3.drew HR.out.1.1.1 HR.out.1.1.2 HR.out.1.2.1 HR.out.1.2.2).mono ?_
     rintro e w9 ⟨b1, A1, k1, e1, A2, k2, e2, rfl, hb9, n1⟩
     refine ⟨_, rfl, ?_⟩
     have hB9 := hB.trans (hb9.mono hB.size)
     refine hK.out _ _ ⟨pw_cell_below hB9 c0, pw_cell_below hB9 c1, pw_cell_below hB9 c2, pw_cell_below hB9 c3⟩ (fun hHeld => ?_)
     clear hK K
     refine norm_ ?_ (hq_1 ⟨b1, A1, k1, e1, A2, k2, e2, false, none, 0, 0, none, 0, 0, 0, 0⟩ _ ⟨hB9, n1⟩); (· simp only [putAll, Act.put, List.setIfInBounds_toArray, List.set_cons_zero, List.set_cons_succ, i64_w, i32_w])
    ·
     refine value_ (v := .pointer (some ⟨w3.drew.heap.size, 0, none⟩)) (w1 := w3.drew.alloc (.cells #[.bool false, .slice none 0 0, .slice none 0 0] 95)) (by rfl) rfl ?_ ?_
     ·go_simp
     have hb9 : Below w3.drew.heap.size w3.drew (w3.drew.alloc (.cells #[.bool false, .slice none 0 0, .slice none 0 0] 95)) := below_alloc (Below.refl _ _) _
     have n4 := blk_new w3.drew (.cells #[.bool false, .slice none 0 0, .slice none 0 0] 95)
     have hB9 := hB.trans (hb9.mono hB.size)
     refine hK.out _ _ ⟨pw_cell_below hB9 c0, pw_cell_below hB9 c1, pw_cell_below hB9 c2, pw_cell_below hB9 c3⟩ (fun hHeld => ?_)
     clear hK K
     refine norm_ ?_ (hq_4 ⟨false, none, 0, 0, none, 0, 0, false, none, 0, 0, none, 0, 0, w3.drew.heap.size, 0⟩ _ ⟨hB9, ⟨hB.size, n4⟩⟩); (· simp only [putAll, Act.put, List.setIfInBounds_toArray, List.set_cons_zero, List.set_cons_succ, i64_w, i32_w])
    ·
     refine value_ (v := .pointer (some ⟨w3.drew.heap.size, 0, none⟩)) (w1 := w3.drew.alloc (.cells #[.bool false, .slice none 0 0, .slice none 0 0] 95)) (by rfl) rfl ?_ ?_
     ·go_simp
     have hb9 : Below w3.drew.heap.size w3.drew (w3.drew.alloc (.cells #[.bool false, .slice none 0 0, .slice none 0 0] 95)) := below_alloc (Below.refl _ _) _
     have n5 := blk_new w3.drew (.cells #[.bool false, .slice none 0 0, .slice none 0 0] 95)
     have hB9 := hB.trans (hb9.mono hB.size)
     refine hK.out _ _ ⟨pw_cell_below hB9 c0, pw_cell_below hB9 c1, pw_cell_below hB9 c2, pw_cell_below hB9 c3⟩ (fun hHeld => ?_)
     clear hK K
     refine norm_ ?_ (hq_5 ⟨false, none, 0, 0, none, 0, 0, false, none, 0, 0, none, 0, 0, 0, w3.drew.heap.size⟩ _ ⟨hB9, ⟨hB.size, n5⟩⟩); (· simp only [putAll, Act.put, List.setIfInBounds_toArray, List.set_cons_zero, List.set_cons_succ, i64_w, i32_w])
   rintro ⟨b1, A1, k1, e1, A2, k2, e2, b3, A3, k3, e3, A4, k4, e4, g4, g5⟩ w' ⟨hB, f1, f3, f4, f5, ne4_5⟩
   refine norm_ (a' := ?_) ?_ ?_; rotate_left; (· simp only [putAll, Act.put, List.setIfInBounds_toArray, List.set_cons_zero, List.set_cons_succ, i64_w, i32_w]; rfl)
   have hHeld : w'.cell? ⟨w.heap.size, 0, none⟩ = some (.int .i64 n) ∧ w'.cell? ⟨w.heap.size, 1, none⟩ = some (.int .i64 d) ∧ w'.cell? ⟨w.heap.size + 1, 0, none⟩ = some (.int .i64 n') ∧ w'.cell? ⟨w.heap.size + 1, 1, none⟩ = some (.int .i64 d') := ⟨pw_cell_below hB c0, pw_cell_below hB c1, pw_cell_below hB c2, pw_cell_below hB c3⟩
   refine zL 6 none 8 127 (fun K hK => ?_)
   obtain ⟨s0, s1, s2, s3, s4, s5⟩ := rat_cells f4.2
   refine skip_ (w1 := ?_) (by rfl) rfl ?_ ?_
   rotate_left
   ·(go_simp; with_reducible rfl)
   clear s0 s1 s2 s3 s4 s5
   refine hK.out _ _ ?_
   clear hK K
   refine zL 7 none 8 255 (fun K hK => ?_)
   obtain ⟨s0, s1, s2, s3, s4, s5⟩ := rat_cells (rat_other (x := .bool b1) (y := .slice A1 k1 e1) (z := .slice A2 k2 e2) f5.2 ne4_5.symm)
   refine skip_ (w1 := ?_) (by rfl) rfl ?_ ?_
   rotate_left
   ·(go_simp; with_reducible rfl)
   refine hK.out _ _ ?_
   clear hK K
   refine done_ (by kernel_rfl) ?_
   have hx4 := rat_other (x := .bool b3) (y := .slice A3 k3 e3) (z := .slice A4 k4 e4) (blk_three (x := .bool b1) (y := .slice A1 k1 e1) (z := .slice A2 k2 e2) f4.2) ne4_5
   have hx5 := blk_three (x := .bool b3) (y := .slice A3 k3 e3) (z := .slice A4 k4 e4) (rat_other (x := .bool b1) (y := .slice A1 k1 e1) (z := .slice A2 k2 e2) f5.2 ne4_5.symm)
   have hbF : Below w3.heap.size w3 ((((((w'.setCell ⟨g4, 0, none⟩ (.bool b1)).setCell ⟨g4, 1, none⟩ (.slice A1 k1 e1)).setCell ⟨g4, 2, none⟩ (.slice A2 k2 e2)).setCell ⟨g5, 0, none⟩ (.bool b3)).setCell ⟨g5, 1, none⟩ (.slice A3 k3 e3)).setCell ⟨g5, 2, none⟩ (.slice A4 k4 e4)) := (((((hB.setCell f4.1 _).setCell f4.1 _).setCell f4.1 _).setCell f5.1 _).setCell f5.1 _).setCell f5.1 _
   have hm1 : RM ((((((w'.setCell ⟨g4, 0, none⟩ (.bool b1)).setCell ⟨g4, 1, none⟩ (.slice A1 k1 e1)).setCell ⟨g4, 2, none⟩ (.slice A2 k2 e2)).setCell ⟨g5, 0, none⟩ (.bool b3)).setCell ⟨g5, 1, none⟩ (.slice A3 k3 e3)).setCell ⟨g5, 2, none⟩ (.slice A4 k4 e4)) (.agg #[.bool b1, .slice A1 k1 e1, .slice A2 k2 e2]) (qq n d) 3 := RM.set3 (RM.set3 f1 f4.2) (rat_other (x := .bool b1) (y := .slice A1 k1 e1) (z := .slice A2 k2 e2) f5.2 ne4_5.symm)
   have hm3 : RM ((((((w'.setCell ⟨g4, 0, none⟩ (.bool b1)).setCell ⟨g4, 1, none⟩ (.slice A1 k1 e1)).setCell ⟨g4, 2, none⟩ (.slice A2 k2 e2)).setCell ⟨g5, 0, none⟩ (.bool b3)).setCell ⟨g5, 1, none⟩ (.slice A3 k3 e3)).setCell ⟨g5, 2, none⟩ (.slice A4 k4 e4)) (.agg #[.bool b3, .slice A3 k3 e3, .slice A4 k4 e4]) (qq n' d') 3 := RM.set3 (RM.set3 f3 f4.2) (rat_other (x := .bool b1) (y := .slice A1 k1 e1) (z := .slice A2 k2 e2) f5.2 ne4_5.symm)
   have HF := Aside0.mk (And.intro hx4 (And.intro hx5 (And.intro hm1 (And.intro hm3 (HM3.out.below.trans (hbF.mono HM3.out.below.size))))))
   generalize hFW : ((((((w'.setCell ⟨g4, 0, none⟩ (.bool b1)).setCell ⟨g4, 1, none⟩ (.slice A1 k1 e1)).setCell ⟨g4, 2, none⟩ (.slice A2 k2 e2)).setCell ⟨g5, 0, none⟩ (.bool b3)).setCell ⟨g5, 1, none⟩ (.slice A3 k3 e3)).setCell ⟨g5, 2, none⟩ (.slice A4 k4 e4)) = FW at *
   clear hx4 hx5 hbF hm1 hm3 hFW hB f1 f3 f4 f5 ne4_5 c0 c1 c2 c3 HM3 HR
   obtain ⟨u0, u1, u2, _, _, _⟩ := rat_cells HF.out.1
   obtain ⟨u3, u4, u5, _, _, _⟩ := rat_cells HF.out.2.1
   go_wp2_with fail
   by_cases h3 : qq n d < qq n' d'
   ·have HV3 := Aside0.mk (show V = (-1, 0) by rw [HV2.out]; unfold cmpQ; rw [if_pos h3])
    refine (lessM_t _ _ _ _ 3 3 FW HF.out.2.2.1 HF.out.2.2.2.1 (by decide) h3).mono ?_
    rintro e w6 ⟨rfl, hb6⟩
    clear h3 HV2
    go_wp2_with fail
    go_ret2
    rw [HV3.out]
    exact ⟨rfl, HF.out.2.2.2.2.trans (hb6.mono HF.out.2.2.2.2.size)⟩
   ·refine (lessM_f _ _ _ _ 3 3 FW HF.out.2.2.1 HF.out.2.2.2.1 (by decide) h3).mono ?_
    rintro e w6 ⟨rfl, hb6⟩
    have H6 := Aside0.mk (And.intro (blk_below HF.out.1 hb6) (And.intro (blk_below HF.out.2.1 hb6) (And.intro (HF.out.2.2.1.below hb6) (And.intro (HF.out.2.2.2.1.below hb6) (HF.out.2.2.2.2.trans (hb6.mono HF.out.2.2.2.2.size))))))
    clear HF hb6 u0 u1 u2 u3 u4 u5
    obtain ⟨u0, u1, u2, _, _, _⟩ := rat_cells H6.out.1
    obtain ⟨u3, u4, u5, _, _, _⟩ := rat_cells H6.out.2.1
    go_wp2_with fail
    by_cases h4 : qq n' d' < qq n d
    ·have HV3 := Aside0.mk (show V = (1, 0) by rw [HV2.out]; unfold cmpQ; rw [if_neg h3, if_pos h4])
     refine (lessM_t _ _ _ _ 3 3 w6 H6.out.2.2.2.1 H6.out.2.2.1 (by decide) h4).mono ?_
     rintro e w7 ⟨rfl, hb7⟩
     clear h3 h4 HV2
     go_wp2_with fail
     go_ret2
     rw [HV3.out]
     exact ⟨rfl, H6.out.2.2.2.2.trans (hb7.mono H6.out.2.2.2.2.size)⟩
    ·have HV3 := Aside0.mk (show V = (0, 0) by rw [HV2.out]; unfold cmpQ; rw [if_neg h3, if_neg h4])
     refine (lessM_f _ _ _ _ 3 3 w6 H6.out.2.2.2.1 H6.out.2.2.1 (by decide) h4).mono ?_
     rintro e w7 ⟨rfl, hb7⟩
     clear h3 h4 HV2
     go_wp2_with fail
     go_ret2
     rw [HV3.out]
     exact ⟨rfl, H6.out.2.2.2.2.trans (hb7.mono H6.out.2.2.2.2.size)⟩
end Go.Proofs.Ytpbhepdgamoiaaa.Rcm
namespace Go.Proofs.Ytpbhepdgamoiaaa.E
open Go.RowKit Go Go.Proofs.YtpbhepdgamoiaaaW.PrintWords Go.Proofs.YtpbhepdgamoiaaaW.PrintLast Go.Proofs.YtpbhepdgamoiaaaW.PrintMore Go.Proofs.Ytpbhepdgamoiaaa.Pe Go.Proofs.Ytpbhepdgamoiaaa.Rcm
def dioramaref02_Cmp.f (a0_0 : Int) (a0_1 : Int) (a1_0 : Int) (a1_1 : Int) : Option (Int × Int) := some (cmpV a0_0 a0_1 a1_0 a1_1)
theorem dioramaref02_Cmp.calls (a0_0 : Int) (a0_1 : Int) (a1_0 : Int) (a1_1 : Int) (r1 : Int) (r2 : Int) (w : World) (h : dioramaref02_Cmp.f a0_0 a0_1 a1_0 a1_1 = some (r1, r2)) :
  Calls Try.prog 45 #[.agg #[.int .i64 a0_0, .int .i64 a0_1], .agg #[.int .i64 a1_0, .int .i64 a1_1]] w fun e w' => e = .returned (.tuple #[.int .i64 r1, .int .i64 r2]) ∧ Below w.heap.size w w' := by
 unfold dioramaref02_Cmp.f at h
 obtain rfl : (cmpV a0_0 a0_1 a1_0 a1_1).1 = r1 := congrArg Prod.fst (Option.some.inj h)
 obtain rfl : (cmpV a0_0 a0_1 a1_0 a1_1).2 = r2 := congrArg Prod.snd (Option.some.inj h)
 exact rCmp_n a0_0 a0_1 a1_0 a1_1 w
end Go.Proofs.Ytpbhepdgamoiaaa.E

/-
  The normal list of a list of edits as a plain value, and that the code tells it. Whether lists are equal, alike; the first example of the chapter. Whether two lists show the same. The reference's natural numbers, in digits of nine decimal places: what its printed functions compute. The reference's natural numbers: sums, differences, products, quotients, small ones. The reference divides. The reference's rational numbers as rational numbers. The reference's normal list is the same. What the reference tells of a list: its normal list, its first error, its length. The reference's whole number of a rational number. What a normal list shows, and how long it is. The reference's first error and length; lists compared. Two lists of edits with their errors, compared. EditFaster: a list that is so many times as fast is as the reference says. EditClocks: a list by other clocks is as the reference says. What a list by other clocks and a faster list show. Two lists that show the same are seen to. EditSame: a normal list shows what the list shows, and is as long.
-/
import Derived.Test.YtpbhepdgamoiaaaQREditSamea
import Derived.Test.YtpbhepdgamoiaaaQREditSamed
import Derived.Test.YtpbhepdgamoiaaaQREditSamee
import Derived.Test.YtpbhepdgamoiaaaQREditSamec
namespace Go.Proofs.Ytpbhepdgamoiaaa.E
open Go.Proofs.Ytpbhepdgamoiaaa.Z Go.RowKit Go.Proofs.YtpbhepdgamoiaaaW.PrintWords Go.Proofs.YtpbhepdgamoiaaaW.PrintLast Go.Proofs.YtpbhepdgamoiaaaW.PrintMore
attribute [local go_sem] max2_int min2_int max_two min_two max_three min_three max_four min_four
set_option linter.unusedVariables false
set_option linter.unusedSimpArgs false
def dioramalaw10_EditSame.j0 : Nat → List (S77) → Bool → List (S77) → Int → Int → Int → Int → Option (Bool)
  | 0, _, _, _, _, _, _, _ => none
  | k + 1, x5, x31, x844000, x844001, x844002, x845000, x845001 => if x31 = true then ((dioramalaw10_awake.f k).bind fun t852 => (some t852)) else ((edit_Normal.f k x5 x844001 x844002).bind fun bt853 => ((edit_Alike.f k x844000 x5 x844001 x844002).bind fun bt857 => (if bt853.2 = 0 then ((dioramaref00_EqEdits.f k x5 bt853.1).bind fun t859 => (if t859 = true then (if bt857.2 = 0 then (if bt857.1 = true then ((edit_Length.f x5).bind fun t860 => ((edit_Length.f x844000).bind fun t861 => (if t860 = t861 then ((dioramalaw10_shows.f x844000 x844001 x844002 x845000 x845001 x5 x844001 x844002 x845000 x845001).bind fun t862 => (if t862 = true then ((dioramalaw10_awake.f k).bind fun t863 => (some t863)) else (some false))) else (some false)))) else (some false)) else (some false)) else (some false))) else (some false))))
def dioramalaw10_EditSame.f (k : Nat) (l0_0 : List (S77)) (a0_1 : Int) (a0_2 : Int) (a1_0 : Int) (a1_1 : Int) : Option (Bool) := (dioramalaw10_many.f l0_0).bind fun t845 => (if t845 = true then ((dioramalaw10_awake.f k).bind fun t846 => (some t846)) else ((edit_Normal.f k l0_0 a0_1 a0_2).bind fun bt847 => (if bt847.2 = 0 then ((dioramaref02_Valid.f a1_0 a1_1).bind fun t851 => (dioramalaw10_EditSame.j0 k bt847.1 (!t851) l0_0 a0_1 a0_2 a1_0 a1_1)) else (dioramalaw10_EditSame.j0 k bt847.1 true l0_0 a0_1 a0_2 a1_0 a1_1))))
set_option maxHeartbeats 8000000 in
set_option maxRecDepth 100000 in
theorem dioramalaw10_EditSame.calls (k : Nat) (A0_0 : Option Addr) (c0_0 : Nat) (l0_0 : List (S77)) (a0_1 : Int) (a0_2 : Int) (a1_0 : Int) (a1_1 : Int) (r : Bool) (w : World) (hr0_0 : Kd.C k77 w A0_0 l0_0.length l0_0) (hc0_0 : l0_0.length ≤ c0_0) (h : dioramalaw10_EditSame.f k l0_0 a0_1 a0_2 a1_0 a1_1 = some r) :
  Calls Try.prog 11 #[.agg #[.slice A0_0 l0_0.length c0_0, .int .i64 a0_1, .int .i64 a0_2], .agg #[.int .i64 a1_0, .int .i64 a1_1]] w fun e w' => e = .returned (.bool r) ∧ Below w.heap.size w w' := by
 have hu24 := Try.underlying24; have hu37 := Try.underlying37; have HR0_0 := Aside0.mk hr0_0; have HC0_0 := Aside0.mk hc0_0; clear hr0_0 hc0_0; have HB := Aside0.mk (Below.refl w.heap.size w); have H : ((dioramalaw10_many.f l0_0).bind fun t845 => (if t845 = true then ((dioramalaw10_awake.f k).bind fun t846 => (some t846)) else ((edit_Normal.f k l0_0 a0_1 a0_2).bind fun bt847 => (if bt847.2 = 0 then ((dioramaref02_Valid.f a1_0 a1_1).bind fun t851 => (dioramalaw10_EditSame.j0 k bt847.1 (!t851) l0_0 a0_1 a0_2 a1_0 a1_1)) else (dioramalaw10_EditSame.j0 k bt847.1 true l0_0 a0_1 a0_2 a1_0 a1_1))))) = some r := h
 clear h; obtain ⟨t845, A3, H⟩ := ob H
 by_cases c4 : t845 = true
 ·subst c4; rw [if_pos rfl] at H; obtain ⟨t846, A5, H⟩ := ob H; obtain rfl := Option.some.inj H
  go_enter Try.func11, Try.ntmps11
  go_wp2_with (first | ((with_reducible refine gate_dst (N := 2) rfl ?_); refine zB 2 24 #[.slice A0_0 l0_0.length c0_0, .int .i64 a0_1, .int .i64 a0_2] ?_; intro gb843 hg w6 hbox hb; have BK843 := Aside0.mk hbox; have GW843 := gz hg; have GE843 := gz hg; replace HB := bp hb; clear hb hbox hg) | ((with_reducible refine gate_dst (N := 3) rfl ?_); refine zB 3 37 #[.int .i64 a1_0, .int .i64 a1_1] ?_; intro gb844 hg w7 hbox hb; have BK844 := Aside0.mk hbox; have GW844 := gz hg; have GE844 := gz hg; replace HB := bp hb; have NB843_844 := Aside0.mk ((by rw [hg]; exact Nat.ne_of_lt (bl BK843) : gb843 ≠ gb844)); have NB844_843 := Aside0.mk ((by rw [hg]; exact Nat.ne_of_gt (bl BK843) : gb844 ≠ gb843)); replace BK843 := kb BK843 hb; clear hb hbox hg; have hnb8 := NB843_844.out; have hnc8 := NB844_843.out; obtain ⟨hcz9_0, hcz9_1, hcz9_2, hfz9_0, hfz9_1, hfz9_2⟩ := xc3 BK843) | ((with_reducible refine gate_callee (f := 19) rfl ?_); refine zC 13 Try.func19 #[.slice A0_0 l0_0.length c0_0] ?_; (with_reducible refine (dioramalaw10_many.calls _ _ l0_0 true _ ?side1 ?side2 A3.out).mono ?_); (case side1 => exact cz HR0_0); (case side2 => exact HC0_0.out); rintro e w' ⟨rfl, ⟨nd, rfl⟩⟩; refine ⟨_, rfl, ?_⟩) | ((with_reducible refine gate_callee (f := 20) rfl ?_); refine zC 14 Try.func20 #[] ?_; (with_reducible refine (dioramalaw10_awake.calls k  t846 _ A5.out).mono ?_); rintro e w10 ⟨rfl, hb⟩; refine ⟨_, rfl, ?_⟩; replace BK843 := kb BK843 hb; replace BK844 := kb BK844 hb; replace HB := bp hb; clear hb))
  go_ret
  exact ⟨ez, bz⟩
 ·obtain rfl := bf c4; rw [if_neg (show ¬ (false = true) by decide)] at H; obtain ⟨⟨t847, t848⟩, A11, H⟩ := ob H
  (try dsimp only at H)
  have HC12 := Aside0.mk H; clear H
  go_enter Try.func11, Try.ntmps11
  go_upto_region 4 with (first | ((with_reducible refine gate_dst (N := 2) rfl ?_); refine zB 2 24 #[.slice A0_0 l0_0.length c0_0, .int .i64 a0_1, .int .i64 a0_2] ?_; intro gb843 hg w13 hbox hb; have BK843 := Aside0.mk hbox; have GW843 := gz hg; have GE843 := gz hg; replace HB := bp hb; clear hb hbox hg) | ((with_reducible refine gate_dst (N := 3) rfl ?_); refine zB 3 37 #[.int .i64 a1_0, .int .i64 a1_1] ?_; intro gb844 hg w14 hbox hb; have BK844 := Aside0.mk hbox; have GW844 := gz hg; have GE844 := gz hg; replace HB := bp hb; have NB843_844 := Aside0.mk ((by rw [hg]; exact Nat.ne_of_lt (bl BK843) : gb843 ≠ gb844)); have NB844_843 := Aside0.mk ((by rw [hg]; exact Nat.ne_of_gt (bl BK843) : gb844 ≠ gb843)); replace BK843 := kb BK843 hb; clear hb hbox hg; have hnb15 := NB843_844.out; have hnc15 := NB844_843.out; obtain ⟨hcz16_0, hcz16_1, hcz16_2, hfz16_0, hfz16_1, hfz16_2⟩ := xc3 BK843) | ((with_reducible refine gate_callee (f := 19) rfl ?_); refine zC 13 Try.func19 #[.slice A0_0 l0_0.length c0_0] ?_; (with_reducible refine (dioramalaw10_many.calls _ _ l0_0 false _ ?side1 ?side2 A3.out).mono ?_); (case side1 => exact cz HR0_0); (case side2 => exact HC0_0.out); rintro e w' ⟨rfl, ⟨nd, rfl⟩⟩; refine ⟨_, rfl, ?_⟩) | ((with_reducible refine gate_callee (f := 21) rfl ?_); refine zC 22 Try.func21 #[.slice A0_0 l0_0.length c0_0, .int .i64 a0_1, .int .i64 a0_2] ?_; (with_reducible refine (edit_Normal.calls k _ _ l0_0 a0_1 a0_2 t847 t848 _ ?side1 ?side2 A11.out).mono ?_); (case side1 => repeat (first | exact (Kd.C_below HR0_0.out bz) | (with_reducible refine Kd.C_alloc ?_ _) | (with_reducible refine Kd.C_drewN ?_ _) | (with_reducible refine Kd.C_drew ?_))); (case side2 => exact HC0_0.out); rintro e w17 ⟨v849, rfl, ho0, hb⟩; refine ⟨_, rfl, ?_⟩; have HO850 := Aside0.mk (Kd.R_lower ho0 sz); replace BK843 := kb BK843 hb; replace BK844 := kb BK844 hb; replace HB := bp hb; clear hb ho0))
  (try simp only [Act.put, List.setIfInBounds_toArray, List.set_cons_zero, List.set_cons_succ])
  go_cut [31] (fun v31 wc => ∃ (kq : Nat) (x31_11 : Bool), v31 = .bool x31_11 ∧ Aside0 (dioramalaw10_EditSame.j0 kq t847 x31_11 l0_0 a0_1 a0_2 a1_0 a1_1 = some r) ∧ Aside0 (kq ≤ k) ∧ Aside0 (Kd.R k77 77 wc w.heap.size (fun _ => True) v849 t847) ∧ Aside0 (wc.heap[gb843]? = some (.cells #[(.slice A0_0 l0_0.length c0_0), .int .i64 a0_1, .int .i64 a0_2] 24 (0, 0))) ∧ Aside0 (wc.heap[gb844]? = some (.cells #[.int .i64 a1_0, .int .i64 a1_1] 37 (0, 0))) ∧ Aside0 (Below w.heap.size w wc))
  case first =>
   have H := HC12.out; clear HC12
   by_cases c18 : t848 = 0
   ·rw [if_pos c18] at H; have c18b0 : (t848 == 0) = true := beq_iff_eq.mpr c18; have c18b1 : (t848 != 0) = false := bne_eq_false_iff_eq.mpr c18; clear c18
    (first | rw [c18b0] | (simp only [i64_w, i32_w]; rw [c18b0]) | skip)
    obtain ⟨t851, A19, H⟩ := ob H; have H' := Aside0.mk H; clear H; have hnb20 := NB844_843.out; have hnc20 := NB843_844.out; obtain ⟨hcz21_0, hcz21_1, hfz21_0, hfz21_1⟩ := xc2 BK844
    go_wp2_with (first | (go_at_call 35; (with_reducible refine (dioramaref02_Valid.calls a1_0 a1_1 t851 _ A19.out).mono ?_); rintro e w22 ⟨rfl, hb⟩; replace HO850 := Aside0.mk (Kd.R_below (rz HO850) hb); replace BK843 := kb BK843 hb; replace BK844 := kb BK844 hb; replace HB := bp hb; clear hb))
    go_meet
    case rel => exact ⟨_, (!t851), jz, H', ⟨by first | omega | exact Nat.le_refl _⟩, ⟨rz HO850⟩, ⟨kz⟩, ⟨kz⟩, ⟨bz⟩⟩
   ·rw [if_neg c18] at H; have c18b0 : (t848 == 0) = false := beq_eq_false_iff_ne.mpr c18; have c18b1 : (t848 != 0) = true := bne_iff_ne.mpr c18
    (first | rw [c18b0] | (simp only [i64_w, i32_w]; rw [c18b0]) | skip)
    have H' := Aside0.mk H; clear H
    go_wp2
    go_meet
    case rel => exact ⟨_, (true), jz, H', ⟨by first | omega | exact Nat.le_refl _⟩, ⟨rz HO850⟩, ⟨kz⟩, ⟨kz⟩, ⟨bz⟩⟩
  case rest =>
   clear HC12
   try clear c1
   try clear c2
   try clear p2
   try clear c4
   try clear c8
   try clear c11
   try clear c15
   try clear c18
   try clear c18b0
   try clear c18b1
   try clear c19
   try clear c20
   try clear c21
   try clear hcz16_0
   try clear hcz16_1
   try clear hcz16_2
   try clear hcz21_0
   try clear hcz21_1
   try clear hcz9_0
   try clear hcz9_1
   try clear hcz9_2
   try clear hfz16_0
   try clear hfz16_1
   try clear hfz16_2
   try clear hfz21_0
   try clear hfz21_1
   try clear hfz9_0
   try clear hfz9_1
   try clear hfz9_2
   obtain ⟨kq, x31_11, rfl, HA, HJ11, HO_5, BK843, BK844, HB⟩ := hcut
   cases kq with
   | zero => exact absurd HA.out (by simp [dioramalaw10_EditSame.j0])
   | succ kj11 =>
    have H := HA.out; clear HA; simp only [dioramalaw10_EditSame.j0] at H
    by_cases c23 : x31_11 = true
    ·subst c23; rw [if_pos rfl] at H; obtain ⟨t852, A24, H⟩ := ob H; obtain rfl := Option.some.inj H
     go_wp2_with (first | ((with_reducible refine gate_callee (f := 20) rfl ?_); refine zC 32 Try.func20 #[] ?_; (with_reducible refine (dioramalaw10_awake.calls kj11  t852 _ A24.out).mono ?_); rintro e w25 ⟨rfl, hb⟩; refine ⟨_, rfl, ?_⟩; replace HO_5 := Aside0.mk (Kd.R_below (rz HO_5) hb); replace BK843 := kb BK843 hb; replace BK844 := kb BK844 hb; replace HB := bp hb; clear hb))
     go_ret
     exact ⟨ez, bz⟩
    ·obtain rfl := bf c23; rw [if_neg (show ¬ (false = true) by decide)] at H; obtain ⟨⟨t853, t854⟩, A26, H⟩ := ob H
     (try dsimp only at H)
     obtain ⟨⟨t857, t858⟩, A27, H⟩ := ob H
     (try dsimp only at H)
     by_cases c28 : t854 = 0
     ·rw [if_pos c28] at H; have c28b0 : (t854 == 0) = true := beq_iff_eq.mpr c28; have c28b1 : (t854 != 0) = false := bne_eq_false_iff_eq.mpr c28; clear c28; obtain ⟨t859, A29, H⟩ := ob H
      by_cases c30 : t859 = true
      ·subst c30; rw [if_pos rfl] at H
       by_cases c31 : t858 = 0
       ·rw [if_pos c31] at H; have c31b0 : (t858 == 0) = true := beq_iff_eq.mpr c31; have c31b1 : (t858 != 0) = false := bne_eq_false_iff_eq.mpr c31; clear c31
        by_cases c32 : t857 = true
        ·subst c32; rw [if_pos rfl] at H; obtain ⟨t860, A33, H⟩ := ob H; obtain ⟨t861, A34, H⟩ := ob H
         by_cases c35 : t860 = t861
         ·rw [if_pos c35] at H; have c35b0 : (t860 == t861) = true := beq_iff_eq.mpr c35; have c35b1 : (t860 != t861) = false := bne_eq_false_iff_eq.mpr c35; clear c35; obtain ⟨t862, A36, H⟩ := ob H
          by_cases c37 : t862 = true
          ·subst c37; rw [if_pos rfl] at H; obtain ⟨t863, A38, H⟩ := ob H; obtain rfl := Option.some.inj H; have hnb39 := NB843_844.out; have hnc39 := NB844_843.out; obtain ⟨hcz40_0, hcz40_1, hcz40_2, hfz40_0, hfz40_1, hfz40_2⟩ := xc3 BK843; obtain ⟨Ao41, co41, eo41⟩ := Kd.R_slice HO_5.out; subst eo41
           try go_wp2_with (first | ((with_reducible refine gate_callee (f := 21) rfl ?_); refine zC 39 Try.func21 #[.slice Ao41 t847.length co41, .int .i64 a0_1, .int .i64 a0_2] ?_; (with_reducible refine (edit_Normal.calls kj11 _ _ t847 a0_1 a0_2 t853 t854 _ ?side1 ?side2 A26.out).mono ?_); (case side1 => exact cr HO_5); (case side2 => exact (Kd.R_reads' HO_5.out).2.1); rintro e w42 ⟨v855, rfl, ho0, hb⟩; refine ⟨_, rfl, ?_⟩; have HO856 := Aside0.mk (Kd.R_lower (Kd.R_new' ho0 (Kd.R_lt (rz HO_5))) sz); replace HO_5 := Aside0.mk (Kd.R_elder' (rz HO_5) (Kd.R_base ho0) hb); replace BK843 := kb BK843 hb; replace BK844 := kb BK844 hb; replace HB := bp hb; clear hb ho0; obtain ⟨hcz43_0, hcz43_1, hcz43_2, hfz43_0, hfz43_1, hfz43_2⟩ := xc3 BK843) | ((with_reducible refine gate_callee (f := 34) rfl ?_); refine zC 50 Try.func34 #[.slice A0_0 l0_0.length c0_0, .slice Ao41 t847.length co41, .int .i64 a0_1, .int .i64 a0_2] ?_; (with_reducible refine (edit_Alike.calls kj11 _ _ l0_0 _ _ t847 a0_1 a0_2 true t858 _ ?side1 ?side2 ?side3 ?side4 A27.out).mono ?_); (case side1 => exact cz HR0_0); (case side2 => exact HC0_0.out); (case side3 => exact cr HO_5); (case side4 => exact (Kd.R_reads' HO_5.out).2.1); rintro e w44 ⟨rfl, hb⟩; refine ⟨_, rfl, ?_⟩; replace HO_5 := Aside0.mk (Kd.R_below (rz HO_5) hb); replace HO856 := Aside0.mk (Kd.R_below (rz HO856) hb); replace BK843 := kb BK843 hb; replace BK844 := kb BK844 hb; replace HB := bp hb; clear hb))
           replace HO_5 := Aside0.mk (Kd.R_drew HO_5.out); replace HO856 := Aside0.mk (Kd.R_drew HO856.out); replace BK843 := Aside0.mk (blk_drew BK843.out); replace BK844 := Aside0.mk (blk_drew BK844.out); replace HB := Aside0.mk (below_drew1 HB.out); obtain ⟨Ao46, co46, eo46⟩ := Kd.R_slice HO856.out
           (first | subst eo46 | (injection eo46 with f1_ f2_ f3_; have f4_ := f1_.symm; have f5_ := f3_.symm; clear f1_ f2_ f3_; subst f4_; subst f5_))
           refine start_ (n := 38) (S := fun w' => w'.cell? ⟨gb843, 0, none⟩ = some (.slice A0_0 l0_0.length c0_0) ∧ w'.cell? ⟨gb843, 1, none⟩ = some (.int .i64 a0_1) ∧ w'.cell? ⟨gb843, 2, none⟩ = some (.int .i64 a0_2) ∧ w'.cell? ⟨gb844, 0, none⟩ = some (.int .i64 a1_0) ∧ w'.cell? ⟨gb844, 1, none⟩ = some (.int .i64 a1_1)) (ds := []) (bs 38 0) (by kernel_rfl) rfl rfl ⟨ct BK843 0, ct BK843 1, ct BK843 2, ct BK844 0, ct BK844 1⟩ (fun hHeld => ?_)
           generalize w44.drew = w45 at HO_5 HO856 BK843 BK844 HB hHeld ⊢; refine zP 0 53 38 1 ?_; refine zP 1 54 38 3 ?_; refine zP 2 55 38 7 ?_; refine zP 3 56 38 15 ?_; refine zP 4 57 38 31 ?_; refine zN 5 (some 58) 38 63 (fun K hK => ?_); refine zG Try.func42 #[.slice Ao41 t847.length co41, .slice Ao46 t853.length co46] ?_
           with_reducible refine (dioramaref00_EqEdits.calls kj11 _ _ t847 _ _ t853 true _ ?side1 ?side2 ?side3 ?side4 A29.out).mono ?_
           (case side1 => exact cr HO_5)
           (case side2 => exact (Kd.R_reads' HO_5.out).2.1)
           (case side3 => exact cr HO856)
           (case side4 => exact (Kd.R_reads' HO856.out).2.1)
           rintro e w' ⟨rfl, ⟨nd, rfl⟩⟩; refine ⟨_, rfl, ?_⟩; refine hK.out _ _ ⟨ct BK843 0, ct BK843 1, ct BK843 2, ct BK844 0, ct BK844 1⟩ (fun hHeld => ?_); clear hK K; refine zM 58 ?_; refine zP 6 59 38 127 ?_; refine zP 7 60 38 255 ?_; refine zP 8 61 38 511 ?_; refine zP 9 62 38 1023 ?_; refine zP 10 63 38 2047 ?_; refine zP 11 64 38 4095 ?_; refine zP 12 65 38 8191 ?_; refine zP 13 66 38 16383 ?_; refine zP 14 67 38 32767 ?_; refine zP 15 68 38 65535 ?_; refine zP 17 70 38 196607 ?_; refine zT 18 71 38 458751 hHeld ?_; refine zN 16 (some 69) 38 524287 (fun K hK => ?_); refine zG Try.func26 #[.slice Ao41 t847.length co41] ?_
           with_reducible refine (edit_Length.calls _ _ t847 t860 _ ?side1 ?side2 A33.out).mono ?_
           (case side1 => exact cr HO_5)
           (case side2 => exact (Kd.R_reads' HO_5.out).2.1)
           rintro e w47 ⟨rfl, hb⟩; refine ⟨_, rfl, ?_⟩; replace HO_5 := Aside0.mk (Kd.R_below (rz HO_5) hb); replace HO856 := Aside0.mk (Kd.R_below (rz HO856) hb); replace BK843 := kb BK843 hb; replace BK844 := kb BK844 hb; replace HB := bp hb; clear hb; refine hK.out _ _ ⟨ct BK843 0, ct BK843 1, ct BK843 2, ct BK844 0, ct BK844 1⟩ (fun hHeld => ?_); clear hK K; refine zM 69 ?_; refine zN 19 (some 72) 38 1048575 (fun K hK => ?_); refine zG Try.func26 #[.slice A0_0 l0_0.length c0_0] ?_
           with_reducible refine (edit_Length.calls _ _ l0_0 t861 _ ?side1 ?side2 A34.out).mono ?_
           (case side1 => exact cz HR0_0)
           (case side2 => exact HC0_0.out)
           rintro e w48 ⟨rfl, hb⟩; refine ⟨_, rfl, ?_⟩; replace HO_5 := Aside0.mk (Kd.R_below (rz HO_5) hb); replace HO856 := Aside0.mk (Kd.R_below (rz HO856) hb); replace BK843 := kb BK843 hb; replace BK844 := kb BK844 hb; replace HB := bp hb; clear hb; refine hK.out _ _ ⟨ct BK843 0, ct BK843 1, ct BK843 2, ct BK844 0, ct BK844 1⟩ (fun hHeld => ?_); clear hK K; refine zM 72 ?_; refine zP 20 73 38 2097151 ?_; refine zP 21 74 38 4194303 ?_; refine zP 22 75 38 8388607 ?_; refine zP 25 78 38 41943039 ?_; refine zP 26 79 38 109051903 ?_; refine zP 28 81 38 377487359 ?_; refine zT 23 76 38 385875967 hHeld ?_; refine zT 24 77 38 402653183 hHeld ?_; refine zT 27 80 38 536870911 hHeld ?_; refine zT 29 82 38 1073741823 hHeld ?_; refine zP 30 83 38 2147483647 ?_; refine zT 31 84 38 4294967295 hHeld ?_; refine zN 32 (some 85) 38 8589934591 (fun K hK => ?_); refine zG Try.func37 #[.agg #[.slice A0_0 l0_0.length c0_0, .int .i64 a0_1, .int .i64 a0_2], .agg #[.int .i64 a1_0, .int .i64 a1_1], .agg #[.slice Ao41 t847.length co41, .int .i64 a0_1, .int .i64 a0_2], .agg #[.int .i64 a1_0, .int .i64 a1_1]] ?_
           with_reducible refine (dioramalaw10_shows.calls _ _ l0_0 a0_1 a0_2 a1_0 a1_1 _ _ t847 a0_1 a0_2 a1_0 a1_1 true _ ?side1 ?side2 ?side3 ?side4 A36.out).mono ?_
           (case side1 => exact cz HR0_0)
           (case side2 => exact HC0_0.out)
           (case side3 => exact cr HO_5)
           (case side4 => exact (Kd.R_reads' HO_5.out).2.1)
           rintro e w49 ⟨rfl, hb⟩; refine ⟨_, rfl, ?_⟩; replace HO_5 := Aside0.mk (Kd.R_below (rz HO_5) hb); replace HO856 := Aside0.mk (Kd.R_below (rz HO856) hb); replace BK843 := kb BK843 hb; replace BK844 := kb BK844 hb; replace HB := bp hb; clear hb; refine hK.out _ _ ⟨ct BK843 0, ct BK843 1, ct BK843 2, ct BK844 0, ct BK844 1⟩ (fun hHeld => ?_); clear hK K; refine zM 85 ?_; refine zP 33 86 38 17179869183 ?_; refine zP 34 87 38 34359738367 ?_; refine zN 35 (some 88) 38 68719476735 (fun K hK => ?_); refine zG Try.func20 #[] ?_
           with_reducible refine (dioramalaw10_awake.calls kj11  t863 _ A38.out).mono ?_
           rintro e w50 ⟨rfl, hb⟩; refine ⟨_, rfl, ?_⟩; replace HO_5 := Aside0.mk (Kd.R_below (rz HO_5) hb); replace HO856 := Aside0.mk (Kd.R_below (rz HO856) hb); replace BK843 := kb BK843 hb; replace BK844 := kb BK844 hb; replace HB := bp hb; clear hb; refine hK.out _ _ ⟨ct BK843 0, ct BK843 1, ct BK843 2, ct BK844 0, ct BK844 1⟩ (fun hHeld => ?_); clear hK K; refine zM 88 ?_; refine zP 36 89 38 137438953471 ?_; refine zP 37 4 38 274877906943 ?_; refine done_ (by kernel_rfl) ?_
           try go_wp2
           go_ret
           exact ⟨ez, bz⟩
          ·obtain rfl := bf c37; rw [if_neg (show ¬ (false = true) by decide)] at H; obtain rfl := Option.some.inj H; have hnb51 := NB843_844.out; have hnc51 := NB844_843.out; obtain ⟨hcz52_0, hcz52_1, hcz52_2, hfz52_0, hfz52_1, hfz52_2⟩ := xc3 BK843; obtain ⟨Ao53, co53, eo53⟩ := Kd.R_slice HO_5.out; subst eo53
           try go_wp2_with (first | ((with_reducible refine gate_callee (f := 21) rfl ?_); refine zC 39 Try.func21 #[.slice Ao53 t847.length co53, .int .i64 a0_1, .int .i64 a0_2] ?_; (with_reducible refine (edit_Normal.calls kj11 _ _ t847 a0_1 a0_2 t853 t854 _ ?side1 ?side2 A26.out).mono ?_); (case side1 => exact cr HO_5); (case side2 => exact (Kd.R_reads' HO_5.out).2.1); rintro e w54 ⟨v855, rfl, ho0, hb⟩; refine ⟨_, rfl, ?_⟩; have HO856 := Aside0.mk (Kd.R_lower (Kd.R_new' ho0 (Kd.R_lt (rz HO_5))) sz); replace HO_5 := Aside0.mk (Kd.R_elder' (rz HO_5) (Kd.R_base ho0) hb); replace BK843 := kb BK843 hb; replace BK844 := kb BK844 hb; replace HB := bp hb; clear hb ho0; obtain ⟨hcz55_0, hcz55_1, hcz55_2, hfz55_0, hfz55_1, hfz55_2⟩ := xc3 BK843) | ((with_reducible refine gate_callee (f := 34) rfl ?_); refine zC 50 Try.func34 #[.slice A0_0 l0_0.length c0_0, .slice Ao53 t847.length co53, .int .i64 a0_1, .int .i64 a0_2] ?_; (with_reducible refine (edit_Alike.calls kj11 _ _ l0_0 _ _ t847 a0_1 a0_2 true t858 _ ?side1 ?side2 ?side3 ?side4 A27.out).mono ?_); (case side1 => exact cz HR0_0); (case side2 => exact HC0_0.out); (case side3 => exact cr HO_5); (case side4 => exact (Kd.R_reads' HO_5.out).2.1); rintro e w56 ⟨rfl, hb⟩; refine ⟨_, rfl, ?_⟩; replace HO_5 := Aside0.mk (Kd.R_below (rz HO_5) hb); replace HO856 := Aside0.mk (Kd.R_below (rz HO856) hb); replace BK843 := kb BK843 hb; replace BK844 := kb BK844 hb; replace HB := bp hb; clear hb))
           replace HO_5 := Aside0.mk (Kd.R_drew HO_5.out); replace HO856 := Aside0.mk (Kd.R_drew HO856.out); replace BK843 := Aside0.mk (blk_drew BK843.out); replace BK844 := Aside0.mk (blk_drew BK844.out); replace HB := Aside0.mk (below_drew1 HB.out); obtain ⟨Ao58, co58, eo58⟩ := Kd.R_slice HO856.out
           (first | subst eo58 | (injection eo58 with f1_ f2_ f3_; have f4_ := f1_.symm; have f5_ := f3_.symm; clear f1_ f2_ f3_; subst f4_; subst f5_))
           refine start_ (n := 38) (S := fun w' => w'.cell? ⟨gb843, 0, none⟩ = some (.slice A0_0 l0_0.length c0_0) ∧ w'.cell? ⟨gb843, 1, none⟩ = some (.int .i64 a0_1) ∧ w'.cell? ⟨gb843, 2, none⟩ = some (.int .i64 a0_2) ∧ w'.cell? ⟨gb844, 0, none⟩ = some (.int .i64 a1_0) ∧ w'.cell? ⟨gb844, 1, none⟩ = some (.int .i64 a1_1)) (ds := []) (bs 38 0) (by kernel_rfl) rfl rfl ⟨ct BK843 0, ct BK843 1, ct BK843 2, ct BK844 0, ct BK844 1⟩ (fun hHeld => ?_)
           generalize w56.drew = w57 at HO_5 HO856 BK843 BK844 HB hHeld ⊢; refine zP 0 53 38 1 ?_; refine zP 1 54 38 3 ?_; refine zP 2 55 38 7 ?_; refine zP 3 56 38 15 ?_; refine zP 4 57 38 31 ?_; refine zN 5 (some 58) 38 63 (fun K hK => ?_); refine zG Try.func42 #[.slice Ao53 t847.length co53, .slice Ao58 t853.length co58] ?_
           with_reducible refine (dioramaref00_EqEdits.calls kj11 _ _ t847 _ _ t853 true _ ?side1 ?side2 ?side3 ?side4 A29.out).mono ?_
           (case side1 => exact cr HO_5)
           (case side2 => exact (Kd.R_reads' HO_5.out).2.1)
           (case side3 => exact cr HO856)
           (case side4 => exact (Kd.R_reads' HO856.out).2.1)
           rintro e w' ⟨rfl, ⟨nd, rfl⟩⟩; refine ⟨_, rfl, ?_⟩; refine hK.out _ _ ⟨ct BK843 0, ct BK843 1, ct BK843 2, ct BK844 0, ct BK844 1⟩ (fun hHeld => ?_); clear hK K; refine zM 58 ?_; refine zP 6 59 38 127 ?_; refine zP 7 60 38 255 ?_; refine zP 8 61 38 511 ?_; refine zP 9 62 38 1023 ?_; refine zP 10 63 38 2047 ?_; refine zP 11 64 38 4095 ?_; refine zP 12 65 38 8191 ?_; refine zP 13 66 38 16383 ?_; refine zP 14 67 38 32767 ?_; refine zP 15 68 38 65535 ?_; refine zP 17 70 38 196607 ?_; refine zT 18 71 38 458751 hHeld ?_; refine zN 16 (some 69) 38 524287 (fun K hK => ?_); refine zG Try.func26 #[.slice Ao53 t847.length co53] ?_
           with_reducible refine (edit_Length.calls _ _ t847 t860 _ ?side1 ?side2 A33.out).mono ?_
           (case side1 => exact cr HO_5)
           (case side2 => exact (Kd.R_reads' HO_5.out).2.1)
           rintro e w59 ⟨rfl, hb⟩; refine ⟨_, rfl, ?_⟩; replace HO_5 := Aside0.mk (Kd.R_below (rz HO_5) hb); replace HO856 := Aside0.mk (Kd.R_below (rz HO856) hb); replace BK843 := kb BK843 hb; replace BK844 := kb BK844 hb; replace HB := bp hb; clear hb; refine hK.out _ _ ⟨ct BK843 0, ct BK843 1, ct BK843 2, ct BK844 0, ct BK844 1⟩ (fun hHeld => ?_); clear hK K; refine zM 69 ?_; refine zN 19 (some 72) 38 1048575 (fun K hK => ?_); refine zG Try.func26 #[.slice A0_0 l0_0.length c0_0] ?_
           with_reducible refine (edit_Length.calls _ _ l0_0 t861 _ ?side1 ?side2 A34.out).mono ?_
           (case side1 => exact cz HR0_0)
           (case side2 => exact HC0_0.out)
           rintro e w60 ⟨rfl, hb⟩; refine ⟨_, rfl, ?_⟩; replace HO_5 := Aside0.mk (Kd.R_below (rz HO_5) hb); replace HO856 := Aside0.mk (Kd.R_below (rz HO856) hb); replace BK843 := kb BK843 hb; replace BK844 := kb BK844 hb; replace HB := bp hb; clear hb; refine hK.out _ _ ⟨ct BK843 0, ct BK843 1, ct BK843 2, ct BK844 0, ct BK844 1⟩ (fun hHeld => ?_); clear hK K; refine zM 72 ?_; refine zP 20 73 38 2097151 ?_; refine zP 21 74 38 4194303 ?_; refine zP 22 75 38 8388607 ?_; refine zP 25 78 38 41943039 ?_; refine zP 26 79 38 109051903 ?_; refine zP 28 81 38 377487359 ?_; refine zT 23 76 38 385875967 hHeld ?_; refine zT 24 77 38 402653183 hHeld ?_; refine zT 27 80 38 536870911 hHeld ?_; refine zT 29 82 38 1073741823 hHeld ?_; refine zP 30 83 38 2147483647 ?_; refine zT 31 84 38 4294967295 hHeld ?_; refine zN 32 (some 85) 38 8589934591 (fun K hK => ?_); refine zG Try.func37 #[.agg #[.slice A0_0 l0_0.length c0_0, .int .i64 a0_1, .int .i64 a0_2], .agg #[.int .i64 a1_0, .int .i64 a1_1], .agg #[.slice Ao53 t847.length co53, .int .i64 a0_1, .int .i64 a0_2], .agg #[.int .i64 a1_0, .int .i64 a1_1]] ?_
           with_reducible refine (dioramalaw10_shows.calls _ _ l0_0 a0_1 a0_2 a1_0 a1_1 _ _ t847 a0_1 a0_2 a1_0 a1_1 false _ ?side1 ?side2 ?side3 ?side4 A36.out).mono ?_
           (case side1 => exact cz HR0_0)
           (case side2 => exact HC0_0.out)
           (case side3 => exact cr HO_5)
           (case side4 => exact (Kd.R_reads' HO_5.out).2.1)
           rintro e w61 ⟨rfl, hb⟩; refine ⟨_, rfl, ?_⟩; replace HO_5 := Aside0.mk (Kd.R_below (rz HO_5) hb); replace HO856 := Aside0.mk (Kd.R_below (rz HO856) hb); replace BK843 := kb BK843 hb; replace BK844 := kb BK844 hb; replace HB := bp hb; clear hb; refine hK.out _ _ ⟨ct BK843 0, ct BK843 1, ct BK843 2, ct BK844 0, ct BK844 1⟩ (fun hHeld => ?_); clear hK K; refine zM 85 ?_; refine zP 33 86 38 17179869183 ?_; refine zP 34 87 38 34359738367 ?_; refine zO 35 88 38 68719476735 ?_; refine zP 36 89 38 137438953471 ?_; refine zP 37 4 38 274877906943 ?_; refine done_ (by kernel_rfl) ?_
           try go_wp2
           go_ret
           exact ⟨ez, bz⟩
         ·rw [if_neg c35] at H; have c35b0 : (t860 == t861) = false := beq_eq_false_iff_ne.mpr c35; have c35b1 : (t860 != t861) = true := bne_iff_ne.mpr c35; obtain rfl := Option.some.inj H; have hnb62 := NB843_844.out; have hnc62 := NB844_843.out; obtain ⟨hcz63_0, hcz63_1, hcz63_2, hfz63_0, hfz63_1, hfz63_2⟩ := xc3 BK843; obtain ⟨Ao64, co64, eo64⟩ := Kd.R_slice HO_5.out; subst eo64
          try go_wp2_with (first | ((with_reducible refine gate_callee (f := 21) rfl ?_); refine zC 39 Try.func21 #[.slice Ao64 t847.length co64, .int .i64 a0_1, .int .i64 a0_2] ?_; (with_reducible refine (edit_Normal.calls kj11 _ _ t847 a0_1 a0_2 t853 t854 _ ?side1 ?side2 A26.out).mono ?_); (case side1 => exact cr HO_5); (case side2 => exact (Kd.R_reads' HO_5.out).2.1); rintro e w65 ⟨v855, rfl, ho0, hb⟩; refine ⟨_, rfl, ?_⟩; have HO856 := Aside0.mk (Kd.R_lower (Kd.R_new' ho0 (Kd.R_lt (rz HO_5))) sz); replace HO_5 := Aside0.mk (Kd.R_elder' (rz HO_5) (Kd.R_base ho0) hb); replace BK843 := kb BK843 hb; replace BK844 := kb BK844 hb; replace HB := bp hb; clear hb ho0; obtain ⟨hcz66_0, hcz66_1, hcz66_2, hfz66_0, hfz66_1, hfz66_2⟩ := xc3 BK843) | ((with_reducible refine gate_callee (f := 34) rfl ?_); refine zC 50 Try.func34 #[.slice A0_0 l0_0.length c0_0, .slice Ao64 t847.length co64, .int .i64 a0_1, .int .i64 a0_2] ?_; (with_reducible refine (edit_Alike.calls kj11 _ _ l0_0 _ _ t847 a0_1 a0_2 true t858 _ ?side1 ?side2 ?side3 ?side4 A27.out).mono ?_); (case side1 => exact cz HR0_0); (case side2 => exact HC0_0.out); (case side3 => exact cr HO_5); (case side4 => exact (Kd.R_reads' HO_5.out).2.1); rintro e w67 ⟨rfl, hb⟩; refine ⟨_, rfl, ?_⟩; replace HO_5 := Aside0.mk (Kd.R_below (rz HO_5) hb); replace HO856 := Aside0.mk (Kd.R_below (rz HO856) hb); replace BK843 := kb BK843 hb; replace BK844 := kb BK844 hb; replace HB := bp hb; clear hb))
          replace HO_5 := Aside0.mk (Kd.R_drew HO_5.out); replace HO856 := Aside0.mk (Kd.R_drew HO856.out); replace BK843 := Aside0.mk (blk_drew BK843.out); replace BK844 := Aside0.mk (blk_drew BK844.out); replace HB := Aside0.mk (below_drew1 HB.out); obtain ⟨Ao69, co69, eo69⟩ := Kd.R_slice HO856.out
          (first | subst eo69 | (injection eo69 with f1_ f2_ f3_; have f4_ := f1_.symm; have f5_ := f3_.symm; clear f1_ f2_ f3_; subst f4_; subst f5_))
          refine start_ (n := 38) (S := fun w' => w'.cell? ⟨gb843, 0, none⟩ = some (.slice A0_0 l0_0.length c0_0) ∧ w'.cell? ⟨gb843, 1, none⟩ = some (.int .i64 a0_1) ∧ w'.cell? ⟨gb843, 2, none⟩ = some (.int .i64 a0_2)) (ds := []) (bs 38 0) (by kernel_rfl) rfl rfl ⟨ct BK843 0, ct BK843 1, ct BK843 2⟩ (fun hHeld => ?_)
          generalize w67.drew = w68 at HO_5 HO856 BK843 BK844 HB hHeld ⊢; refine zP 0 53 38 1 ?_; refine zP 1 54 38 3 ?_; refine zP 2 55 38 7 ?_; refine zP 3 56 38 15 ?_; refine zP 4 57 38 31 ?_; refine zN 5 (some 58) 38 63 (fun K hK => ?_); refine zG Try.func42 #[.slice Ao64 t847.length co64, .slice Ao69 t853.length co69] ?_
          with_reducible refine (dioramaref00_EqEdits.calls kj11 _ _ t847 _ _ t853 true _ ?side1 ?side2 ?side3 ?side4 A29.out).mono ?_
          (case side1 => exact cr HO_5)
          (case side2 => exact (Kd.R_reads' HO_5.out).2.1)
          (case side3 => exact cr HO856)
          (case side4 => exact (Kd.R_reads' HO856.out).2.1)
          rintro e w' ⟨rfl, ⟨nd, rfl⟩⟩; refine ⟨_, rfl, ?_⟩; refine hK.out _ _ ⟨ct BK843 0, ct BK843 1, ct BK843 2⟩ (fun hHeld => ?_); clear hK K; refine zM 58 ?_; refine zP 6 59 38 127 ?_; refine zP 7 60 38 255 ?_; refine zP 8 61 38 511 ?_; refine zP 9 62 38 1023 ?_; refine zP 10 63 38 2047 ?_; refine zP 11 64 38 4095 ?_; refine zP 12 65 38 8191 ?_; refine zP 13 66 38 16383 ?_; refine zP 14 67 38 32767 ?_; refine zP 15 68 38 65535 ?_; refine zP 17 70 38 196607 ?_; refine zT 18 71 38 458751 hHeld ?_; refine zN 16 (some 69) 38 524287 (fun K hK => ?_); refine zG Try.func26 #[.slice Ao64 t847.length co64] ?_
          with_reducible refine (edit_Length.calls _ _ t847 t860 _ ?side1 ?side2 A33.out).mono ?_
          (case side1 => exact cr HO_5)
          (case side2 => exact (Kd.R_reads' HO_5.out).2.1)
          rintro e w70 ⟨rfl, hb⟩; refine ⟨_, rfl, ?_⟩; replace HO_5 := Aside0.mk (Kd.R_below (rz HO_5) hb); replace HO856 := Aside0.mk (Kd.R_below (rz HO856) hb); replace BK843 := kb BK843 hb; replace BK844 := kb BK844 hb; replace HB := bp hb; clear hb; refine hK.out _ _ ⟨ct BK843 0, ct BK843 1, ct BK843 2⟩ (fun hHeld => ?_); clear hK K; refine zM 69 ?_; refine zN 19 (some 72) 38 1048575 (fun K hK => ?_); refine zG Try.func26 #[.slice A0_0 l0_0.length c0_0] ?_
          with_reducible refine (edit_Length.calls _ _ l0_0 t861 _ ?side1 ?side2 A34.out).mono ?_
          (case side1 => exact cz HR0_0)
          (case side2 => exact HC0_0.out)
          rintro e w71 ⟨rfl, hb⟩; refine ⟨_, rfl, ?_⟩; replace HO_5 := Aside0.mk (Kd.R_below (rz HO_5) hb); replace HO856 := Aside0.mk (Kd.R_below (rz HO856) hb); replace BK843 := kb BK843 hb; replace BK844 := kb BK844 hb; replace HB := bp hb; clear hb; refine hK.out _ _ ⟨ct BK843 0, ct BK843 1, ct BK843 2⟩ (fun hHeld => ?_); clear hK K; refine zM 72 ?_; refine zP 20 73 38 2097151 ?_; refine zP 21 74 38 4194303 ?_; refine zP 22 75 38 8388607 ?_; refine zO 23 76 38 16777215 ?_; refine zO 24 77 38 33554431 ?_; refine zO 25 78 38 67108863 ?_; refine zO 26 79 38 134217727 ?_; refine zO 27 80 38 268435455 ?_; refine zO 28 81 38 536870911 ?_; refine zO 29 82 38 1073741823 ?_; refine zO 30 83 38 2147483647 ?_; refine zO 31 84 38 4294967295 ?_; refine zO 32 85 38 8589934591 ?_; refine zP 33 86 38 17179869183 ?_; refine zP 34 87 38 34359738367 ?_; refine zO 35 88 38 68719476735 ?_; refine zP 36 89 38 137438953471 ?_; refine zP 37 4 38 274877906943 ?_; refine done_ (by kernel_rfl) ?_
          try go_wp2
          go_ret
          exact ⟨ez, bz⟩
        ·obtain rfl := bf c32; rw [if_neg (show ¬ (false = true) by decide)] at H; obtain rfl := Option.some.inj H; have hnb72 := NB843_844.out; have hnc72 := NB844_843.out; obtain ⟨hcz73_0, hcz73_1, hcz73_2, hfz73_0, hfz73_1, hfz73_2⟩ := xc3 BK843; obtain ⟨Ao74, co74, eo74⟩ := Kd.R_slice HO_5.out; subst eo74
         try go_wp2_with (first | ((with_reducible refine gate_callee (f := 21) rfl ?_); refine zC 39 Try.func21 #[.slice Ao74 t847.length co74, .int .i64 a0_1, .int .i64 a0_2] ?_; (with_reducible refine (edit_Normal.calls kj11 _ _ t847 a0_1 a0_2 t853 t854 _ ?side1 ?side2 A26.out).mono ?_); (case side1 => exact cr HO_5); (case side2 => exact (Kd.R_reads' HO_5.out).2.1); rintro e w75 ⟨v855, rfl, ho0, hb⟩; refine ⟨_, rfl, ?_⟩; have HO856 := Aside0.mk (Kd.R_lower (Kd.R_new' ho0 (Kd.R_lt (rz HO_5))) sz); replace HO_5 := Aside0.mk (Kd.R_elder' (rz HO_5) (Kd.R_base ho0) hb); replace BK843 := kb BK843 hb; replace BK844 := kb BK844 hb; replace HB := bp hb; clear hb ho0; obtain ⟨hcz76_0, hcz76_1, hcz76_2, hfz76_0, hfz76_1, hfz76_2⟩ := xc3 BK843) | ((with_reducible refine gate_callee (f := 34) rfl ?_); refine zC 50 Try.func34 #[.slice A0_0 l0_0.length c0_0, .slice Ao74 t847.length co74, .int .i64 a0_1, .int .i64 a0_2] ?_; (with_reducible refine (edit_Alike.calls kj11 _ _ l0_0 _ _ t847 a0_1 a0_2 false t858 _ ?side1 ?side2 ?side3 ?side4 A27.out).mono ?_); (case side1 => exact cz HR0_0); (case side2 => exact HC0_0.out); (case side3 => exact cr HO_5); (case side4 => exact (Kd.R_reads' HO_5.out).2.1); rintro e w77 ⟨rfl, hb⟩; refine ⟨_, rfl, ?_⟩; replace HO_5 := Aside0.mk (Kd.R_below (rz HO_5) hb); replace HO856 := Aside0.mk (Kd.R_below (rz HO856) hb); replace BK843 := kb BK843 hb; replace BK844 := kb BK844 hb; replace HB := bp hb; clear hb))
         replace HO_5 := Aside0.mk (Kd.R_drew HO_5.out); replace HO856 := Aside0.mk (Kd.R_drew HO856.out); replace BK843 := Aside0.mk (blk_drew BK843.out); replace BK844 := Aside0.mk (blk_drew BK844.out); replace HB := Aside0.mk (below_drew1 HB.out); obtain ⟨Ao79, co79, eo79⟩ := Kd.R_slice HO856.out
         (first | subst eo79 | (injection eo79 with f1_ f2_ f3_; have f4_ := f1_.symm; have f5_ := f3_.symm; clear f1_ f2_ f3_; subst f4_; subst f5_))
         refine start_ (n := 38) (S := fun w' => True) (ds := []) (bs 38 0) (by kernel_rfl) rfl rfl trivial (fun hHeld => ?_); generalize w77.drew = w78 at HO_5 HO856 BK843 BK844 HB hHeld ⊢; refine zP 0 53 38 1 ?_; refine zP 1 54 38 3 ?_; refine zP 2 55 38 7 ?_; refine zP 3 56 38 15 ?_; refine zP 4 57 38 31 ?_; refine zN 5 (some 58) 38 63 (fun K hK => ?_); refine zG Try.func42 #[.slice Ao74 t847.length co74, .slice Ao79 t853.length co79] ?_
         with_reducible refine (dioramaref00_EqEdits.calls kj11 _ _ t847 _ _ t853 true _ ?side1 ?side2 ?side3 ?side4 A29.out).mono ?_
         (case side1 => exact cr HO_5)
         (case side2 => exact (Kd.R_reads' HO_5.out).2.1)
         (case side3 => exact cr HO856)
         (case side4 => exact (Kd.R_reads' HO856.out).2.1)
         rintro e w' ⟨rfl, ⟨nd, rfl⟩⟩; refine ⟨_, rfl, ?_⟩; refine hK.out _ _ trivial (fun hHeld => ?_); clear hK K; refine zM 58 ?_; refine zP 6 59 38 127 ?_; refine zP 7 60 38 255 ?_; refine zP 8 61 38 511 ?_; refine zP 9 62 38 1023 ?_; refine zP 10 63 38 2047 ?_; refine zP 11 64 38 4095 ?_; refine zP 12 65 38 8191 ?_; refine zP 13 66 38 16383 ?_; refine zP 14 67 38 32767 ?_; refine zO 15 68 38 65535 ?_; refine zO 16 69 38 131071 ?_; refine zO 17 70 38 262143 ?_; refine zO 18 71 38 524287 ?_; refine zO 19 72 38 1048575 ?_; refine zO 20 73 38 2097151 ?_; refine zP 21 74 38 4194303 ?_; refine zP 22 75 38 8388607 ?_; refine zO 23 76 38 16777215 ?_; refine zO 24 77 38 33554431 ?_; refine zO 25 78 38 67108863 ?_; refine zO 26 79 38 134217727 ?_; refine zO 27 80 38 268435455 ?_; refine zO 28 81 38 536870911 ?_; refine zO 29 82 38 1073741823 ?_; refine zO 30 83 38 2147483647 ?_; refine zO 31 84 38 4294967295 ?_; refine zO 32 85 38 8589934591 ?_; refine zP 33 86 38 17179869183 ?_; refine zP 34 87 38 34359738367 ?_; refine zO 35 88 38 68719476735 ?_; refine zP 36 89 38 137438953471 ?_; refine zP 37 4 38 274877906943 ?_; refine done_ (by kernel_rfl) ?_
         try go_wp2
         go_ret
         exact ⟨ez, bz⟩
       ·rw [if_neg c31] at H; have c31b0 : (t858 == 0) = false := beq_eq_false_iff_ne.mpr c31; have c31b1 : (t858 != 0) = true := bne_iff_ne.mpr c31; obtain rfl := Option.some.inj H; have hnb80 := NB843_844.out; have hnc80 := NB844_843.out; obtain ⟨hcz81_0, hcz81_1, hcz81_2, hfz81_0, hfz81_1, hfz81_2⟩ := xc3 BK843; obtain ⟨Ao82, co82, eo82⟩ := Kd.R_slice HO_5.out; subst eo82
        try go_wp2_with (first | ((with_reducible refine gate_callee (f := 21) rfl ?_); refine zC 39 Try.func21 #[.slice Ao82 t847.length co82, .int .i64 a0_1, .int .i64 a0_2] ?_; (with_reducible refine (edit_Normal.calls kj11 _ _ t847 a0_1 a0_2 t853 t854 _ ?side1 ?side2 A26.out).mono ?_); (case side1 => exact cr HO_5); (case side2 => exact (Kd.R_reads' HO_5.out).2.1); rintro e w83 ⟨v855, rfl, ho0, hb⟩; refine ⟨_, rfl, ?_⟩; have HO856 := Aside0.mk (Kd.R_lower (Kd.R_new' ho0 (Kd.R_lt (rz HO_5))) sz); replace HO_5 := Aside0.mk (Kd.R_elder' (rz HO_5) (Kd.R_base ho0) hb); replace BK843 := kb BK843 hb; replace BK844 := kb BK844 hb; replace HB := bp hb; clear hb ho0; obtain ⟨hcz84_0, hcz84_1, hcz84_2, hfz84_0, hfz84_1, hfz84_2⟩ := xc3 BK843) | ((with_reducible refine gate_callee (f := 34) rfl ?_); refine zC 50 Try.func34 #[.slice A0_0 l0_0.length c0_0, .slice Ao82 t847.length co82, .int .i64 a0_1, .int .i64 a0_2] ?_; (with_reducible refine (edit_Alike.calls kj11 _ _ l0_0 _ _ t847 a0_1 a0_2 t857 t858 _ ?side1 ?side2 ?side3 ?side4 A27.out).mono ?_); (case side1 => exact cz HR0_0); (case side2 => exact HC0_0.out); (case side3 => exact cr HO_5); (case side4 => exact (Kd.R_reads' HO_5.out).2.1); rintro e w85 ⟨rfl, hb⟩; refine ⟨_, rfl, ?_⟩; replace HO_5 := Aside0.mk (Kd.R_below (rz HO_5) hb); replace HO856 := Aside0.mk (Kd.R_below (rz HO856) hb); replace BK843 := kb BK843 hb; replace BK844 := kb BK844 hb; replace HB := bp hb; clear hb))
        replace HO_5 := Aside0.mk (Kd.R_drew HO_5.out); replace HO856 := Aside0.mk (Kd.R_drew HO856.out); replace BK843 := Aside0.mk (blk_drew BK843.out); replace BK844 := Aside0.mk (blk_drew BK844.out); replace HB := Aside0.mk (below_drew1 HB.out); obtain ⟨Ao87, co87, eo87⟩ := Kd.R_slice HO856.out
        (first | subst eo87 | (injection eo87 with f1_ f2_ f3_; have f4_ := f1_.symm; have f5_ := f3_.symm; clear f1_ f2_ f3_; subst f4_; subst f5_))
        refine start_ (n := 38) (S := fun w' => True) (ds := []) (bs 38 0) (by kernel_rfl) rfl rfl trivial (fun hHeld => ?_); generalize w85.drew = w86 at HO_5 HO856 BK843 BK844 HB hHeld ⊢; refine zP 0 53 38 1 ?_; refine zP 1 54 38 3 ?_; refine zP 2 55 38 7 ?_; refine zP 3 56 38 15 ?_; refine zP 4 57 38 31 ?_; refine zN 5 (some 58) 38 63 (fun K hK => ?_); refine zG Try.func42 #[.slice Ao82 t847.length co82, .slice Ao87 t853.length co87] ?_
        with_reducible refine (dioramaref00_EqEdits.calls kj11 _ _ t847 _ _ t853 true _ ?side1 ?side2 ?side3 ?side4 A29.out).mono ?_
        (case side1 => exact cr HO_5)
        (case side2 => exact (Kd.R_reads' HO_5.out).2.1)
        (case side3 => exact cr HO856)
        (case side4 => exact (Kd.R_reads' HO856.out).2.1)
        rintro e w' ⟨rfl, ⟨nd, rfl⟩⟩; refine ⟨_, rfl, ?_⟩; refine hK.out _ _ trivial (fun hHeld => ?_); clear hK K; refine zM 58 ?_; refine zP 6 59 38 127 ?_; refine zP 7 60 38 255 ?_; refine zP 8 61 38 511 ?_; refine zP 9 62 38 1023 ?_; refine zP 10 63 38 2047 ?_; refine zP 11 64 38 4095 ?_; refine zO 12 65 38 8191 ?_; refine zP 13 66 38 16383 ?_; refine zP 14 67 38 32767 ?_; refine zO 15 68 38 65535 ?_; refine zO 16 69 38 131071 ?_; refine zO 17 70 38 262143 ?_; refine zO 18 71 38 524287 ?_; refine zO 19 72 38 1048575 ?_; refine zO 20 73 38 2097151 ?_; refine zP 21 74 38 4194303 ?_; refine zP 22 75 38 8388607 ?_; refine zO 23 76 38 16777215 ?_; refine zO 24 77 38 33554431 ?_; refine zO 25 78 38 67108863 ?_; refine zO 26 79 38 134217727 ?_; refine zO 27 80 38 268435455 ?_; refine zO 28 81 38 536870911 ?_; refine zO 29 82 38 1073741823 ?_; refine zO 30 83 38 2147483647 ?_; refine zO 31 84 38 4294967295 ?_; refine zO 32 85 38 8589934591 ?_; refine zP 33 86 38 17179869183 ?_; refine zP 34 87 38 34359738367 ?_; refine zO 35 88 38 68719476735 ?_; refine zP 36 89 38 137438953471 ?_; refine zP 37 4 38 274877906943 ?_; refine done_ (by kernel_rfl) ?_
        try go_wp2
        go_ret
        exact ⟨ez, bz⟩
      ·obtain rfl := bf c30; rw [if_neg (show ¬ (false = true) by decide)] at H; obtain rfl := Option.some.inj H; have hnb88 := NB843_844.out; have hnc88 := NB844_843.out; obtain ⟨hcz89_0, hcz89_1, hcz89_2, hfz89_0, hfz89_1, hfz89_2⟩ := xc3 BK843; obtain ⟨Ao90, co90, eo90⟩ := Kd.R_slice HO_5.out; subst eo90
       try go_wp2_with (first | ((with_reducible refine gate_callee (f := 21) rfl ?_); refine zC 39 Try.func21 #[.slice Ao90 t847.length co90, .int .i64 a0_1, .int .i64 a0_2] ?_; (with_reducible refine (edit_Normal.calls kj11 _ _ t847 a0_1 a0_2 t853 t854 _ ?side1 ?side2 A26.out).mono ?_); (case side1 => exact cr HO_5); (case side2 => exact (Kd.R_reads' HO_5.out).2.1); rintro e w91 ⟨v855, rfl, ho0, hb⟩; refine ⟨_, rfl, ?_⟩; have HO856 := Aside0.mk (Kd.R_lower (Kd.R_new' ho0 (Kd.R_lt (rz HO_5))) sz); replace HO_5 := Aside0.mk (Kd.R_elder' (rz HO_5) (Kd.R_base ho0) hb); replace BK843 := kb BK843 hb; replace BK844 := kb BK844 hb; replace HB := bp hb; clear hb ho0; obtain ⟨hcz92_0, hcz92_1, hcz92_2, hfz92_0, hfz92_1, hfz92_2⟩ := xc3 BK843) | ((with_reducible refine gate_callee (f := 34) rfl ?_); refine zC 50 Try.func34 #[.slice A0_0 l0_0.length c0_0, .slice Ao90 t847.length co90, .int .i64 a0_1, .int .i64 a0_2] ?_; (with_reducible refine (edit_Alike.calls kj11 _ _ l0_0 _ _ t847 a0_1 a0_2 t857 t858 _ ?side1 ?side2 ?side3 ?side4 A27.out).mono ?_); (case side1 => exact cz HR0_0); (case side2 => exact HC0_0.out); (case side3 => exact cr HO_5); (case side4 => exact (Kd.R_reads' HO_5.out).2.1); rintro e w93 ⟨rfl, hb⟩; refine ⟨_, rfl, ?_⟩; replace HO_5 := Aside0.mk (Kd.R_below (rz HO_5) hb); replace HO856 := Aside0.mk (Kd.R_below (rz HO856) hb); replace BK843 := kb BK843 hb; replace BK844 := kb BK844 hb; replace HB := bp hb; clear hb))
       replace HO_5 := Aside0.mk (Kd.R_drew HO_5.out); replace HO856 := Aside0.mk (Kd.R_drew HO856.out); replace BK843 := Aside0.mk (blk_drew BK843.out); replace BK844 := Aside0.mk (blk_drew BK844.out); replace HB := Aside0.mk (below_drew1 HB.out); obtain ⟨Ao95, co95, eo95⟩ := Kd.R_slice HO856.out
       (first | subst eo95 | (injection eo95 with f1_ f2_ f3_; have f4_ := f1_.symm; have f5_ := f3_.symm; clear f1_ f2_ f3_; subst f4_; subst f5_))
       refine start_ (n := 38) (S := fun w' => True) (ds := []) (bs 38 0) (by kernel_rfl) rfl rfl trivial (fun hHeld => ?_); generalize w93.drew = w94 at HO_5 HO856 BK843 BK844 HB hHeld ⊢; refine zP 0 53 38 1 ?_; refine zP 1 54 38 3 ?_; refine zP 2 55 38 7 ?_; refine zP 3 56 38 15 ?_; refine zP 4 57 38 31 ?_; refine zN 5 (some 58) 38 63 (fun K hK => ?_); refine zG Try.func42 #[.slice Ao90 t847.length co90, .slice Ao95 t853.length co95] ?_
       with_reducible refine (dioramaref00_EqEdits.calls kj11 _ _ t847 _ _ t853 false _ ?side1 ?side2 ?side3 ?side4 A29.out).mono ?_
       (case side1 => exact cr HO_5)
       (case side2 => exact (Kd.R_reads' HO_5.out).2.1)
       (case side3 => exact cr HO856)
       (case side4 => exact (Kd.R_reads' HO856.out).2.1)
       rintro e w' ⟨rfl, ⟨nd, rfl⟩⟩; refine ⟨_, rfl, ?_⟩; refine hK.out _ _ trivial (fun hHeld => ?_); clear hK K; refine zM 58 ?_; refine zP 6 59 38 127 ?_; refine zP 7 60 38 255 ?_; refine zO 8 61 38 511 ?_; refine zO 9 62 38 1023 ?_; refine zP 10 63 38 2047 ?_; refine zP 11 64 38 4095 ?_; refine zO 12 65 38 8191 ?_; refine zP 13 66 38 16383 ?_; refine zP 14 67 38 32767 ?_; refine zO 15 68 38 65535 ?_; refine zO 16 69 38 131071 ?_; refine zO 17 70 38 262143 ?_; refine zO 18 71 38 524287 ?_; refine zO 19 72 38 1048575 ?_; refine zO 20 73 38 2097151 ?_; refine zP 21 74 38 4194303 ?_; refine zP 22 75 38 8388607 ?_; refine zO 23 76 38 16777215 ?_; refine zO 24 77 38 33554431 ?_; refine zO 25 78 38 67108863 ?_; refine zO 26 79 38 134217727 ?_; refine zO 27 80 38 268435455 ?_; refine zO 28 81 38 536870911 ?_; refine zO 29 82 38 1073741823 ?_; refine zO 30 83 38 2147483647 ?_; refine zO 31 84 38 4294967295 ?_; refine zO 32 85 38 8589934591 ?_; refine zP 33 86 38 17179869183 ?_; refine zP 34 87 38 34359738367 ?_; refine zO 35 88 38 68719476735 ?_; refine zP 36 89 38 137438953471 ?_; refine zP 37 4 38 274877906943 ?_; refine done_ (by kernel_rfl) ?_
       try go_wp2
       go_ret
       exact ⟨ez, bz⟩
     ·rw [if_neg c28] at H; have c28b0 : (t854 == 0) = false := beq_eq_false_iff_ne.mpr c28; have c28b1 : (t854 != 0) = true := bne_iff_ne.mpr c28; obtain rfl := Option.some.inj H; have hnb96 := NB843_844.out; have hnc96 := NB844_843.out; obtain ⟨hcz97_0, hcz97_1, hcz97_2, hfz97_0, hfz97_1, hfz97_2⟩ := xc3 BK843; obtain ⟨Ao98, co98, eo98⟩ := Kd.R_slice HO_5.out; subst eo98
      try go_wp2_with (first | ((with_reducible refine gate_callee (f := 21) rfl ?_); refine zC 39 Try.func21 #[.slice Ao98 t847.length co98, .int .i64 a0_1, .int .i64 a0_2] ?_; (with_reducible refine (edit_Normal.calls kj11 _ _ t847 a0_1 a0_2 t853 t854 _ ?side1 ?side2 A26.out).mono ?_); (case side1 => exact cr HO_5); (case side2 => exact (Kd.R_reads' HO_5.out).2.1); rintro e w99 ⟨v855, rfl, ho0, hb⟩; refine ⟨_, rfl, ?_⟩; have HO856 := Aside0.mk (Kd.R_lower (Kd.R_new' ho0 (Kd.R_lt (rz HO_5))) sz); replace HO_5 := Aside0.mk (Kd.R_elder' (rz HO_5) (Kd.R_base ho0) hb); replace BK843 := kb BK843 hb; replace BK844 := kb BK844 hb; replace HB := bp hb; clear hb ho0; obtain ⟨hcz100_0, hcz100_1, hcz100_2, hfz100_0, hfz100_1, hfz100_2⟩ := xc3 BK843) | ((with_reducible refine gate_callee (f := 34) rfl ?_); refine zC 50 Try.func34 #[.slice A0_0 l0_0.length c0_0, .slice Ao98 t847.length co98, .int .i64 a0_1, .int .i64 a0_2] ?_; (with_reducible refine (edit_Alike.calls kj11 _ _ l0_0 _ _ t847 a0_1 a0_2 t857 t858 _ ?side1 ?side2 ?side3 ?side4 A27.out).mono ?_); (case side1 => exact cz HR0_0); (case side2 => exact HC0_0.out); (case side3 => exact cr HO_5); (case side4 => exact (Kd.R_reads' HO_5.out).2.1); rintro e w101 ⟨rfl, hb⟩; refine ⟨_, rfl, ?_⟩; replace HO_5 := Aside0.mk (Kd.R_below (rz HO_5) hb); replace HO856 := Aside0.mk (Kd.R_below (rz HO856) hb); replace BK843 := kb BK843 hb; replace BK844 := kb BK844 hb; replace HB := bp hb; clear hb))
      replace HO_5 := Aside0.mk (Kd.R_drew HO_5.out); replace HO856 := Aside0.mk (Kd.R_drew HO856.out); replace BK843 := Aside0.mk (blk_drew BK843.out); replace BK844 := Aside0.mk (blk_drew BK844.out); replace HB := Aside0.mk (below_drew1 HB.out); refine start_ (n := 38) (S := fun w' => True) (ds := []) (bs 38 0) (by kernel_rfl) rfl rfl trivial (fun hHeld => ?_); generalize w101.drew = w102 at HO_5 HO856 BK843 BK844 HB hHeld ⊢; refine zP 0 53 38 1 ?_; refine zP 1 54 38 3 ?_; refine zP 2 55 38 7 ?_; refine zO 3 56 38 15 ?_; refine zO 4 57 38 31 ?_; refine zO 5 58 38 63 ?_; refine zP 6 59 38 127 ?_; refine zP 7 60 38 255 ?_; refine zO 8 61 38 511 ?_; refine zO 9 62 38 1023 ?_; refine zP 10 63 38 2047 ?_; refine zP 11 64 38 4095 ?_; refine zO 12 65 38 8191 ?_; refine zP 13 66 38 16383 ?_; refine zP 14 67 38 32767 ?_; refine zO 15 68 38 65535 ?_; refine zO 16 69 38 131071 ?_; refine zO 17 70 38 262143 ?_; refine zO 18 71 38 524287 ?_; refine zO 19 72 38 1048575 ?_; refine zO 20 73 38 2097151 ?_; refine zP 21 74 38 4194303 ?_; refine zP 22 75 38 8388607 ?_; refine zO 23 76 38 16777215 ?_; refine zO 24 77 38 33554431 ?_; refine zO 25 78 38 67108863 ?_; refine zO 26 79 38 134217727 ?_; refine zO 27 80 38 268435455 ?_; refine zO 28 81 38 536870911 ?_; refine zO 29 82 38 1073741823 ?_; refine zO 30 83 38 2147483647 ?_; refine zO 31 84 38 4294967295 ?_; refine zO 32 85 38 8589934591 ?_; refine zP 33 86 38 17179869183 ?_; refine zP 34 87 38 34359738367 ?_; refine zO 35 88 38 68719476735 ?_; refine zP 36 89 38 137438953471 ?_; refine zP 37 4 38 274877906943 ?_; refine done_ (by kernel_rfl) ?_
      try go_wp2
      go_ret
      exact ⟨ez, bz⟩
end Go.Proofs.Ytpbhepdgamoiaaa.E
namespace Go.Proofs.Ytpbhepdgamoiaaa.E
open Go.Proofs.Ytpbhepdgamoiaaa.Z Go.RowKit Go.Proofs.YtpbhepdgamoiaaaW.PrintWords Go.Proofs.YtpbhepdgamoiaaaW.PrintLast Go.Proofs.YtpbhepdgamoiaaaW.PrintMore
attribute [local go_sem] max2_int min2_int max_two min_two max_three min_three max_four min_four
set_option linter.unusedVariables false
set_option linter.unusedSimpArgs false
attribute [local go_sem high] eqA77
end Go.Proofs.Ytpbhepdgamoiaaa.E
namespace Go.Proofs.Ytpbhepdgamoiaaa.E
open Go.Proofs.Ytpbhepdgamoiaaa.Z Go.RowKit Go.Proofs.YtpbhepdgamoiaaaW.PrintWords Go.Proofs.YtpbhepdgamoiaaaW.PrintLast Go.Proofs.YtpbhepdgamoiaaaW.PrintMore
attribute [local go_sem] max2_int min2_int max_two min_two max_three min_three max_four min_four
set_option linter.unusedVariables false
set_option linter.unusedSimpArgs false
end Go.Proofs.Ytpbhepdgamoiaaa.E
namespace Go.Proofs.Ytpbhepdgamoiaaa.Pf
open Go.RowKit Go Go.Proofs.YtpbhepdgamoiaaaW.PrintWords Go.Proofs.YtpbhepdgamoiaaaW.PrintLast Go.Proofs.YtpbhepdgamoiaaaW.PrintMore Go.Proofs.Ytpbhepdgamoiaaa.Mn Go.Proofs.Ytpbhepdgamoiaaa.Rf Go.Proofs.Ytpbhepdgamoiaaa.Er Go.Proofs.Ytpbhepdgamoiaaa.Ek Go.Proofs.Ytpbhepdgamoiaaa.E Go.Proofs.Ytpbhepdgamoiaaa.Pe
set_option linter.unusedVariables false
set_option linter.unusedSimpArgs false
def lowV (x : Ed) : Ed := ⟨x.f0, x.f1, (qq x.f2 x.f3).num, ((qq x.f2 x.f3).den : Int)⟩
def ovV (ms ts : Int) (a b : Ed) : Bool := overB ms ts a.f0 a.f1 a.f2 a.f3 b.f1 b.f2 b.f3
def push (ms ts : Int) : List Ed → Ed → List Ed
 | [], e => [e]
 | a :: t, e => if ovV ms ts a e = true then ⟨a.f0 + e.f0, a.f1, a.f2, a.f3⟩ :: t else e :: a :: t
def nrmR (ms ts : Int) (out l : List Ed) : List Ed := (l.map lowV).foldl (push ms ts) out
def nrm (ms ts : Int) (l : List Ed) : List Ed := (nrmR ms ts [] l).reverse
def fin (out : List Ed) : List Ed × Int := if 20 < out.length then ([], 2) else (out.reverse, 0)
def nrmV (ms ts : Int) (l : List Ed) : List Ed × Int := if 1099511627776 < sumD l then ([], 2) else fin (nrmR ms ts [] l)
structure Wd (x : Ed) : Prop where
 d0 : 1 ≤ x.f0
 m0 : -1 ≤ x.f1
 m1 : x.f1 ≤ 1099511627776
 n0 : 0 ≤ x.f2
 n1 : x.f2 ≤ 1000
 e0 : 1 ≤ x.f3
 e1 : x.f3 ≤ 1000
theorem wd_low {x : Ed} (h : Vd x) : Wd (lowV x) := by
 have hq := qq_low h.n0 h.e0
 have h1 := h.n1
 have h2 := h.e1
 exact ⟨h.d0, h.m0, h.m1, hq.1, by unfold lowV; simp only; omega, hq.2.2.1, by unfold lowV; simp only; omega⟩
theorem low_f {x : Ed} (h : Vd x) : edit_lowest.f x.f0 x.f1 x.f2 x.f3 = some ((lowV x).f0, (lowV x).f1, (lowV x).f2, (lowV x).f3) := by
 unfold edit_lowest.f rateOk
 have h0 := h.n0
 have h1 := h.n1
 have h2 := h.e0
 have h3 := h.e1
 rw [decide_eq_true h0, decide_eq_true (show x.f2 ≤ 1000000 by omega), decide_eq_true h2, decide_eq_true (show x.f3 ≤ 1000000 by omega)]
 rfl
theorem over_f {ms ts : Int} {a b : Ed} (hc : Ck ms ts) (ha : Wd a) (hd : a.f0 ≤ 1099511627776) (hb : Wd b) : edit_clocks_over.f ms ts a.f0 a.f1 a.f2 a.f3 b.f0 b.f1 b.f2 b.f3 = some (ovV ms ts a b) := by
 unfold edit_clocks_over.f overOk in64
 have c0 := hc.m0
 have c1 := hc.m1
 have c2 := hc.t0
 have c3 := hc.t1
 have a0 := ha.d0
 have a1 := ha.m0
 have a2 := ha.m1
 have a3 := ha.n0
 have a4 := ha.n1
 have a5 := ha.e0
 have a6 := ha.e1
 have b1 := hb.m0
 have b2 := hb.m1
 rw [if_pos (by simp only [Bool.and_eq_true, decide_eq_true_eq]; omega)]
 rfl
theorem sumD_rev (l : List Ed) : sumD l.reverse = sumD l := by
 induction l with
 | nil => rfl
 | cons x t ih => rw [List.reverse_cons, sumD_app, ih]; simp only [sumD]; omega
theorem push_sum (ms ts : Int) (out : List Ed) (e : Ed) : sumD (push ms ts out e) = sumD out + e.f0 := by
 cases out with
 | nil => simp [push, sumD]
 | cons a t =>
  simp only [push]
  split
  ·simp only [sumD]; omega
  ·simp only [sumD]; omega
theorem push_wd {ms ts : Int} {out : List Ed} {e : Ed} (h : ∀ x ∈ out, Wd x) (he : Wd e) : ∀ x ∈ push ms ts out e, Wd x := by
 cases out with
 | nil => simpa [push] using he
 | cons a t =>
  have ha := h a (by simp)
  simp only [push]
  split
  ·intro x hx
   simp only [List.mem_cons] at hx
   rcases hx with rfl | hx
   ·have a0 := ha.d0
    have e0 := he.d0
    exact ⟨by simp only; omega, ha.m0, ha.m1, ha.n0, ha.n1, ha.e0, ha.e1⟩
   ·exact h x (by simp [hx])
  ·intro x hx
   simp only [List.mem_cons] at hx
   rcases hx with rfl | hx
   ·exact he
   ·exact h x (by simpa using hx)
theorem push_len (ms ts : Int) (out : List Ed) (e : Ed) : (push ms ts out e).length ≤ out.length + 1 := by
 cases out with
 | nil => simp [push]
 | cons a t =>
  simp only [push]
  split <;> simp
theorem wd_sum {l : List Ed} (h : ∀ x ∈ l, Wd x) : 0 ≤ sumD l := by
 induction l with
 | nil => simp [sumD]
 | cons x t ih =>
  have h1 := (h x (by simp)).d0
  have h2 := ih (fun y hy => h y (by simp [hy]))
  simp only [sumD]
  omega
theorem normal_l {ms ts : Int} (hc : Ck ms ts) (l : List Ed) (hV : ∀ x ∈ l, Vd x) (hl : l.length ≤ 1000000000) (rest : List Ed) :
  ∀ pre out, l = pre ++ rest → sumD out = sumD pre → sumD pre ≤ 1099511627776 → (∀ x ∈ out, Wd x) → out.length ≤ pre.length →
   Ev (fun k => edit_clocks_normal.l0 k out.reverse (sumD pre) l (l.length : Int) (pre.length : Int) ms ts) (if 1099511627776 < sumD l then ([], 2) else fin (nrmR ms ts out rest)) := by
 induction rest with
 | nil =>
  intro pre out he hs hp hw ho
  subst he
  rw [if_neg (by simp only [List.append_nil]; omega)]
  refine Ev.step (f := fun _ => some (fin (nrmR ms ts out []))) (fun k => ?_) (Ev.now _)
  simp only [edit_clocks_normal.l0, List.append_nil]
  rw [if_neg (by omega)]
  unfold fin nrmR
  simp only [List.map_nil, List.foldl_nil, List.length_reverse]
  by_cases h : 20 < out.length
  ·rw [if_pos h, if_pos (by omega)]
  ·rw [if_neg h, if_neg (by omega)]
 | cons x t ih =>
  intro pre out he hs hp hw ho
  have hlen : l.length = pre.length + (t.length + 1) := by rw [he]; simp
  have hx : rd_T77 l (pre.length : Int) = x := by rw [he]; exact rd_at pre x t
  have hvx : Vd x := hV x (by rw [he]; simp)
  have hst : 0 ≤ sumD t := sumD_nonneg (fun y hy => hV y (by rw [he]; simp [hy]))
  have hsl : sumD l = sumD pre + x.f0 + sumD t := by rw [he, sumD_app]; simp only [sumD]; omega
  have hs0 : 0 ≤ sumD pre := by rw [← hs]; exact wd_sum hw
  have hd0 := hvx.d0
  have hd1 := hvx.d1
  have hsp : sumD (pre ++ [x]) = sumD pre + x.f0 := by rw [sumD_app]; simp [sumD]
  by_cases hbig : sumD pre + x.f0 > 1099511627776
  ·rw [if_pos (by omega)]
   refine Ev.step (f := fun _ => some ([], 2)) (fun k => ?_) (Ev.now _)
   simp only [edit_clocks_normal.l0]
   rw [if_pos (by omega), if_pos (by omega), if_pos (by omega), hx, low_f hvx]
   simp only [Option.bind_some]
   rw [show (lowV x).f0 = x.f0 from rfl, w64 (by omega) (by omega), if_pos hbig]
  ·have hwl := wd_low hvx
   have hr := ih (pre ++ [x]) (push ms ts out (lowV x)) (by rw [he]; simp) (by rw [push_sum, hs, hsp]; rfl) (by omega) (push_wd hw hwl) (by have := push_len ms ts out (lowV x); simp only [List.length_append, List.length_cons, List.length_nil]; omega)
   have hn : nrmR ms ts out (x :: t) = nrmR ms ts (push ms ts out (lowV x)) t := rfl
   rw [hn]
   refine Ev.step (f := fun k => edit_clocks_normal.l1 k out.reverse (sumD (pre ++ [x])) (out.reverse.length : Int) l (l.length : Int) (pre.length : Int) ms ts (lowV x).f0 (lowV x).f1 (lowV x).f2 (lowV x).f3) (fun k => ?_) ?_
   ·simp only [edit_clocks_normal.l0]
    rw [if_pos (by omega), if_pos (by omega), if_pos (by omega), hx, low_f hvx]
    simp only [Option.bind_some]
    rw [show (lowV x).f0 = x.f0 from rfl, w64 (by omega) (by omega), if_neg hbig, hsp]
   ·refine Ev.step (f := fun k => edit_clocks_normal.l0 k (push ms ts out (lowV x)).reverse (sumD (pre ++ [x])) l (l.length : Int) ((pre ++ [x]).length : Int) ms ts) (fun k => ?_) hr
    simp only [edit_clocks_normal.l1]
    have hpl : wrap64 ((pre.length : Int) + 1) = ((pre ++ [x]).length : Int) := by rw [w64 (by omega) (by omega)]; simp
    rw [hpl]
    cases out with
    | nil =>
     rw [if_neg (show ¬ (([] : List Ed).reverse.length : Int) > 0 by simp), if_pos (show ([] : List Ed).reverse.length < 4398046511104 by simp)]
     rfl
    | cons a o =>
     have hla : (a :: o).reverse.length = o.length + 1 := by simp
     have hra : rd_T77 (a :: o).reverse (o.length : Int) = a := by
      rw [List.reverse_cons]
      have := rd_at o.reverse a []
      rw [List.length_reverse] at this
      exact this
     have hol : o.length + 1 ≤ pre.length := ho
     have hsa := wd_sum (l := o) (fun y hy => hw y (by simp [hy]))
     have hda : a.f0 ≤ 1099511627776 := by simp only [sumD] at hs; omega
     rw [hla, if_pos (by omega), w64 (by omega) (by omega), show ((o.length + 1 : Nat) : Int) - 1 = (o.length : Int) by omega, if_pos (by omega), if_pos (by omega), hra]
     have ha0 := (hw a (by simp)).d0
     have hov : edit_clocks_over.f ms ts a.f0 a.f1 a.f2 a.f3 (lowV x).f0 (lowV x).f1 (lowV x).f2 (lowV x).f3 = some (ovV ms ts a (lowV x)) := over_f hc (hw a (by simp)) hda hwl
     rw [hov]
     simp only [Option.bind_some, push]
     by_cases hb : ovV ms ts a (lowV x) = true
     ·rw [if_pos hb, if_pos hb]
      have hf : (lowV x).f0 = x.f0 := rfl
      simp only [sumD] at hs
      rw [w64 (by rw [hf]; omega) (by rw [hf]; omega)]
      congr 1
      rw [List.reverse_cons, List.reverse_cons, Int.toNat_natCast]
      have : o.length = o.reverse.length := by simp
      rw [this, List.set_append_right _ _ (Nat.le_refl _)]
      simp
     ·rw [if_neg hb, if_neg hb, if_pos (by omega)]
      congr 1
      simp
theorem normal_f {ms ts : Int} (hc : Ck ms ts) (l : List Ed) (hV : ∀ x ∈ l, Vd x) (hl : l.length ≤ 1000000000) : Ev (fun k => edit_clocks_normal.f k ms ts l) (nrmV ms ts l) :=
 normal_l hc l hV hl l [] [] rfl rfl (by simp [sumD]) (by simp) (by simp)
theorem nrmR_sum (ms ts : Int) (l : List Ed) : ∀ out, sumD (nrmR ms ts out l) = sumD out + sumD l := by
 induction l with
 | nil => intro out; simp [nrmR, sumD]
 | cons x t ih =>
  intro out
  have h := ih (push ms ts out (lowV x))
  have hn : nrmR ms ts out (x :: t) = nrmR ms ts (push ms ts out (lowV x)) t := rfl
  rw [hn, h, push_sum]
  simp only [sumD]
  have : (lowV x).f0 = x.f0 := rfl
  omega
theorem nrm_sum (ms ts : Int) (l : List Ed) : sumD (nrm ms ts l) = sumD l := by
 unfold nrm
 rw [sumD_rev, nrmR_sum]
 simp [sumD]
theorem nrmR_len (ms ts : Int) (l : List Ed) : ∀ out, (nrmR ms ts out l).length ≤ out.length + l.length := by
 induction l with
 | nil => intro out; simp [nrmR]
 | cons x t ih =>
  intro out
  have h := ih (push ms ts out (lowV x))
  have hn : nrmR ms ts out (x :: t) = nrmR ms ts (push ms ts out (lowV x)) t := rfl
  have h2 := push_len ms ts out (lowV x)
  rw [hn]
  simp only [List.length_cons]
  omega
theorem nrm_len (ms ts : Int) (l : List Ed) : (nrm ms ts l).length ≤ l.length := by
 have := nrmR_len ms ts l []
 unfold nrm
 simp only [List.length_reverse, List.length_nil] at this ⊢
 omega
def norV (ms ts : Int) (l : List Ed) : List Ed × Int := if chk l ms ts = 0 then (nrm ms ts l, 0) else ([], chk l ms ts)
theorem Normal_f (l : List Ed) (ms ts : Int) : Ev (fun k => edit_Normal.f k l ms ts) (norV ms ts l) := by
 unfold norV
 by_cases h0 : chk l ms ts = 0
 ·obtain ⟨hc, hl, hV, hs⟩ := chk_ok.1 h0
  rw [if_pos h0]
  have hr : nrmV ms ts l = (nrm ms ts l, 0) := by
   have := nrmR_len ms ts l []
   simp only [List.length_nil] at this
   unfold nrmV fin nrm
   rw [if_neg (by omega), if_neg (by omega)]
  have h1 := check_f l ms ts
  rw [h0] at h1
  refine Ev.congr (fun k => rfl) (Ev.bind h1 ?_)
  refine Ev.congr (fun k => if_pos rfl) (Ev.bind (normal_f hc l hV (by omega)) ?_)
  rw [hr]
  exact Ev.now _
 ·rw [if_neg h0]
  refine Ev.congr (fun k => rfl) (Ev.bind (check_f l ms ts) ?_)
  refine Ev.congr (fun k => if_neg h0) (Ev.now _)
end Go.Proofs.Ytpbhepdgamoiaaa.Pf
namespace Go.Proofs.Ytpbhepdgamoiaaa.Pg
open Go.RowKit Go Go.Proofs.YtpbhepdgamoiaaaW.PrintWords Go.Proofs.YtpbhepdgamoiaaaW.PrintLast Go.Proofs.YtpbhepdgamoiaaaW.PrintMore Go.Proofs.Ytpbhepdgamoiaaa.Mn Go.Proofs.Ytpbhepdgamoiaaa.Rf Go.Proofs.Ytpbhepdgamoiaaa.Er Go.Proofs.Ytpbhepdgamoiaaa.Ek Go.Proofs.Ytpbhepdgamoiaaa.E Go.Proofs.Ytpbhepdgamoiaaa.Pe Go.Proofs.Ytpbhepdgamoiaaa.Pf
set_option linter.unusedVariables false
set_option linter.unusedSimpArgs false
instance : DecidableEq Ed := fun x y =>
 decidable_of_iff (x.f0 = y.f0 ∧ x.f1 = y.f1 ∧ x.f2 = y.f2 ∧ x.f3 = y.f3) ⟨fun h => by cases x; cases y; simp_all, fun h => by subst h; simp⟩
theorem ed_ne (x y : Ed) : (!x.f0 == y.f0 || (!x.f1 == y.f1 || (!x.f2 == y.f2 || !x.f3 == y.f3))) = !decide (x = y) := by
 cases x; cases y
 rw [Bool.eq_iff_iff]
 simp
def exL : List Ed := [⟨10, 0, 1, 1⟩, ⟨5, 10, 1, 1⟩]
theorem nrm_ex : nrm 10 10 exL = [⟨15, 0, 1, 1⟩] := by decide +kernel
theorem chk_ex : chk exL 10 10 = 0 := by decide +kernel
theorem awake_f : Ev (fun k => dioramalaw10_awake.f k) true := by
 have h := Normal_f exL 10 10
 unfold norV at h
 rw [if_pos chk_ex, nrm_ex] at h
 refine Ev.congr (fun k => rfl) (Ev.bind h ?_)
 refine Ev.congr (f := fun _ => some true) (fun k => ?_) (Ev.now _)
 rfl
theorem Length_f (l : List Ed) (h : l.length ≤ 100) (hw : ∀ x ∈ l, in64 x.f0 = true) : edit_Length.f l = some (lenB (sumD l)) := by
 unfold edit_Length.f lenOk
 rw [if_pos (by simp only [Bool.and_eq_true, decide_eq_true_eq, List.all_eq_true]; exact ⟨h, hw⟩)]
theorem many_f (l : List Ed) : dioramalaw10_many.f l = some (decide (60 < l.length)) := by
 unfold dioramalaw10_many.f
 congr 1
 by_cases h : 60 < l.length
 ·rw [decide_eq_true h, decide_eq_true (by omega)]
 ·rw [decide_eq_false h, decide_eq_false (by omega)]
end Go.Proofs.Ytpbhepdgamoiaaa.Pg
namespace Go.Proofs.Ytpbhepdgamoiaaa.Ph
open Go.RowKit Go Go.Proofs.YtpbhepdgamoiaaaW.PrintWords Go.Proofs.YtpbhepdgamoiaaaW.PrintLast Go.Proofs.YtpbhepdgamoiaaaW.PrintMore Go.Proofs.Ytpbhepdgamoiaaa.Mn Go.Proofs.Ytpbhepdgamoiaaa.Rf Go.Proofs.Ytpbhepdgamoiaaa.Er Go.Proofs.Ytpbhepdgamoiaaa.Ek Go.Proofs.Ytpbhepdgamoiaaa.E Go.Proofs.Ytpbhepdgamoiaaa.Pe Go.Proofs.Ytpbhepdgamoiaaa.Pf Go.Proofs.Ytpbhepdgamoiaaa.Pg
set_option linter.unusedVariables false
set_option linter.unusedSimpArgs false
theorem equal_l (a b : List Ed) (hl : a.length ≤ 1000000) (ra : List Ed) : ∀ (pre rb : List Ed), a = pre ++ ra → b = pre ++ rb → ra.length = rb.length → Ev (fun k => api_Edit_90.l0 k a b (a.length : Int) (pre.length : Int)) (decide (ra = rb)) := by
 induction ra with
 | nil =>
  intro pre rb ha hb hr
  have : rb = [] := by cases rb with | nil => rfl | cons _ _ => simp at hr
  subst this
  refine Ev.step (f := fun _ => some (decide (([] : List Ed) = []))) (fun k => ?_) (Ev.now _)
  simp only [api_Edit_90.l0]
  rw [if_neg (by rw [ha]; simp)]
  simp
 | cons x t ih =>
  intro pre rb ha hb hr
  cases rb with
  | nil => simp at hr
  | cons y u =>
   have hx : rd_T77 a (pre.length : Int) = x := by rw [ha]; exact rd_at pre x t
   have hy : rd_T77 b (pre.length : Int) = y := by rw [hb]; exact rd_at pre y u
   have hla : a.length = pre.length + (t.length + 1) := by rw [ha]; simp
   have hlb : b.length = pre.length + (u.length + 1) := by rw [hb]; simp
   simp only [List.length_cons, Nat.add_right_cancel_iff] at hr
   by_cases hxy : x = y
   ·subst hxy
    have hi := ih (pre ++ [x]) u (by rw [ha]; simp) (by rw [hb]; simp) hr
    have e : decide (x :: t = x :: u) = decide (t = u) := by simp
    rw [e]
    refine Ev.step (fun k => ?_) hi
    simp only [api_Edit_90.l0]
    rw [if_pos (by omega), if_pos (by omega), if_pos (by omega), if_pos (by omega), hx, hy, ed_ne, if_neg (by simp), w64 (by omega) (by omega)]
    simp
   ·rw [decide_eq_false (by intro h; injection h with h _; exact hxy h)]
    refine Ev.step (f := fun _ => some false) (fun k => ?_) (Ev.now _)
    simp only [api_Edit_90.l0]
    rw [if_pos (by omega), if_pos (by omega), if_pos (by omega), if_pos (by omega), hx, hy, ed_ne, if_pos (by simpa using hxy)]
theorem equal_f (a b : List Ed) (hl : a.length ≤ 1000000) : Ev (fun k => api_Edit_90.f k a b) (decide (a = b)) := by
 by_cases h : a.length = b.length
 ·refine Ev.congr (fun k => ?_) (equal_l a b hl a [] b rfl rfl h)
  unfold api_Edit_90.f
  first | (rw [if_pos (by omega)]; rfl) | (rw [if_neg (by omega)]; rfl)
 ·rw [decide_eq_false (fun e => h (by rw [e]))]
  refine Ev.congr (fun k => ?_) (Ev.now _)
  unfold api_Edit_90.f
  first | (rw [if_neg (by omega)]; done) | (rw [if_pos (by omega)]; done) | (rw [if_neg (by omega)]; rfl)
def aliV (ms ts : Int) (a b : List Ed) : Bool × Int := if chk a ms ts = 0 then (if chk b ms ts = 0 then (decide (nrm ms ts a = nrm ms ts b), 0) else (false, chk b ms ts)) else (false, chk a ms ts)
theorem Alike_f (a b : List Ed) (ms ts : Int) : Ev (fun k => edit_Alike.f k a b ms ts) (aliV ms ts a b) := by
 unfold aliV
 have ha := Normal_f a ms ts
 have hb := Normal_f b ms ts
 unfold norV at ha hb
 by_cases h0 : chk a ms ts = 0
 ·rw [if_pos h0] at ha ⊢
  refine Ev.congr (fun k => rfl) (Ev.bind ha ?_)
  refine Ev.congr (fun k => if_pos rfl) ?_
  by_cases h1 : chk b ms ts = 0
  ·rw [if_pos h1] at hb ⊢
   refine Ev.bind hb ?_
   refine Ev.congr (fun k => if_pos rfl) ?_
   refine Ev.bind (equal_f _ _ ?_) (Ev.now _)
   have h2 := nrm_len ms ts a
   have h3 := (chk_ok.1 h0).2.1
   show (nrm ms ts a).length ≤ 1000000
   omega
  ·rw [if_neg h1] at hb ⊢
   refine Ev.bind hb ?_
   exact Ev.congr (fun k => if_neg h1) (Ev.now _)
 ·rw [if_neg h0] at ha ⊢
  refine Ev.congr (fun k => rfl) (Ev.bind ha ?_)
  exact Ev.congr (fun k => if_neg h0) (Ev.now _)
end Go.Proofs.Ytpbhepdgamoiaaa.Ph
namespace Go.Proofs.Ytpbhepdgamoiaaa.Pa
open Go.RowKit Go.Proofs.Ytpbhepdgamoiaaa.P Go.Proofs.Ytpbhepdgamoiaaa.E Go.Proofs.YtpbhepdgamoiaaaW.PrintWords Go.Proofs.YtpbhepdgamoiaaaW.PrintLast Go.Proofs.Ytpbhepdgamoiaaa.Ml Go.Proofs.Ytpbhepdgamoiaaa.Mn
set_option linter.unusedVariables false
set_option linter.unusedSimpArgs false
abbrev Bd : Int := 1000000000
abbrev Nn (l : List Int) : Prop := Cn 1000000000 l
theorem top_cons {x : Int} {l : List Int} (h : Top l) (hx : l = [] → x ≠ 0) : Top (x :: l) := by
 intro hne
 cases l with
 | nil => simpa using hx rfl
 | cons y t =>
  rw [List.getLast_cons (by simp)]
  exact h (by simp)
theorem digit_f (l : List Int) (i : Nat) : dioramaref02_digit.f l (i : Int) = some (l.getD i 0) := by
 unfold dioramaref02_digit.f
 by_cases h : i < l.length
 ·rw [if_pos (by omega), if_pos (by omega), rd_nat]
 ·rw [if_neg (by omega), getD_ge (by omega)]
theorem tmodB {x : Int} (h : 0 ≤ x) : Int.tmod x 1000000000 = x % 1000000000 := Int.tmod_eq_emod_of_nonneg h
theorem tdivB {x : Int} (h : 0 ≤ x) : Int.tdiv x 1000000000 = x / 1000000000 := Int.tdiv_eq_ediv_of_nonneg h
theorem of_l (m : Nat) : ∀ (x : Int) (acc : List Int), 0 ≤ x → x < pw 1000000000 m → x ≤ 9223372036854775807 → acc.length + m ≤ 1000 → ∃ r, Ev (fun k => dioramaref02_Of.l0 k x acc) (acc ++ r) ∧ Nn r ∧ dv 1000000000 r = x ∧ r.length ≤ m := by
 induction m with
 | zero =>
  intro x acc h0 h1 _ _
  have hx : x = 0 := by simp [pw] at h1; omega
  subst hx
  exact ⟨[], Ev.step (f := fun _ => some (acc ++ [])) (fun k => by simp [dioramaref02_Of.l0]) (Ev.now _), Cn.nil _, rfl, Nat.le_refl _⟩
 | succ m ih =>
  intro x acc h0 h1 h2 hl
  by_cases hx : x = 0
  ·subst hx
   exact ⟨[], Ev.step (f := fun _ => some (acc ++ [])) (fun k => by simp [dioramaref02_Of.l0]) (Ev.now _), Cn.nil _, rfl, Nat.zero_le _⟩
  ·have hd : x / 1000000000 < pw 1000000000 m := by
    rw [pw_succ] at h1
    omega
   obtain ⟨r, he, hc, hv, hr⟩ := ih (x / 1000000000) (acc ++ [x % 1000000000]) (by omega) hd (by omega) (by simp; omega)
   refine ⟨x % 1000000000 :: r, ?_, ⟨Dg.cons (by omega) (by omega) hc.dg, top_cons hc.top (fun h => ?_)⟩, ?_, by simp; omega⟩
   ·rw [List.append_assoc, List.singleton_append] at he
    refine Ev.step (fun k => ?_) he
    simp only [dioramaref02_Of.l0]
    rw [if_pos (by omega), if_pos (by omega), tdivB h0, tmodB h0, w64 (by omega) (by omega)]
   ·subst h
    simp only [dv] at hv
    omega
   ·simp only [dv] at hv ⊢
    rw [hv]
    omega
theorem of_f (x : Int) (h0 : 0 ≤ x) (h1 : x ≤ 9223372036854775807) : ∃ r, Ev (fun k => dioramaref02_Of.f k x) r ∧ Nn r ∧ dv 1000000000 r = x ∧ r.length ≤ 3 := by
 obtain ⟨r, he, h⟩ := of_l 3 x [] h0 (by simp [pw]; omega) h1 (by simp)
 exact ⟨r, he, h⟩
theorem trimmed_l (l : List Int) (hd : Dg 1000000000 l) (hl : l.length ≤ 1000000) : ∀ n : Nat, n ≤ l.length → dv 1000000000 (l.take n) = dv 1000000000 l → ∃ r, Ev (fun k => dioramaref02_trimmed.l0 k l (n : Int)) r ∧ Nn r ∧ dv 1000000000 r = dv 1000000000 l ∧ r.length ≤ n := by
 intro n
 induction n with
 | zero =>
  intro _ hv
  refine ⟨[], Ev.step (f := fun _ => some []) (fun k => ?_) (Ev.now _), Cn.nil _, by rw [← hv]; rfl, Nat.le_refl _⟩
  simp [dioramaref02_trimmed.l0]
 | succ n ih =>
  intro hn hv
  have hw : wrap64 (((n + 1 : Nat) : Int) - 1) = (n : Int) := by rw [w64 (by omega) (by omega)]; omega
  by_cases hz : l.getD n 0 = 0
  ·obtain ⟨r, he, hc, hr, hlr⟩ := ih (by omega) (by rw [← hv] ; rw [dv_take_succ', hz]; omega)
   refine ⟨r, Ev.step (fun k => ?_) he, hc, hr, by omega⟩
   simp only [dioramaref02_trimmed.l0, hw, rd_nat]
   rw [if_pos (by omega), if_pos (by omega), if_pos (by omega), if_pos hz]
  ·refine ⟨l.take (n + 1), Ev.step (f := fun _ => some (l.take (n + 1))) (fun k => ?_) (Ev.now _), ⟨hd.take _, top_of_getD ?_⟩, hv, by simp; omega⟩
   ·simp only [dioramaref02_trimmed.l0, hw, rd_nat]
    rw [if_pos (by omega), if_pos (by omega), if_pos (by omega), if_neg hz, if_pos (by omega), if_pos (by omega), Int.toNat_natCast]
   ·rw [List.length_take, Nat.min_eq_left (by omega)]
    simp only [Nat.add_sub_cancel]
    rw [List.getD_eq_getElem?_getD, List.getElem?_take_of_lt (by omega), ← List.getD_eq_getElem?_getD]
    exact hz
theorem trimmed_f (l : List Int) (hd : Dg 1000000000 l) (hl : l.length ≤ 1000000) : ∃ r, Ev (fun k => dioramaref02_trimmed.f k l) r ∧ Nn r ∧ dv 1000000000 r = dv 1000000000 l ∧ r.length ≤ l.length :=
 trimmed_l l hd hl l.length (Nat.le_refl _) (by rw [List.take_length])
theorem cmp1 {x y : Int} (h : x < y) : Nd.cmpI x y = -1 := by unfold Nd.cmpI; rw [if_pos h]
theorem cmp2 {x y : Int} (h : y < x) : Nd.cmpI x y = 1 := by unfold Nd.cmpI; rw [if_neg (by omega), if_pos h]
theorem cmp0 {x y : Int} (h : x = y) : Nd.cmpI x y = 0 := by unfold Nd.cmpI; rw [if_neg (by omega), if_neg (by omega)]
theorem compare_l (a b : List Int) (ha : Dg 1000000000 a) (hb : Dg 1000000000 b) (hl : a.length = b.length) (hn : a.length ≤ 1000000) : ∀ i : Nat, i ≤ a.length → dv 1000000000 (a.drop i) = dv 1000000000 (b.drop i) →
  Ev (fun k => dioramaref02_Compare.l0 k a b ((i : Int) - 1)) (Nd.cmpI (dv 1000000000 a) (dv 1000000000 b)) := by
 intro i
 induction i with
 | zero =>
  intro _ h
  refine Ev.step (f := fun _ => some 0) (fun k => ?_) (by rw [cmp0 (by simpa using h)]; exact Ev.now _)
  simp [dioramaref02_Compare.l0]
 | succ i ih =>
  intro hi h
  have e : (((i + 1 : Nat) : Int) - 1) = (i : Int) := by omega
  have hw : wrap64 ((i : Int) - 1) = (i : Int) - 1 := w64 (by omega) (by omega)
  rw [e]
  rcases Int.lt_trichotomy (a.getD i 0) (b.getD i 0) with h1 | h1 | h1
  ·rw [cmp1 (dv_less (by decide) ha hb hl i (by omega) h h1)]
   refine Ev.step (f := fun _ => some (-1)) (fun k => ?_) (Ev.now _)
   simp only [dioramaref02_Compare.l0, rd_nat]
   rw [if_pos (by omega), if_pos (by omega), if_pos (by omega), if_pos (by omega), if_pos h1]
  ·refine Ev.step (fun k => ?_) (ih (by omega) (by rw [dv_drop _ a i (by omega), dv_drop _ b i (by omega), h1, h]))
   simp only [dioramaref02_Compare.l0, rd_nat, hw]
   rw [if_pos (by omega), if_pos (by omega), if_pos (by omega), if_pos (by omega), if_neg (by omega), if_neg (by omega)]
  ·rw [cmp2 (dv_less (by decide) hb ha hl.symm i (by omega) h.symm h1)]
   refine Ev.step (f := fun _ => some 1) (fun k => ?_) (Ev.now _)
   simp only [dioramaref02_Compare.l0, rd_nat]
   rw [if_pos (by omega), if_pos (by omega), if_pos (by omega), if_pos (by omega), if_neg (by omega), if_pos h1]
theorem compare_f (a b : List Int) (ha : Nn a) (hb : Nn b) (hn : a.length ≤ 1000000) (hm : b.length ≤ 1000000) : Ev (fun k => dioramaref02_Compare.f k a b) (Nd.cmpI (dv 1000000000 a) (dv 1000000000 b)) := by
 by_cases hl : a.length = b.length
 ·have h := compare_l a b ha.dg hb.dg hl hn a.length (Nat.le_refl _) (by rw [List.drop_of_length_le (Nat.le_refl _), List.drop_of_length_le (by omega)])
  refine Ev.congr (fun k => ?_) h
  simp only [dioramaref02_Compare.f]
  rw [if_pos (by omega), w64 (by omega) (by omega)]
 ·by_cases h1 : a.length < b.length
  ·rw [cmp1 (dv_len (by decide) ha.dg hb h1)]
   refine Ev.congr (f := fun _ => some (-1)) (fun k => ?_) (Ev.now _)
   simp only [dioramaref02_Compare.f]
   rw [if_neg (by omega), if_pos (by omega)]
  ·rw [cmp2 (dv_len (by decide) hb.dg ha (by omega))]
   refine Ev.congr (f := fun _ => some 1) (fun k => ?_) (Ev.now _)
   simp only [dioramaref02_Compare.f]
   rw [if_neg (by omega), if_neg (by omega)]
end Go.Proofs.Ytpbhepdgamoiaaa.Pa
namespace Go.Proofs.Ytpbhepdgamoiaaa.Pb
open Go.RowKit Go.Proofs.Ytpbhepdgamoiaaa.P Go.Proofs.Ytpbhepdgamoiaaa.E Go.Proofs.YtpbhepdgamoiaaaW.PrintWords Go.Proofs.YtpbhepdgamoiaaaW.PrintLast Go.Proofs.Ytpbhepdgamoiaaa.Ml Go.Proofs.Ytpbhepdgamoiaaa.Mn Go.Proofs.Ytpbhepdgamoiaaa.Pa
set_option linter.unusedVariables false
set_option linter.unusedSimpArgs false
theorem nv_take_all {l : List Int} {n : Nat} (h : l.length ≤ n) : dv 1000000000 (l.take n) = dv 1000000000 l := by rw [List.take_of_length_le h]
theorem dg_snoc {l : List Int} {x : Int} (h : Dg 1000000000 l) (h0 : 0 ≤ x) (h1 : x < 1000000000) : Dg 1000000000 (l ++ [x]) := h.append (Dg.cons h0 h1 (Dg.nil _))
theorem w1 {i : Nat} (h : i ≤ 10000000) : wrap64 ((i : Int) + 1) = ((i + 1 : Nat) : Int) := by rw [w64 (by omega) (by omega)]; omega
theorem minus_l (a b : List Int) (ha : Dg 1000000000 a) (hb : Dg 1000000000 b) (hn : a.length ≤ 1000000) (hlb : b.length ≤ a.length) (hle : dv 1000000000 b ≤ dv 1000000000 a) :
  ∀ (d i : Nat) (out : List Int) (c : Int), i + d = a.length → out.length = i → Dg 1000000000 out → 0 ≤ c → c ≤ 1 → dv 1000000000 out = dv 1000000000 (a.take i) - dv 1000000000 (b.take i) + c * pw 1000000000 i →
  ∃ r, Ev (fun k => dioramaref02_Minus.l0 k a b out c (i : Int)) r ∧ Nn r ∧ dv 1000000000 r = dv 1000000000 a - dv 1000000000 b ∧ r.length ≤ a.length := by
 intro d
 induction d with
 | zero =>
  intro i out c hi hl hd h0 h1 hv
  obtain ⟨r, he, hc, hr, hlr⟩ := trimmed_f out hd (by omega)
  have hlt := dv_lt (by decide) hd
  rw [hl] at hlt
  rw [nv_take_all (by omega), nv_take_all (by omega)] at hv
  have c0 : c = 0 := by
   rcases (show c = 0 ∨ c = 1 by omega) with h | h
   ·exact h
   ·rw [h] at hv
    omega
  refine ⟨r, Ev.step (f := fun k => (dioramaref02_trimmed.f k out).bind fun t => some t) (fun k => ?_) (Ev.bind he (Ev.now _)), hc, by rw [hr, hv, c0]; omega, by omega⟩
  simp only [dioramaref02_Minus.l0]
  rw [if_neg (by omega)]
 | succ d ih =>
  intro i out c hi hl hd h0 h1 hv
  have hx := ha.getD (by decide) i
  have hy := hb.getD (by decide) i
  have e1 := dv_take_succ' 1000000000 a i
  have e2 := dv_take_succ' 1000000000 b i
  have e3 := pw_succ 1000000000 i
  generalize hxv : a.getD i 0 = x at *
  generalize hyv : b.getD i 0 = y at *
  have hw : wrap64 (wrap64 (x - y) - c) = x - y - c := by rw [w64 (x := x - y) (by omega) (by omega), w64 (by omega) (by omega)]
  have hw2 : wrap64 (x - y - c + 1000000000) = x - y - c + 1000000000 := w64 (by omega) (by omega)
  by_cases hneg : x - y - c < 0
  ·obtain ⟨r, he, h⟩ := ih (i + 1) (out ++ [x - y - c + 1000000000]) 1 (by omega) (by simp [hl]) (dg_snoc hd (by omega) (by omega)) (by decide) (by decide) (by
    rw [dv_snoc, hl, hv, e1, e2, e3]
    grind)
   refine ⟨r, Ev.step (fun k => ?_) he, h⟩
   simp only [dioramaref02_Minus.l0]
   rw [if_pos (by omega), digit_f, digit_f, hxv, hyv]
   simp only [Option.bind_some, hw, hw2]
   rw [if_pos hneg, if_pos (by omega), w1 (by omega)]
  ·obtain ⟨r, he, h⟩ := ih (i + 1) (out ++ [x - y - c]) 0 (by omega) (by simp [hl]) (dg_snoc hd (by omega) (by omega)) (by decide) (by decide) (by
    rw [dv_snoc, hl, hv, e1, e2]
    grind)
   refine ⟨r, Ev.step (fun k => ?_) he, h⟩
   simp only [dioramaref02_Minus.l0]
   rw [if_pos (by omega), digit_f, digit_f, hxv, hyv]
   simp only [Option.bind_some, hw, hw2]
   rw [if_neg hneg, if_pos (by omega), w1 (by omega)]
theorem len_le {a b : List Int} (ha : Nn a) (hb : Nn b) (h : dv 1000000000 b ≤ dv 1000000000 a) : b.length ≤ a.length := by
 refine Nat.le_of_not_lt fun hl => ?_
 have := dv_len (by decide) ha.dg hb hl
 omega
theorem minus_f (a b : List Int) (ha : Nn a) (hb : Nn b) (hn : a.length ≤ 1000000) (hle : dv 1000000000 b ≤ dv 1000000000 a) : ∃ r, Ev (fun k => dioramaref02_Minus.f k a b) r ∧ Nn r ∧ dv 1000000000 r = dv 1000000000 a - dv 1000000000 b ∧ r.length ≤ a.length :=
 minus_l a b ha.dg hb.dg hn (len_le ha hb hle) hle a.length 0 [] 0 (by omega) rfl (Dg.nil _) (by decide) (by decide) (by simp [dv])
theorem mulB {c x y o : Int} (hc0 : 0 ≤ c) (hc1 : c < 1000000000) (hx0 : 0 ≤ x) (hx1 : x < 1000000000) (hy0 : 0 ≤ y) (hy1 : y < 1000000000) (ho0 : 0 ≤ o) (ho1 : o < 1000000000) :
  wrap64 (wrap64 (o + wrap64 (x * y)) + c) = o + x * y + c ∧ 0 ≤ o + x * y + c ∧ wrap64 (Int.tdiv (o + x * y + c) 1000000000) = (o + x * y + c) / 1000000000 ∧ (o + x * y + c) / 1000000000 < 1000000000 := by
 obtain ⟨h1, h2⟩ := mul_lt_sq hx0 hx1 hy0 hy1
 have h2' : x * y ≤ 999999998000000001 := h2
 rw [w64 (x := x * y) (by omega) (by omega), w64 (x := o + x * y) (by omega) (by omega), w64 (x := o + x * y + c) (by omega) (by omega), tdivB (by omega), w64 (by omega) (by omega)]
 refine ⟨rfl, by omega, rfl, by omega⟩
set_option maxHeartbeats 1000000 in
theorem times_l1 (a b : List Int) (i : Nat) (x : Int) (hx : a.getD i 0 = x) (hi : i < a.length) (hb : Dg 1000000000 b) (hx0 : 0 ≤ x) (hx1 : x < 1000000000) (hn : a.length + b.length ≤ 1000000) :
  ∀ (d j : Nat) (out : List Int) (c : Int), j + d = b.length → Dg 1000000000 out → out.length = a.length + b.length → 0 ≤ c → c < 1000000000 → (∀ m, i + b.length ≤ m → out.getD m 0 = 0) →
  ∃ out', (∀ r, Ev (fun k => dioramaref02_Times.l0 k a b out' ((i + 1 : Nat) : Int)) r → Ev (fun k => dioramaref02_Times.l1 k a b out (i : Int) c (j : Int)) r) ∧ out'.length = a.length + b.length ∧ Dg 1000000000 out' ∧
   dv 1000000000 out' = dv 1000000000 out + c * pw 1000000000 (i + j) + x * dv 1000000000 (b.drop j) * pw 1000000000 (i + j) ∧ ∀ m, i + 1 + b.length ≤ m → out'.getD m 0 = 0 := by
 intro d
 induction d with
 | zero =>
  intro j out c hj hd hl h0 h1 hz
  obtain rfl : j = b.length := by omega
  have hend : ∀ (out : List Int) (j : Nat) r, b.length ≤ j → Ev (fun k => dioramaref02_Times.l0 k a b out ((i + 1 : Nat) : Int)) r → Ev (fun k => dioramaref02_Times.l1 k a b out (i : Int) 0 (j : Int)) r := by
   intro out j r hj he
   refine Ev.step (fun k => ?_) he
   simp only [dioramaref02_Times.l1]
   rw [if_neg (by omega), if_neg (by omega), w1 (by omega)]
  rw [List.drop_of_length_le (Nat.le_refl _)]
  by_cases hc : c = 0
  ·subst hc
   exact ⟨out, fun r he => hend out _ r (Nat.le_refl _) he, hl, hd, by simp [dv], fun m hm => hz m (by omega)⟩
  ·refine ⟨out.set (i + b.length) c, fun r he => ?_, by simp [hl], hd.set _ h0 h1, ?_, fun m hm => by rw [getD_set (by omega)]; exact hz m (by omega)⟩
   ·have h2 := hend (out.set (i + b.length) c) (b.length + 1) r (by omega) he
    refine Ev.step (fun k => ?_) h2
    have hw : wrap64 ((i : Int) + (b.length : Int)) = ((i + b.length : Nat) : Int) := by rw [w64 (by omega) (by omega)]; omega
    obtain ⟨g1, g2, g3, g4⟩ := mulB (o := 0) (y := 0) h0 h1 hx0 hx1 (by decide) (by decide) (by decide) (by decide)
    have e0 : (0 : Int) + x * 0 + c = c := by omega
    rw [e0] at g1 g3
    simp only [dioramaref02_Times.l1, hw, rd_nat, hx, Int.toNat_natCast]
    rw [if_neg (by omega), if_pos (by omega), if_pos (by omega), if_pos (by omega), if_pos (by omega), if_pos (by omega), digit_f, getD_ge (Nat.le_refl _), hz _ (Nat.le_refl _)]
    simp only [Option.bind_some, g1, g3]
    rw [tmodB h0, Int.emod_eq_of_lt h0 h1, Int.ediv_eq_zero_of_lt h0 h1, w1 (by omega)]
   ·rw [dv_set _ _ _ _ (by omega), hz _ (Nat.le_refl _)]
    simp [dv]
 | succ d ih =>
  intro j out c hj hd hl h0 h1 hz
  have hy := hb.getD (by decide) j
  have ho := hd.getD (by decide) (i + j)
  have c1 : (j : Int) < (b.length : Int) := by omega
  have c2 : 0 ≤ ((i + j : Nat) : Int) := by omega
  have c3 : ((i + j : Nat) : Int) < (out.length : Int) := by omega
  have c4 : 0 ≤ (i : Int) := by omega
  have c5 : (i : Int) < (a.length : Int) := by omega
  have c6 : i + j < out.length := by omega
  have c7 : j < b.length := by omega
  have hw : wrap64 ((i : Int) + (j : Int)) = ((i + j : Nat) : Int) := by rw [w64 (by omega) (by omega)]; omega
  have hw1 := w1 (i := j) (by omega)
  have HW := Aside0.mk (And.intro hw hw1)
  clear hw hw1
  generalize hyv : b.getD j 0 = y at *
  generalize hov : out.getD (i + j) 0 = o at *
  obtain ⟨g1, g2, g3, g4⟩ := mulB h0 h1 hx0 hx1 hy.1 hy.2 ho.1 ho.2
  have gm := Int.mul_ediv_add_emod (o + x * y + c) 1000000000
  have gr0 := Int.emod_nonneg (o + x * y + c) (show (1000000000 : Int) ≠ 0 by decide)
  have gr1 := Int.emod_lt_of_pos (o + x * y + c) (show (0 : Int) < 1000000000 by decide)
  have gq0 : 0 ≤ (o + x * y + c) / 1000000000 := Int.ediv_nonneg g2 (by decide)
  have gt := tmodB g2
  generalize (o + x * y + c) / 1000000000 = q at *
  generalize (o + x * y + c) % 1000000000 = r' at *
  have hs : r' + 1000000000 * q = c + (x * y + o) := by clear g1 g3 gt; omega
  have HG := Aside0.mk (And.intro g1 (And.intro g3 gt))
  clear g1 g3 gt gm
  obtain ⟨out', k1, k2, k3, k4, k5⟩ := ih (j + 1) (out.set (i + j) r') q (by omega) (hd.set _ gr0 gr1) (by simp [hl]) gq0 g4 (fun m hm => by rw [getD_set (by omega)]; exact hz m hm)
  refine ⟨out', fun r he => ?_, k2, k3, ?_, k5⟩
  ·refine Ev.step (fun k => ?_) (k1 r he)
   simp only [dioramaref02_Times.l1, HW.out.1, rd_nat, hx, Int.toNat_natCast]
   rw [if_pos c1, if_pos c2, if_pos c3, if_pos c4, if_pos c5, digit_f, hyv, hov]
   simp only [Option.bind_some, HG.out.1, HG.out.2.1, HG.out.2.2, HW.out.2]
  ·rw [k4, dv_set _ _ _ _ c6, hov, dv_drop 1000000000 b j c7, hyv, ← Nat.add_assoc, pw_succ]
   exact (mul_step hs).symm
theorem times_l0 (a b : List Int) (ha : Dg 1000000000 a) (hb : Dg 1000000000 b) (hn : a.length + b.length ≤ 1000000) :
  ∀ (d i : Nat) (out : List Int), i + d = a.length → Dg 1000000000 out → out.length = a.length + b.length → dv 1000000000 out = dv 1000000000 (a.take i) * dv 1000000000 b → (∀ m, i + b.length ≤ m → out.getD m 0 = 0) →
  ∃ r, Ev (fun k => dioramaref02_Times.l0 k a b out (i : Int)) r ∧ Nn r ∧ dv 1000000000 r = dv 1000000000 a * dv 1000000000 b ∧ r.length ≤ a.length + b.length := by
 intro d
 induction d with
 | zero =>
  intro i out hi hd hl hv hz
  obtain ⟨r, he, hc, hr, hlr⟩ := trimmed_f out hd (by omega)
  refine ⟨r, Ev.step (f := fun k => (dioramaref02_trimmed.f k out).bind fun t => some t) (fun k => ?_) (Ev.bind he (Ev.now _)), hc, by rw [hr, hv, nv_take_all (by omega)], by omega⟩
  simp only [dioramaref02_Times.l0]
  rw [if_neg (by omega)]
 | succ d ih =>
  intro i out hi hd hl hv hz
  have hx := ha.getD (by decide) i
  obtain ⟨out', k1, k2, k3, k4, k5⟩ := times_l1 a b i (a.getD i 0) rfl (by omega) hb hx.1 hx.2 hn b.length 0 out 0 (by omega) hd hl (by decide) (by decide) hz
  obtain ⟨r, he, h⟩ := ih (i + 1) out' (by omega) k3 k2 (by
   rw [k4, hv, dv_take_succ' _ a i]
   simp only [List.drop_zero, Nat.add_zero]
   grind) (fun m hm => k5 m (by omega))
  refine ⟨r, Ev.step (fun k => ?_) (k1 r he), h⟩
  simp only [dioramaref02_Times.l0]
  rw [if_pos (by omega)]
  rfl
theorem times_f (a b : List Int) (ha : Nn a) (hb : Nn b) (hn : a.length + b.length ≤ 1000000) : ∃ r, Ev (fun k => dioramaref02_Times.f k a b) r ∧ Nn r ∧ dv 1000000000 r = dv 1000000000 a * dv 1000000000 b ∧ r.length ≤ a.length + b.length := by
 have e1 : wrap64 ((a.length : Int) + (b.length : Int)) = ((a.length + b.length : Nat) : Int) := by rw [w64 (by omega) (by omega)]; omega
 obtain ⟨r, he, h⟩ := times_l0 a b ha.dg hb.dg hn a.length 0 (List.replicate (a.length + b.length) 0) (by omega) (Dg.replicate (by decide) _) (by simp) (by rw [dv_replicate]; simp [dv]) (fun m _ => by
  rw [List.getD_eq_getElem?_getD, List.getElem?_replicate]
  split <;> rfl)
 refine ⟨r, Ev.congr (fun k => ?_) he, h⟩
 simp only [dioramaref02_Times.f, e1, Int.toNat_natCast]
 rw [if_pos (by omega), if_pos (by omega)]
 rfl
end Go.Proofs.Ytpbhepdgamoiaaa.Pb
namespace Go.Proofs.Ytpbhepdgamoiaaa.Pc
open Go.RowKit Go.Proofs.Ytpbhepdgamoiaaa.P Go.Proofs.Ytpbhepdgamoiaaa.E Go.Proofs.YtpbhepdgamoiaaaW.PrintWords Go.Proofs.YtpbhepdgamoiaaaW.PrintLast Go.Proofs.Ytpbhepdgamoiaaa.Ml Go.Proofs.Ytpbhepdgamoiaaa.Mn Go.Proofs.Ytpbhepdgamoiaaa.Pa Go.Proofs.Ytpbhepdgamoiaaa.Pb
set_option linter.unusedVariables false
set_option linter.unusedSimpArgs false
theorem drop_set' {l : List Int} {i : Nat} {v : Int} : (l.set i v).drop (i + 1) = l.drop (i + 1) := by
 rw [List.drop_set]
 simp
theorem over_l1 (a b q rest : List Int) (i : Nat) (hb : Nn b) (hr : Nn rest) (hi : i < q.length) (hq : q.length ≤ 1000000) (hlb : b.length ≤ 100000) (hlr : rest.length ≤ 200000) (hbp : 0 < dv 1000000000 b) :
  ∀ (m : Nat) (low high : Int), high - low ≤ m → 0 ≤ low → low ≤ high → high ≤ 999999999 → low * dv 1000000000 b ≤ dv 1000000000 rest → dv 1000000000 rest < (high + 1) * dv 1000000000 b →
  ∃ t rest', 0 ≤ t ∧ t < 1000000000 ∧ Nn rest' ∧ dv 1000000000 rest = t * dv 1000000000 b + dv 1000000000 rest' ∧ dv 1000000000 rest' < dv 1000000000 b ∧ (∀ r, Ev (fun k => dioramaref02_Over.l0 k a b (q.set i t) rest' ((i : Int) - 1)) r → Ev (fun k => dioramaref02_Over.l1 k a b q rest (i : Int) low high) r) := by
 intro m
 induction m with
 | zero =>
  intro low high hm h0 h1 h2 hlo hhi
  obtain rfl : low = high := by omega
  obtain ⟨o, eo, ho, vo, lo⟩ := of_f low h0 (by omega)
  obtain ⟨p, ep, hp, vp, lp⟩ := times_f b o hb ho (by omega)
  have e1 : dv 1000000000 p = low * dv 1000000000 b := by rw [vp, vo, Int.mul_comm]
  obtain ⟨s, es, hs, vs, ls⟩ := minus_f rest p hr hp (by omega) (by omega)
  have e2 : (low + 1) * dv 1000000000 b = low * dv 1000000000 b + dv 1000000000 b := by rw [Int.add_mul]; omega
  refine ⟨low, s, h0, by omega, hs, by omega, by omega, fun r he => ?_⟩
  refine Ev.step (f := fun k => (dioramaref02_Of.f k low).bind fun t197 => ((dioramaref02_Times.f k b t197).bind fun t200 => ((dioramaref02_Minus.f k rest t200).bind fun t203 => (dioramaref02_Over.l0 k a b (q.set i low) t203 ((i : Int) - 1))))) (fun k => ?_) (Ev.bind eo (Ev.bind ep (Ev.bind es he)))
  simp only [dioramaref02_Over.l1, Int.toNat_natCast]
  rw [if_neg (by omega), if_pos (by omega), if_pos (by omega), w64 (by omega) (by omega)]
 | succ m ih =>
  intro low high hm h0 h1 h2 hlo hhi
  by_cases hlt : low < high
  ·have hmid : wrap64 (Int.tdiv (wrap64 (wrap64 (low + high) + 1)) 2) = (low + high + 1) / 2 := by
    rw [w64 (x := low + high) (by omega) (by omega), w64 (x := low + high + 1) (by omega) (by omega), Int.tdiv_eq_ediv_of_nonneg (by omega), w64 (by omega) (by omega)]
   have hm1 : low < (low + high + 1) / 2 := by omega
   have hm2 : (low + high + 1) / 2 ≤ high := by omega
   generalize (low + high + 1) / 2 = mid at *
   obtain ⟨o, eo, ho, vo, lo⟩ := of_f mid (by omega) (by omega)
   obtain ⟨p, ep, hp, vp, lp⟩ := times_f b o hb ho (by omega)
   have e1 : dv 1000000000 p = mid * dv 1000000000 b := by rw [vp, vo, Int.mul_comm]
   have ec := compare_f p rest hp hr (by omega) (by omega)
   rw [e1] at ec
   by_cases hc : mid * dv 1000000000 b ≤ dv 1000000000 rest
   ·obtain ⟨t, rest', g1, g2, g3, g4, g5, g6⟩ := ih mid high (by omega) (by omega) hm2 h2 hc hhi
    have hle : Nd.cmpI (mid * dv 1000000000 b) (dv 1000000000 rest) ≤ 0 := by
     unfold Nd.cmpI
     by_cases h2 : mid * dv 1000000000 b < dv 1000000000 rest
     ·rw [if_pos h2]; decide
     ·rw [if_neg h2, if_neg (by omega)]; decide
    refine ⟨t, rest', g1, g2, g3, g4, g5, fun r he => ?_⟩
    refine Ev.step (f := fun k => (dioramaref02_Of.f k mid).bind fun t206 => ((dioramaref02_Times.f k b t206).bind fun t209 => ((dioramaref02_Compare.f k t209 rest).bind fun t212 => (if t212 ≤ 0 then (dioramaref02_Over.l1 k a b q rest (i : Int) mid high) else (dioramaref02_Over.l1 k a b q rest (i : Int) low (wrap64 (mid - 1))))))) (fun k => ?_) (Ev.bind eo (Ev.bind ep (Ev.bind ec (Ev.congr (fun k => ?_) (g6 r he)))))
    ·simp only [dioramaref02_Over.l1, hmid]
     rw [if_pos hlt]
    ·rw [if_pos hle]
   ·have hw : wrap64 (mid - 1) = mid - 1 := w64 (by omega) (by omega)
    obtain ⟨t, rest', g1, g2, g3, g4, g5, g6⟩ := ih low (mid - 1) (by omega) h0 (by omega) (by omega) hlo (by rw [Int.sub_add_cancel]; omega)
    have hle : ¬ Nd.cmpI (mid * dv 1000000000 b) (dv 1000000000 rest) ≤ 0 := by
     rw [cmp2 (by omega)]; decide
    refine ⟨t, rest', g1, g2, g3, g4, g5, fun r he => ?_⟩
    refine Ev.step (f := fun k => (dioramaref02_Of.f k mid).bind fun t206 => ((dioramaref02_Times.f k b t206).bind fun t209 => ((dioramaref02_Compare.f k t209 rest).bind fun t212 => (if t212 ≤ 0 then (dioramaref02_Over.l1 k a b q rest (i : Int) mid high) else (dioramaref02_Over.l1 k a b q rest (i : Int) low (wrap64 (mid - 1))))))) (fun k => ?_) (Ev.bind eo (Ev.bind ep (Ev.bind ec (Ev.congr (fun k => ?_) (g6 r he)))))
    ·simp only [dioramaref02_Over.l1, hmid]
     rw [if_pos hlt]
    ·rw [if_neg hle, hw]
  ·exact ih low high (by omega) h0 h1 h2 hlo hhi
theorem over_l0 (a b : List Int) (ha : Dg 1000000000 a) (hb : Nn b) (hla : a.length ≤ 100000) (hlb : b.length ≤ 100000) (hbp : 0 < dv 1000000000 b) :
  ∀ (i : Nat) (q rest : List Int), i ≤ a.length → q.length = a.length → Dg 1000000000 q → Nn rest → dv 1000000000 rest < dv 1000000000 b → dv 1000000000 (a.drop i) = dv 1000000000 (q.drop i) * dv 1000000000 b + dv 1000000000 rest →
  ∃ r1 r2, Ev (fun k => dioramaref02_Over.l0 k a b q rest ((i : Int) - 1)) (r1, r2) ∧ Nn r1 ∧ Nn r2 ∧ dv 1000000000 a = dv 1000000000 r1 * dv 1000000000 b + dv 1000000000 r2 ∧ dv 1000000000 r2 < dv 1000000000 b ∧ r1.length ≤ a.length ∧ r2.length ≤ b.length := by
 have hlen : ∀ {l : List Int}, Nn l → dv 1000000000 l < dv 1000000000 b → l.length ≤ b.length := by
  intro l hl h
  refine Nat.le_of_not_lt fun h2 => ?_
  have := dv_len (by decide) hb.dg hl h2
  omega
 intro i
 induction i with
 | zero =>
  intro q rest _ hq dq hr hlt hv
  obtain ⟨r, he, hc, hvr, hlr⟩ := trimmed_f q dq (by omega)
  rw [List.drop_zero, List.drop_zero] at hv
  refine ⟨r, rest, Ev.step (f := fun k => (dioramaref02_trimmed.f k q).bind fun t => some (t, rest)) (fun k => ?_) (Ev.bind he (Ev.now _)), hc, hr, by rw [hvr]; exact hv, hlt, by omega, hlen hr hlt⟩
  simp [dioramaref02_Over.l0]
 | succ i ih =>
  intro q rest hi hq dq hr hlt hv
  have e : (((i + 1 : Nat) : Int) - 1) = (i : Int) := by omega
  have hx := ha.getD (by decide) i
  have hlr := hlen hr hlt
  obtain ⟨u, eu, hu, vu, lu⟩ := trimmed_f (a.getD i 0 :: rest) (Dg.cons hx.1 hx.2 hr.dg) (by simp; omega)
  have vu2 : dv 1000000000 u = a.getD i 0 + 1000000000 * dv 1000000000 rest := vu
  have r0 := dv_nonneg (by decide) hr.dg
  simp only [List.length_cons] at lu
  obtain ⟨t, rest', g1, g2, g3, g4, g5, g6⟩ := over_l1 a b q u i hb hu (by omega) (by omega) hlb (by omega) hbp 999999999 0 999999999 (by decide) (by decide) (by decide) (by decide) (by have := dv_nonneg (by decide) hu.dg ; omega) (by
   have : (1000000000 : Int) * (dv 1000000000 rest + 1) ≤ 1000000000 * dv 1000000000 b := Int.mul_le_mul_of_nonneg_left (by omega) (by decide)
   rw [vu2]
   omega)
  obtain ⟨r1, r2, he, h⟩ := ih (q.set i t) rest' (by omega) (by simpa using hq) (dq.set _ g1 g2) g3 g5 (by
   rw [dv_drop _ a i (by omega), dv_drop _ (q.set i t) i (by simp; omega), drop_set', getD_set_self (by omega), hv]
   have := vu2
   rw [g4] at this
   grind)
  refine ⟨r1, r2, ?_, h⟩
  rw [e]
  refine Ev.step (f := fun k => (dioramaref02_trimmed.f k (a.getD i 0 :: rest)).bind fun t193 => (dioramaref02_Over.l1 k a b q t193 (i : Int) 0 999999999)) (fun k => ?_) (Ev.bind eu (g6 _ he))
  simp only [dioramaref02_Over.l0, rd_nat, Option.bind_some, List.singleton_append, List.length_singleton]
  rw [if_pos (by omega), if_pos (by omega), if_pos (by omega), if_pos (by omega)]
theorem over_f (a b : List Int) (ha : Nn a) (hb : Nn b) (hla : a.length ≤ 100000) (hlb : b.length ≤ 100000) (hbp : 0 < dv 1000000000 b) :
  ∃ r1 r2, Ev (fun k => dioramaref02_Over.f k a b) (r1, r2) ∧ Nn r1 ∧ Nn r2 ∧ dv 1000000000 a = dv 1000000000 r1 * dv 1000000000 b + dv 1000000000 r2 ∧ dv 1000000000 r2 < dv 1000000000 b ∧ r1.length ≤ a.length ∧ r2.length ≤ b.length := by
 obtain ⟨r1, r2, he, h⟩ := over_l0 a b ha.dg hb hla hlb hbp a.length (List.replicate a.length 0) [] (Nat.le_refl _) (by simp) (Dg.replicate (by decide) _) (Cn.nil _) hbp (by rw [List.drop_of_length_le (Nat.le_refl _), List.drop_of_length_le (by simp)]; simp [dv])
 refine ⟨r1, r2, Ev.congr (fun k => ?_) he, h⟩
 simp only [dioramaref02_Over.f, Int.toNat_natCast]
 rw [if_pos (by omega), if_pos (by omega), w64 (by omega) (by omega)]
end Go.Proofs.Ytpbhepdgamoiaaa.Pc
namespace Go.Proofs.Ytpbhepdgamoiaaa.Qr
open Go.RowKit Go Go.Proofs.YtpbhepdgamoiaaaW.PrintWords Go.Proofs.YtpbhepdgamoiaaaW.PrintLast Go.Proofs.YtpbhepdgamoiaaaW.PrintMore Go.Proofs.Ytpbhepdgamoiaaa.Ml Go.Proofs.Ytpbhepdgamoiaaa.Mn Go.Proofs.Ytpbhepdgamoiaaa.Nd Go.Proofs.Ytpbhepdgamoiaaa.Pa Go.Proofs.Ytpbhepdgamoiaaa.Pb Go.Proofs.Ytpbhepdgamoiaaa.Rf Go.Proofs.Ytpbhepdgamoiaaa.Er Go.Proofs.Ytpbhepdgamoiaaa.Ek Go.Proofs.Ytpbhepdgamoiaaa.E Go.Proofs.Ytpbhepdgamoiaaa.Pe Go.Proofs.Ytpbhepdgamoiaaa.Pf
set_option linter.unusedVariables false
set_option linter.unusedSimpArgs false
structure RV (b : Bool) (x y : List Int) (q : Rat) (n : Nat) : Prop where
 nx : Nn x
 ny : Nn y
 pos : 0 < dv 1000000000 y
 eq : q = qq (sg b (dv 1000000000 x)) (dv 1000000000 y)
 lx : x.length ≤ n
 ly : y.length ≤ n
theorem RV.mono {b : Bool} {x y : List Int} {q : Rat} {n m : Nat} (h : RV b x y q n) (hm : n ≤ m) : RV b x y q m := ⟨h.nx, h.ny, h.pos, h.eq, Nat.le_trans h.lx hm, Nat.le_trans h.ly hm⟩
theorem RV.x0 {b : Bool} {x y : List Int} {q : Rat} {n : Nat} (h : RV b x y q n) : 0 ≤ dv 1000000000 x := dv_nonneg (by decide) h.nx.dg
theorem qq_parts {a b : Int} (hb : 0 < b) : ∃ g : Int, 0 < g ∧ a = (qq a b).num * g ∧ b = ((qq a b).den : Int) * g := by
 obtain ⟨h1, h2⟩ := rat_low (a := a) (b := b) (by omega)
 refine ⟨(Int.gcd a b : Nat), ?_, ?_, ?_⟩
 ·have := Int.gcd_pos_of_ne_zero_right a (show b ≠ 0 by omega)
  omega
 ·rw [← h1]
  unfold Ra.ratN Ea.lowN
  rw [if_neg (by omega)]
  exact (Int.ediv_mul_cancel (Int.gcd_dvd_left a b)).symm
 ·rw [← h2]
  unfold Ra.ratD Ea.lowD
  rw [if_neg (by omega)]
  exact (Int.ediv_mul_cancel (Int.gcd_dvd_right a b)).symm
theorem qq_lt {a b c d : Int} (hb : 0 < b) (hd : 0 < d) : qq a b < qq c d ↔ a * d < c * b := by
 obtain ⟨g, hg, e1, e2⟩ := qq_parts (a := a) hb
 obtain ⟨h, hh, e3, e4⟩ := qq_parts (a := c) hd
 rw [Rat.lt_iff]
 generalize (qq a b).num = N1 at *
 generalize ((qq a b).den : Int) = D1 at *
 generalize (qq c d).num = N2 at *
 generalize ((qq c d).den : Int) = D2 at *
 subst e1 e2 e3 e4
 have k1 : N1 * g * (D2 * h) = N1 * D2 * (g * h) := by grind
 have k2 : N2 * h * (D1 * g) = N2 * D1 * (g * h) := by grind
 rw [k1, k2]
 exact (Int.mul_lt_mul_right (Int.mul_pos hg hh)).symm
theorem RV.neg {b : Bool} {x y : List Int} {q : Rat} {n : Nat} (h : RV b x y q n) : RV (!b) x y (-q) n := by
 refine ⟨h.nx, h.ny, h.pos, ?_, h.lx, h.ly⟩
 rw [h.eq]
 unfold qq
 rw [Rat.neg_divInt]
 congr 1
 cases b <;> simp [sg]
end Go.Proofs.Ytpbhepdgamoiaaa.Qr
namespace Go.Proofs.Ytpbhepdgamoiaaa.Qn
open Go.RowKit Go Go.Proofs.YtpbhepdgamoiaaaW.PrintWords Go.Proofs.YtpbhepdgamoiaaaW.PrintLast Go.Proofs.YtpbhepdgamoiaaaW.PrintMore Go.Proofs.Ytpbhepdgamoiaaa.Ml Go.Proofs.Ytpbhepdgamoiaaa.Mn Go.Proofs.Ytpbhepdgamoiaaa.Nd Go.Proofs.Ytpbhepdgamoiaaa.Pa Go.Proofs.Ytpbhepdgamoiaaa.Pb Go.Proofs.Ytpbhepdgamoiaaa.Rf Go.Proofs.Ytpbhepdgamoiaaa.Er Go.Proofs.Ytpbhepdgamoiaaa.Ek Go.Proofs.Ytpbhepdgamoiaaa.E Go.Proofs.Ytpbhepdgamoiaaa.Pe Go.Proofs.Ytpbhepdgamoiaaa.Pf Go.Proofs.Ytpbhepdgamoiaaa.Pg Go.Proofs.Ytpbhepdgamoiaaa.Qr
set_option linter.unusedVariables false
set_option linter.unusedSimpArgs false
theorem qq_eq {a b c d : Int} (hb : b ≠ 0) (hd : d ≠ 0) : qq a b = qq c d ↔ a * d = c * b := by
 unfold qq
 exact Rat.divInt_eq_divInt_iff hb hd
theorem qq_div (a b : Int) : qq a b = (a : Rat) / (b : Rat) := by unfold qq; exact Rat.divInt_eq_div a b
end Go.Proofs.Ytpbhepdgamoiaaa.Qn
namespace Go.Proofs.Ytpbhepdgamoiaaa.Qo
open Go.RowKit Go Go.Proofs.YtpbhepdgamoiaaaW.PrintWords Go.Proofs.YtpbhepdgamoiaaaW.PrintLast Go.Proofs.YtpbhepdgamoiaaaW.PrintMore Go.Proofs.Ytpbhepdgamoiaaa.Ml Go.Proofs.Ytpbhepdgamoiaaa.Mn Go.Proofs.Ytpbhepdgamoiaaa.Nd Go.Proofs.Ytpbhepdgamoiaaa.Pa Go.Proofs.Ytpbhepdgamoiaaa.Pb Go.Proofs.Ytpbhepdgamoiaaa.Rf Go.Proofs.Ytpbhepdgamoiaaa.Er Go.Proofs.Ytpbhepdgamoiaaa.Ek Go.Proofs.Ytpbhepdgamoiaaa.E Go.Proofs.Ytpbhepdgamoiaaa.Pe Go.Proofs.Ytpbhepdgamoiaaa.Pf Go.Proofs.Ytpbhepdgamoiaaa.Pg Go.Proofs.Ytpbhepdgamoiaaa.Qr Go.Proofs.Ytpbhepdgamoiaaa.Qn
set_option linter.unusedVariables false
set_option linter.unusedSimpArgs false
theorem RV.int {b : Bool} {x y : List Int} {z : Int} {n : Nat} (h : RV b x y (qq z 1) n) (hy : dv 1000000000 y = 1) : sg b (dv 1000000000 x) = z := by
 have e := h.eq
 rw [hy, qq_eq (by decide) (by decide)] at e
 omega
structure RZ (b : Bool) (x y : List Int) (z : Int) (n : Nat) : Prop where
 nx : Nn x
 ny : Nn y
 y1 : dv 1000000000 y = 1
 eq : sg b (dv 1000000000 x) = z
 lx : x.length ≤ n
 ly : y.length ≤ n
end Go.Proofs.Ytpbhepdgamoiaaa.Qo
namespace Go.Proofs.Ytpbhepdgamoiaaa.Qw
open Go.RowKit Go Go.Proofs.YtpbhepdgamoiaaaW.PrintWords Go.Proofs.YtpbhepdgamoiaaaW.PrintLast Go.Proofs.YtpbhepdgamoiaaaW.PrintMore Go.Proofs.Ytpbhepdgamoiaaa.Ml Go.Proofs.Ytpbhepdgamoiaaa.Mn Go.Proofs.Ytpbhepdgamoiaaa.Nd Go.Proofs.Ytpbhepdgamoiaaa.Pa Go.Proofs.Ytpbhepdgamoiaaa.Pb Go.Proofs.Ytpbhepdgamoiaaa.Pc Go.Proofs.Ytpbhepdgamoiaaa.Rf Go.Proofs.Ytpbhepdgamoiaaa.Er Go.Proofs.Ytpbhepdgamoiaaa.Ek Go.Proofs.Ytpbhepdgamoiaaa.E Go.Proofs.Ytpbhepdgamoiaaa.Pe Go.Proofs.Ytpbhepdgamoiaaa.Pf Go.Proofs.Ytpbhepdgamoiaaa.Qr Go.Proofs.Ytpbhepdgamoiaaa.Qn Go.Proofs.Ytpbhepdgamoiaaa.Ew
set_option linter.unusedVariables false
set_option linter.unusedSimpArgs false
theorem qq_one (z : Int) : qq z 1 = (z : Rat) := by
 rw [qq_div, show ((1 : Int) : Rat) = 1 from rfl]
 grind
end Go.Proofs.Ytpbhepdgamoiaaa.Qw
namespace Go.Proofs.Ytpbhepdgamoiaaa.Nm
open Go.RowKit Go Go.Proofs.Ytpbhepdgamoiaaa.Rf Go.Proofs.Ytpbhepdgamoiaaa.Er Go.Proofs.Ytpbhepdgamoiaaa.Ek Go.Proofs.Ytpbhepdgamoiaaa.Et Go.Proofs.Ytpbhepdgamoiaaa.E Go.Proofs.Ytpbhepdgamoiaaa.Pe Go.Proofs.Ytpbhepdgamoiaaa.Pf Go.Proofs.Ytpbhepdgamoiaaa.Qr Go.Proofs.Ytpbhepdgamoiaaa.Qn Go.Proofs.Ytpbhepdgamoiaaa.Qw
set_option linter.unusedVariables false
set_option linter.unusedSimpArgs false
theorem qq_lt1 {a b c : Int} (hc : 0 < c) : qq a c < qq b c ↔ a < b := by
 rw [qq_lt hc hc]
 exact ⟨fun h => Int.lt_of_mul_lt_mul_right h (by omega), fun h => Int.mul_lt_mul_of_pos_right h hc⟩
theorem qq_le1 {a b c : Int} (hc : 0 < c) : qq a c ≤ qq b c ↔ a ≤ b := by
 rw [← Rat.not_lt, qq_lt1 hc]
 omega
theorem qq_add1 {a b c : Int} (hc : c ≠ 0) : qq (a + b) c = qq a c + qq b c := by
 unfold qq
 rw [Rat.divInt_add_divInt _ _ hc hc, ← Int.add_mul, Rat.divInt_mul_right hc]
theorem qq_lo (n e : Int) : qq (qq n e).num ((qq n e).den : Int) = qq n e := Rat.num_divInt_den _
theorem qq_zero (e : Int) : qq 0 e = 0 := by
 unfold qq
 simp
theorem qq_split {m t : Int} (ht : t ≠ 0) : qq m 1 = qq m t * qq t 1 := by
 unfold qq
 rw [Rat.divInt_mul_divInt, Int.mul_comm m t, Int.mul_one]
 conv => rhs; rw [show t = t * 1 by omega, Int.mul_assoc, Int.one_mul]
 rw [Rat.divInt_mul_left ht]
theorem qq_ne {t : Int} (ht : t ≠ 0) : qq t 1 ≠ 0 := by
 rw [qq_one]
 exact fun h => ht (by exact_mod_cast h)
theorem lt_le {a b c : Rat} (h : a < b) (h2 : b ≤ c) : a < c := Rat.not_le.1 fun h3 => Rat.not_le.2 h (Rat.le_trans h2 h3)
abbrev noV : (Int × Int) × Bool × Int := ((0, 1), false, 0)
def shV (ts : Int) (x : Ed) (p : Rat) : (Int × Int) × Bool × Int := if x.f1 < 0 then noV else ((tmV (qq x.f1 ts + p * qq x.f2 x.f3)).1, (tmV (qq x.f1 ts + p * qq x.f2 x.f3)).2 == 0, (tmV (qq x.f1 ts + p * qq x.f2 x.f3)).2)
theorem med_cons (ms ts : Int) (q : Rat) (b : Int) (x : Ed) (t : List Ed) : medL ms ts q b (x :: t) = if q < qq b ms then medL ms ts q (b + x.f0) t else if q < qq (b + x.f0) ms then shV ts x (q - qq b ms) else medL ms ts q (b + x.f0) t := rfl
theorem med_cong {ms ts : Int} {q : Rat} {u v : List Ed} (h : ∀ b, medL ms ts q b u = medL ms ts q b v) : ∀ (p : List Ed) (b : Int), medL ms ts q b (p ++ u) = medL ms ts q b (p ++ v)
 | [], b => h b
 | x :: t, b => by
  rw [List.cons_append, List.cons_append, med_cons, med_cons, med_cong h t]
theorem sh_low (ts : Int) (x : Ed) (p : Rat) : shV ts (lowV x) p = shV ts x p := by
 unfold shV lowV
 simp only [qq_lo]
theorem med_map {ms ts : Int} {q : Rat} : ∀ (l : List Ed) (b : Int), medL ms ts q b (l.map lowV) = medL ms ts q b l
 | [], b => rfl
 | x :: t, b => by
  rw [List.map_cons, med_cons, med_cons, sh_low]
  show (if q < qq b ms then medL ms ts q (b + x.f0) (t.map lowV) else if q < qq (b + x.f0) ms then shV ts x (q - qq b ms) else medL ms ts q (b + x.f0) (t.map lowV)) = _
  rw [med_map t]
theorem cmpQ_eq {p q : Rat} (h : cmpQ p q = 0) : p = q := by
 unfold cmpQ at h
 split at h
 ·cases h
 ·split at h
  ·cases h
  ·rename_i h1 h2
   exact Rat.le_antisymm (Rat.not_lt.1 h2) (Rat.not_lt.1 h1)
theorem ov_sh {ms ts : Int} {a e : Ed} (hm : 0 < ms) (ht : 0 < ts) (h : ovV ms ts a e = true) (p : Rat) : shV ts e p = shV ts a (p + qq a.f0 ms) := by
 unfold ovV overB kinB kB kS kN kE at h
 simp only [Bool.and_eq_true, Bool.or_eq_true, beq_iff_eq, decide_eq_decide, decide_eq_true_eq] at h
 obtain ⟨⟨h1, h2, h3, h4⟩, h5⟩ := h
 unfold shV
 by_cases hn : a.f1 < 0
 ·rw [if_pos hn, if_pos (h1.1 hn)]
 ·have hn' : ¬ e.f1 < 0 := fun h => hn (h1.2 h)
  rw [if_neg hn, if_neg hn'] at h2 h3 h4
  rw [if_neg hn, if_neg hn']
  have hq : qq e.f1 ts + p * qq e.f2 e.f3 = qq a.f1 ts + (p + qq a.f0 ms) * qq a.f2 a.f3 := by
   by_cases z : a.f2 = 0
   ·rw [if_pos z] at h2 h3 h4
    by_cases z' : e.f2 = 0
    ·rw [if_pos z'] at h2
     rw [z, z', qq_zero, qq_zero, h2]
     grind
    ·rw [if_neg z'] at h3
     exact absurd h3.symm z'
   ·rw [if_neg z] at h2 h3 h4
    by_cases z' : e.f2 = 0
    ·rw [if_pos z'] at h3
     exact absurd h3 z
    ·rw [if_neg z'] at h3 h4
     have h6 : cmpQ (afterQ ms ts a.f1 a.f2 a.f3 a.f0) (qq e.f1 1) = 0 := by
      rcases h5 with (h5 | h5) | h5
      ·exact absurd h5 hn
      ·exact absurd h5 z
      ·exact h5
     have h7 := cmpQ_eq h6
     unfold afterQ at h7
     rw [qq_split (m := a.f1) (t := ts) (by omega), qq_split (m := e.f1) (t := ts) (by omega)] at h7
     have h8 : qq e.f1 ts = qq a.f0 ms * qq a.f2 a.f3 + qq a.f1 ts := by
      have h9 := qq_ne (t := ts) (by omega)
      generalize qq ts 1 = T at h7 h9
      have : (qq a.f0 ms * qq a.f2 a.f3 + qq a.f1 ts - qq e.f1 ts) * T = 0 := by grind
      rcases Rat.mul_eq_zero.1 this with h | h
      ·grind
      ·exact absurd h h9
     rw [h8, ← h3, ← h4]
     grind
  rw [hq]
theorem med_two {ms ts : Int} {q : Rat} {a e : Ed} {t : List Ed} (hm : 0 < ms) (ht : 0 < ts) (ha : 0 ≤ a.f0) (he : 0 ≤ e.f0) (h : ovV ms ts a e = true) (b : Int) : medL ms ts q b (⟨a.f0 + e.f0, a.f1, a.f2, a.f3⟩ :: t) = medL ms ts q b (a :: e :: t) := by
 rw [med_cons, med_cons, med_cons]
 have l1 := (qq_le1 (a := b) (b := b + a.f0) hm).2 (by omega)
 have l2 := (qq_le1 (a := b + a.f0) (b := b + a.f0 + e.f0) hm).2 (by omega)
 have hs : ∀ p, shV ts (⟨a.f0 + e.f0, a.f1, a.f2, a.f3⟩ : Ed) p = shV ts a p := fun p => rfl
 rw [hs]
 show (if q < qq b ms then medL ms ts q (b + (a.f0 + e.f0)) t else if q < qq (b + (a.f0 + e.f0)) ms then shV ts a (q - qq b ms) else medL ms ts q (b + (a.f0 + e.f0)) t) = _
 rw [← Int.add_assoc]
 by_cases c1 : q < qq b ms
 ·rw [if_pos c1, if_pos c1, if_pos (lt_le c1 l1)]
 ·rw [if_neg c1, if_neg c1]
  by_cases c2 : q < qq (b + a.f0) ms
  ·rw [if_pos c2, if_pos (lt_le c2 l2)]
  ·rw [if_neg c2, if_neg c2]
   by_cases c3 : q < qq (b + a.f0 + e.f0) ms
   ·rw [if_pos c3, if_pos c3, ov_sh hm ht h]
    congr 1
    rw [qq_add1 (by omega)]
    grind
   ·rw [if_neg c3, if_neg c3]
theorem push_med {ms ts : Int} {q : Rat} (hm : 0 < ms) (ht : 0 < ts) {out : List Ed} {e : Ed} (h : ∀ x ∈ out, Wd x) (he : Wd e) (t : List Ed) (b : Int) : medL ms ts q b ((push ms ts out e).reverse ++ t) = medL ms ts q b (out.reverse ++ e :: t) := by
 cases out with
 | nil => rfl
 | cons a o =>
  have ha := (h a (by simp)).d0
  have hd := he.d0
  simp only [push]
  split
  ·rename_i ho
   simp only [List.reverse_cons, List.append_assoc, List.singleton_append]
   exact med_cong (fun b' => med_two hm ht (by omega) (by omega) ho b') _ b
  ·simp only [List.reverse_cons, List.append_assoc, List.singleton_append, List.cons_append, List.nil_append]
theorem nrmR_med {ms ts : Int} {q : Rat} (hm : 0 < ms) (ht : 0 < ts) : ∀ (l out : List Ed) (b : Int), (∀ x ∈ out, Wd x) → (∀ x ∈ l, Vd x) → medL ms ts q b (nrmR ms ts out l).reverse = medL ms ts q b (out.reverse ++ l.map lowV)
 | [], out, b, _, _ => by simp [nrmR]
 | x :: t, out, b, h, hV => by
  have hw := wd_low (hV x (by simp))
  have hn : nrmR ms ts out (x :: t) = nrmR ms ts (push ms ts out (lowV x)) t := rfl
  rw [hn, nrmR_med hm ht t _ b (push_wd h hw) (fun y hy => hV y (by simp [hy])), push_med hm ht h hw]
  rfl
theorem nrm_med {ms ts : Int} {q : Rat} (hc : Ck ms ts) {l : List Ed} (hV : ∀ x ∈ l, Vd x) (b : Int) : medL ms ts q b (nrm ms ts l) = medL ms ts q b l := by
 unfold nrm
 rw [nrmR_med (by have := hc.m0; omega) (by have := hc.t0; omega) l [] b (by simp) hV]
 exact med_map l b
def Em1 (x : Ed) : Prop := x.f1 < 0 → x.f2 = 1 ∧ x.f3 = 1
theorem em_low {x : Ed} (h : Em1 x) : Em1 (lowV x) := by
 intro hm
 have := h hm
 unfold lowV
 simp only
 rw [this.1, this.2]
 decide
theorem push_em {ms ts : Int} {out : List Ed} {e : Ed} (h : ∀ x ∈ out, Em1 x) (he : Em1 e) : ∀ x ∈ push ms ts out e, Em1 x := by
 cases out with
 | nil => simpa [push] using he
 | cons a t =>
  have ha := h a (by simp)
  simp only [push]
  split
  ·intro x hx
   simp only [List.mem_cons] at hx
   rcases hx with rfl | hx
   ·exact ha
   ·exact h x (by simp [hx])
  ·intro x hx
   simp only [List.mem_cons] at hx
   rcases hx with rfl | hx
   ·exact he
   ·exact h x (by simpa using hx)
theorem nrmR_wd {ms ts : Int} : ∀ (l out : List Ed), (∀ x ∈ out, Wd x ∧ Em1 x) → (∀ x ∈ l, Vd x) → ∀ x ∈ nrmR ms ts out l, Wd x ∧ Em1 x
 | [], out, h, _ => h
 | x :: t, out, h, hV => by
  have hx := hV x (by simp)
  have hn : nrmR ms ts out (x :: t) = nrmR ms ts (push ms ts out (lowV x)) t := rfl
  rw [hn]
  refine nrmR_wd t _ (fun y hy => ⟨push_wd (fun z hz => (h z hz).1) (wd_low hx) y hy, push_em (fun z hz => (h z hz).2) (em_low hx.em) y hy⟩) (fun y hy => hV y (by simp [hy]))
theorem le_sum : ∀ (l : List Ed), (∀ x ∈ l, Wd x) → ∀ x ∈ l, x.f0 ≤ sumD l
 | [], _, x, hx => by cases hx
 | y :: t, h, x, hx => by
  have h0 := (h y (by simp)).d0
  have hs := wd_sum (l := t) (fun z hz => h z (by simp [hz]))
  simp only [sumD]
  rcases List.mem_cons.1 hx with rfl | hx
  ·omega
  ·have := le_sum t (fun z hz => h z (by simp [hz])) x hx
   omega
theorem nrm_vd {ms ts : Int} {l : List Ed} (hV : ∀ x ∈ l, Vd x) (hs : sumD l ≤ 1099511627776) : ∀ x ∈ nrm ms ts l, Vd x := by
 have h := nrmR_wd (ms := ms) (ts := ts) l [] (by simp) hV
 have h1 : ∀ x ∈ nrm ms ts l, Wd x ∧ Em1 x := fun x hx => h x (List.mem_reverse.1 hx)
 have h2 := le_sum (nrm ms ts l) (fun x hx => (h1 x hx).1)
 rw [nrm_sum] at h2
 intro x hx
 have hw := (h1 x hx).1
 have := h2 x hx
 exact ⟨hw.d0, by omega, hw.m0, hw.m1, hw.n0, hw.n1, hw.e0, hw.e1, (h1 x hx).2⟩
theorem nrm_ok {l : List Ed} {ms ts : Int} (h : chk l ms ts = 0) : chk (nrm ms ts l) ms ts = 0 := by
 obtain ⟨hc, hl, hV, hs⟩ := chk_ok.1 h
 have := nrm_len ms ts l
 exact chk_ok.2 ⟨hc, by omega, nrm_vd hV hs, by rw [nrm_sum]; exact hs⟩
def Apart (ms ts : Int) : List Ed → Prop
 | [] => True
 | [_] => True
 | x :: y :: t => ovV ms ts y x = false ∧ Apart ms ts (y :: t)
theorem push_apart {ms ts : Int} {out : List Ed} (e : Ed) (h : Apart ms ts out) : Apart ms ts (push ms ts out e) := by
 cases out with
 | nil => trivial
 | cons a t =>
  simp only [push]
  split
  ·cases t with
   | nil => trivial
   | cons y t => exact ⟨h.1, h.2⟩
  ·rename_i ho
   exact ⟨by simpa using ho, h⟩
theorem low_low (x : Ed) : lowV (lowV x) = lowV x := by
 unfold lowV
 simp only [qq_lo]
theorem push_low {ms ts : Int} {out : List Ed} {e : Ed} (h : ∀ x ∈ out, lowV x = x) (he : lowV e = e) : ∀ x ∈ push ms ts out e, lowV x = x := by
 cases out with
 | nil => simpa [push] using he
 | cons a t =>
  have ha := h a (by simp)
  simp only [push]
  split
  ·intro x hx
   simp only [List.mem_cons] at hx
   rcases hx with rfl | hx
   ·unfold lowV at ha ⊢
    have h2 : (qq a.f2 a.f3).num = a.f2 := congrArg (fun z : Ed => z.f2) ha
    have h3 : ((qq a.f2 a.f3).den : Int) = a.f3 := congrArg (fun z : Ed => z.f3) ha
    simp only [h2, h3]
   ·exact h x (by simp [hx])
  ·intro x hx
   simp only [List.mem_cons] at hx
   rcases hx with rfl | hx
   ·exact he
   ·exact h x (by simpa using hx)
theorem nrmR_keep {ms ts : Int} : ∀ (l out : List Ed), Apart ms ts out → (∀ x ∈ out, lowV x = x) → Apart ms ts (nrmR ms ts out l) ∧ ∀ x ∈ nrmR ms ts out l, lowV x = x
 | [], out, h, h2 => ⟨h, h2⟩
 | x :: t, out, h, h2 => nrmR_keep t (push ms ts out (lowV x)) (push_apart _ h) (push_low h2 (low_low x))
theorem apart_tail {ms ts : Int} : ∀ (p s : List Ed), Apart ms ts (p ++ s) → Apart ms ts s
 | [], s, h => h
 | [x], [], h => trivial
 | [x], y :: t, h => h.2
 | x :: y :: p, s, h => apart_tail (y :: p) s h.2
theorem nrmR_fix {ms ts : Int} : ∀ (r out : List Ed), Apart ms ts (r.reverse ++ out) → (∀ x ∈ r, lowV x = x) → nrmR ms ts out r = r.reverse ++ out
 | [], out, _, _ => rfl
 | x :: t, out, h, h2 => by
  have hn : nrmR ms ts out (x :: t) = nrmR ms ts (push ms ts out (lowV x)) t := rfl
  rw [List.reverse_cons, List.append_assoc, List.singleton_append] at h ⊢
  have hs := apart_tail _ _ h
  have hp : push ms ts out x = x :: out := by
   cases out with
   | nil => rfl
   | cons a o =>
    simp only [push]
    rw [if_neg (by rw [hs.1]; decide)]
  rw [hn, h2 x (by simp), hp]
  exact nrmR_fix t (x :: out) h (fun y hy => h2 y (by simp [hy]))
theorem nrm_nrm (ms ts : Int) (l : List Ed) : nrm ms ts (nrm ms ts l) = nrm ms ts l := by
 obtain ⟨h1, h2⟩ := nrmR_keep (ms := ms) (ts := ts) l [] trivial (by simp)
 have h3 := nrmR_fix (ms := ms) (ts := ts) (nrm ms ts l) [] (by unfold nrm; simpa using h1) (fun x hx => h2 x (List.mem_reverse.1 hx))
 show (nrmR ms ts [] (nrm ms ts l)).reverse = nrm ms ts l
 rw [h3]
 simp
end Go.Proofs.Ytpbhepdgamoiaaa.Nm
namespace Go.Proofs.Ytpbhepdgamoiaaa.Qp
open Go.RowKit Go Go.Proofs.YtpbhepdgamoiaaaW.PrintWords Go.Proofs.YtpbhepdgamoiaaaW.PrintLast Go.Proofs.YtpbhepdgamoiaaaW.PrintMore Go.Proofs.Ytpbhepdgamoiaaa.Ml Go.Proofs.Ytpbhepdgamoiaaa.Mn Go.Proofs.Ytpbhepdgamoiaaa.Nd Go.Proofs.Ytpbhepdgamoiaaa.Pa Go.Proofs.Ytpbhepdgamoiaaa.Pb Go.Proofs.Ytpbhepdgamoiaaa.Rf Go.Proofs.Ytpbhepdgamoiaaa.Er Go.Proofs.Ytpbhepdgamoiaaa.Ek Go.Proofs.Ytpbhepdgamoiaaa.E Go.Proofs.Ytpbhepdgamoiaaa.Pe Go.Proofs.Ytpbhepdgamoiaaa.Pf Go.Proofs.Ytpbhepdgamoiaaa.Pg Go.Proofs.Ytpbhepdgamoiaaa.Qr Go.Proofs.Ytpbhepdgamoiaaa.Qn Go.Proofs.Ytpbhepdgamoiaaa.Qo
set_option linter.unusedVariables false
set_option linter.unusedSimpArgs false
end Go.Proofs.Ytpbhepdgamoiaaa.Qp
namespace Go.Proofs.Ytpbhepdgamoiaaa.Qe
open Go.RowKit Go Go.Proofs.YtpbhepdgamoiaaaW.PrintWords Go.Proofs.YtpbhepdgamoiaaaW.PrintLast Go.Proofs.YtpbhepdgamoiaaaW.PrintMore Go.Proofs.Ytpbhepdgamoiaaa.Mn Go.Proofs.Ytpbhepdgamoiaaa.Er Go.Proofs.Ytpbhepdgamoiaaa.Ek Go.Proofs.Ytpbhepdgamoiaaa.E Go.Proofs.Ytpbhepdgamoiaaa.Pe Go.Proofs.Ytpbhepdgamoiaaa.Pf Go.Proofs.Ytpbhepdgamoiaaa.Pg
set_option linter.unusedVariables false
set_option linter.unusedSimpArgs false
theorem eqEdits_l (a b : List Ed) (hl : a.length ≤ 1000000) (ra : List Ed) : ∀ (pre rb : List Ed), a = pre ++ ra → b = pre ++ rb → ra.length = rb.length → Ev (fun k => dioramaref00_EqEdits.l0 k a b (pre.length : Int)) (decide (ra = rb)) := by
 induction ra with
 | nil =>
  intro pre rb ha hb hr
  have : rb = [] := by cases rb with | nil => rfl | cons _ _ => simp at hr
  subst this
  refine Ev.step (f := fun _ => some (decide (([] : List Ed) = []))) (fun k => ?_) (Ev.now _)
  simp only [dioramaref00_EqEdits.l0]
  rw [if_neg (by rw [ha]; simp)]
  simp
 | cons x t ih =>
  intro pre rb ha hb hr
  cases rb with
  | nil => simp at hr
  | cons y u =>
   have hx : rd_T77 a (pre.length : Int) = x := by rw [ha]; exact rd_at pre x t
   have hy : rd_T77 b (pre.length : Int) = y := by rw [hb]; exact rd_at pre y u
   have hla : a.length = pre.length + (t.length + 1) := by rw [ha]; simp
   have hlb : b.length = pre.length + (u.length + 1) := by rw [hb]; simp
   simp only [List.length_cons, Nat.add_right_cancel_iff] at hr
   by_cases hxy : x = y
   ·subst hxy
    have hi := ih (pre ++ [x]) u (by rw [ha]; simp) (by rw [hb]; simp) hr
    have e : decide (x :: t = x :: u) = decide (t = u) := by simp
    rw [e]
    refine Ev.step (fun k => ?_) hi
    simp only [dioramaref00_EqEdits.l0]
    rw [if_pos (by omega), if_pos (by omega), if_pos (by omega), hx, hy, ed_ne, if_neg (by simp), w64 (by omega) (by omega)]
    simp
   ·rw [decide_eq_false (by intro h; injection h with h _; exact hxy h)]
    refine Ev.step (f := fun _ => some false) (fun k => ?_) (Ev.now _)
    simp only [dioramaref00_EqEdits.l0]
    rw [if_pos (by omega), if_pos (by omega), if_pos (by omega), hx, hy, ed_ne, if_pos (by simpa using hxy)]
theorem eqEdits_f (a b : List Ed) (hl : a.length ≤ 1000000) : Ev (fun k => dioramaref00_EqEdits.f k a b) (decide (a = b)) := by
 by_cases h : a.length = b.length
 ·refine Ev.congr (fun k => ?_) (eqEdits_l a b hl a [] b rfl rfl h)
  unfold dioramaref00_EqEdits.f
  rw [if_pos (by omega)]; rfl
 ·rw [decide_eq_false (fun e => h (by rw [e]))]
  refine Ev.congr (fun k => ?_) (Ev.now _)
  unfold dioramaref00_EqEdits.f
  rw [if_neg (by omega)]
end Go.Proofs.Ytpbhepdgamoiaaa.Qe
namespace Go.Proofs.Ytpbhepdgamoiaaa.Fr
open Go.RowKit Go Go.Proofs.YtpbhepdgamoiaaaW.PrintWords Go.Proofs.YtpbhepdgamoiaaaW.PrintLast Go.Proofs.YtpbhepdgamoiaaaW.PrintMore Go.Proofs.Ytpbhepdgamoiaaa.Mn Go.Proofs.Ytpbhepdgamoiaaa.Rf Go.Proofs.Ytpbhepdgamoiaaa.Er Go.Proofs.Ytpbhepdgamoiaaa.Ek Go.Proofs.Ytpbhepdgamoiaaa.E Go.Proofs.Ytpbhepdgamoiaaa.Pe Go.Proofs.Ytpbhepdgamoiaaa.Pf Go.Proofs.Ytpbhepdgamoiaaa.Pg Go.Proofs.Ytpbhepdgamoiaaa.Qr Go.Proofs.Ytpbhepdgamoiaaa.Qn Go.Proofs.Ytpbhepdgamoiaaa.Qo Go.Proofs.Ytpbhepdgamoiaaa.Qp Go.Proofs.Ytpbhepdgamoiaaa.Qe Go.Proofs.Ytpbhepdgamoiaaa.Qw Go.Proofs.Ytpbhepdgamoiaaa.Oe
set_option linter.unusedVariables false
set_option linter.unusedSimpArgs false
structure Rt (num den : Int) : Prop where
 n0 : 1 ≤ num
 n1 : num ≤ 1000
 d0 : 1 ≤ den
 d1 : den ≤ 1000
end Go.Proofs.Ytpbhepdgamoiaaa.Fr
namespace Go.Proofs.Ytpbhepdgamoiaaa.Cl
open Go.RowKit Go Go.Proofs.YtpbhepdgamoiaaaW.PrintWords Go.Proofs.YtpbhepdgamoiaaaW.PrintLast Go.Proofs.YtpbhepdgamoiaaaW.PrintMore Go.Proofs.Ytpbhepdgamoiaaa.Mn Go.Proofs.Ytpbhepdgamoiaaa.Rf Go.Proofs.Ytpbhepdgamoiaaa.Er Go.Proofs.Ytpbhepdgamoiaaa.Ek Go.Proofs.Ytpbhepdgamoiaaa.Ew Go.Proofs.Ytpbhepdgamoiaaa.E Go.Proofs.Ytpbhepdgamoiaaa.Pe Go.Proofs.Ytpbhepdgamoiaaa.Pf Go.Proofs.Ytpbhepdgamoiaaa.Pg Go.Proofs.Ytpbhepdgamoiaaa.Qr Go.Proofs.Ytpbhepdgamoiaaa.Qn Go.Proofs.Ytpbhepdgamoiaaa.Qo Go.Proofs.Ytpbhepdgamoiaaa.Qp Go.Proofs.Ytpbhepdgamoiaaa.Qe Go.Proofs.Ytpbhepdgamoiaaa.Qw Go.Proofs.Ytpbhepdgamoiaaa.Oe Go.Proofs.Ytpbhepdgamoiaaa.Fr
set_option linter.unusedVariables false
set_option linter.unusedSimpArgs false
def scB (a : Int) : Bool := decide (1 ≤ a) && decide (a ≤ 1000000)
theorem scale_f (a : Int) : edit_isScale.f a = some (scB a) := by
 unfold edit_isScale.f scB
 by_cases h : a ≥ 1
 ·rw [if_pos h, decide_eq_true (show 1 ≤ a from h), Bool.true_and]
 ·rw [if_neg h, decide_eq_false (show ¬ 1 ≤ a from h), Bool.false_and]
end Go.Proofs.Ytpbhepdgamoiaaa.Cl
namespace Go.Proofs.Ytpbhepdgamoiaaa.So
open Go.RowKit Go Go.Proofs.Ytpbhepdgamoiaaa.Rf Go.Proofs.Ytpbhepdgamoiaaa.Er Go.Proofs.Ytpbhepdgamoiaaa.Ek Go.Proofs.Ytpbhepdgamoiaaa.Et Go.Proofs.Ytpbhepdgamoiaaa.Ew Go.Proofs.Ytpbhepdgamoiaaa.E Go.Proofs.Ytpbhepdgamoiaaa.Pe Go.Proofs.Ytpbhepdgamoiaaa.Pf Go.Proofs.Ytpbhepdgamoiaaa.Qr Go.Proofs.Ytpbhepdgamoiaaa.Qn Go.Proofs.Ytpbhepdgamoiaaa.Qw Go.Proofs.Ytpbhepdgamoiaaa.Fr Go.Proofs.Ytpbhepdgamoiaaa.Cl Go.Proofs.Ytpbhepdgamoiaaa.Nm
set_option linter.unusedVariables false
set_option linter.unusedSimpArgs false
end Go.Proofs.Ytpbhepdgamoiaaa.So
namespace Go.Proofs.Ytpbhepdgamoiaaa.Sw
open Go.RowKit Go Go.Proofs.Ytpbhepdgamoiaaa.Rf Go.Proofs.Ytpbhepdgamoiaaa.Er Go.Proofs.Ytpbhepdgamoiaaa.Ek Go.Proofs.Ytpbhepdgamoiaaa.Et Go.Proofs.Ytpbhepdgamoiaaa.E Go.Proofs.Ytpbhepdgamoiaaa.Pe Go.Proofs.Ytpbhepdgamoiaaa.Pf Go.Proofs.Ytpbhepdgamoiaaa.Nm
set_option linter.unusedVariables false
set_option linter.unusedSimpArgs false
theorem tm_err (q : Rat) : (tmV q).2 = 0 ∨ (tmV q).2 = 2 := by
 unfold tmV
 split
 ·exact .inl rfl
 ·exact .inr rfl
theorem sh_err (ts : Int) (x : Ed) (p : Rat) : (shV ts x p).2.2 = 0 ∨ (shV ts x p).2.2 = 2 := by
 unfold shV
 split
 ·exact .inl rfl
 ·exact tm_err _
theorem med_err (ms ts : Int) (q : Rat) : ∀ (l : List Ed) (b : Int), (medL ms ts q b l).2.2 = 0 ∨ (medL ms ts q b l).2.2 = 2
 | [], b => .inl rfl
 | x :: t, b => by
  rw [med_cons]
  split
  ·exact med_err ms ts q t _
  ·split
   ·exact sh_err ts x _
   ·exact med_err ms ts q t _
theorem medV_ok {l : List Ed} {ms ts n d : Int} (h : chk l ms ts = 0) (hv : Ea.valid n d = true) : medV l ms ts n d = medL ms ts (qq n d) 0 l := by
 unfold medV
 rw [if_pos h, if_pos hv]
theorem shows_eq {l l' : List Ed} {ms ts ms' ts' n d n' d' : Int} (h : medV l ms ts n d = medV l' ms' ts' n' d') (he : (medV l ms ts n d).2.2 = 0 ∨ (medV l ms ts n d).2.2 = 2) : dioramalaw10_shows.f l ms ts n d l' ms' ts' n' d' = some true := by
 unfold dioramalaw10_shows.f edit_Media.f
 simp only [Option.bind_some]
 rw [← h]
 rcases he with he | he
 ·rw [he, if_neg (by decide), if_neg (by decide), if_pos rfl, if_pos rfl, if_pos (by simp)]
  simp
 ·rw [he, if_pos rfl]
theorem shows_f {l l' : List Ed} {ms ts ms' ts' n d n' d' : Int} (h : chk l ms ts = 0) (h' : chk l' ms' ts' = 0) (hv : Ea.valid n d = true) (hv' : Ea.valid n' d' = true) (he : medL ms ts (qq n d) 0 l = medL ms' ts' (qq n' d') 0 l') : dioramalaw10_shows.f l ms ts n d l' ms' ts' n' d' = some true := by
 refine shows_eq ?_ ?_
 ·rw [medV_ok h hv, medV_ok h' hv', he]
 ·rw [medV_ok h hv]
  exact med_err _ _ _ _ _
theorem rvalid_f (n d : Int) : dioramaref02_Valid.f n d = some (Ea.valid n d) := by
 unfold dioramaref02_Valid.f Ea.valid
 by_cases h1 : d ≥ 1
 ·rw [if_pos h1, decide_eq_true (show 1 ≤ d from h1)]
  by_cases h2 : d ≤ 1152921504606846976
  ·rw [if_pos h2, decide_eq_true h2]
   by_cases h3 : n ≥ -1152921504606846976
   ·rw [if_pos h3, decide_eq_true (show -1152921504606846976 ≤ n from h3)]
    rfl
   ·rw [if_neg h3, decide_eq_false (show ¬ -1152921504606846976 ≤ n from h3)]
    rfl
  ·rw [if_neg h2, decide_eq_false h2]
   rfl
 ·rw [if_neg h1, decide_eq_false (show ¬ 1 ≤ d from h1)]
  rfl
end Go.Proofs.Ytpbhepdgamoiaaa.Sw
namespace Go.Proofs.Ytpbhepdgamoiaaa.Sm
open Go.RowKit Go Go.Proofs.YtpbhepdgamoiaaaW.PrintWords Go.Proofs.YtpbhepdgamoiaaaW.PrintLast Go.Proofs.YtpbhepdgamoiaaaW.PrintMore Go.Proofs.Ytpbhepdgamoiaaa.Rf Go.Proofs.Ytpbhepdgamoiaaa.Er Go.Proofs.Ytpbhepdgamoiaaa.Ek Go.Proofs.Ytpbhepdgamoiaaa.Et Go.Proofs.Ytpbhepdgamoiaaa.E Go.Proofs.Ytpbhepdgamoiaaa.Pe Go.Proofs.Ytpbhepdgamoiaaa.Pf Go.Proofs.Ytpbhepdgamoiaaa.Pg Go.Proofs.Ytpbhepdgamoiaaa.Ph Go.Proofs.Ytpbhepdgamoiaaa.Qe Go.Proofs.Ytpbhepdgamoiaaa.Nm Go.Proofs.Ytpbhepdgamoiaaa.Sw Go.Proofs.Ytpbhepdgamoiaaa.Oe
set_option linter.unusedVariables false
set_option linter.unusedSimpArgs false
theorem len_ok {l : List Ed} {ms ts : Int} (h : chk l ms ts = 0) : edit_Length.f l = some (lenB (sumD l)) := by
 obtain ⟨hc, hl, hV, hs⟩ := chk_ok.1 h
 refine Length_f l (by omega) (fun x hx => ?_)
 have h0 := (hV x hx).d0
 have h1 := (hV x hx).d1
 exact in64_iff.2 ⟨by omega, by omega⟩
theorem pure_Sm (l : List Ed) (ms ts n d : Int) : Ev (fun k => dioramalaw10_EditSame.f k l ms ts n d) true := by
 have off : ∀ l', Ev (fun k => dioramalaw10_EditSame.j0 k l' true l ms ts n d) true := by
  intro l'
  refine Ev.step (fun k => by rw [dioramalaw10_EditSame.j0]) ?_
  exact Ev.congr (fun k => if_pos rfl) (Ev.bind awake_f (Ev.now _))
 refine Ev.congr (f := fun k => if 60 < l.length then ((dioramalaw10_awake.f k).bind fun t903 => (some t903)) else ((edit_Normal.f k l ms ts).bind fun bt904 => (if bt904.2 = 0 then (dioramalaw10_EditSame.j0 k bt904.1 (!Ea.valid n d) l ms ts n d) else (dioramalaw10_EditSame.j0 k bt904.1 true l ms ts n d)))) (fun k => ?_) ?_
 ·unfold dioramalaw10_EditSame.f
  rw [many_f, rvalid_f]
  simp only [Option.bind_some, decide_eq_true_eq]
 by_cases h1 : 60 < l.length
 ·exact Ev.congr (fun k => if_pos h1) (Ev.bind awake_f (Ev.now _))
 refine Ev.congr (fun k => if_neg h1) (Ev.bind (Normal_f l ms ts) ?_)
 unfold norV
 by_cases h2 : chk l ms ts = 0
 ·rw [if_pos h2]
  refine Ev.congr (fun k => if_pos rfl) ?_
  by_cases hv : Ea.valid n d = true
  ·rw [hv]
   obtain ⟨hc, hl, hV, hs⟩ := chk_ok.1 h2
   have h3 := nrm_ok h2
   have hN := Normal_f (nrm ms ts l) ms ts
   unfold norV at hN
   rw [if_pos h3, nrm_nrm] at hN
   have hA := Alike_f l (nrm ms ts l) ms ts
   unfold aliV at hA
   rw [if_pos h2, if_pos h3, nrm_nrm, decide_eq_true rfl] at hA
   have hE := eqEdits_f (nrm ms ts l) (nrm ms ts l) (by have := nrm_len ms ts l; omega)
   rw [decide_eq_true rfl] at hE
   refine Ev.step (fun k => by rw [dioramalaw10_EditSame.j0]) ?_
   refine Ev.congr (fun k => if_neg (by decide)) (Ev.bind hN (Ev.bind hA ?_))
   refine Ev.congr (fun k => if_pos rfl) (Ev.bind hE ?_)
   refine Ev.congr (fun k => if_pos rfl) (Ev.congr (fun k => if_pos rfl) (Ev.congr (fun k => if_pos rfl) ?_))
   rw [len_ok h3, len_ok h2, nrm_sum]
   simp only [Option.bind_some]
   refine Ev.congr (fun k => if_pos trivial) ?_
   rw [shows_f h2 h3 hv hv (by rw [nrm_med hc hV])]
   simp only [Option.bind_some]
   exact Ev.congr (fun k => if_pos trivial) (Ev.bind awake_f (Ev.now _))
  ·rw [show Ea.valid n d = false by simpa using hv]
   exact off _
 ·rw [if_neg h2]
  exact Ev.congr (fun k => if_neg h2) (off _)
theorem walk_Sm (a : Option Addr) (len c : Nat) (l : List Ed) (ms ts n d : Int) (w : World) (h : Eds w a len c l) (_ : (Lit.int .i64 ms).wf = true) (_ : (Lit.int .i64 ts).wf = true) (_ : (Lit.int .i64 n).wf = true) (_ : (Lit.int .i64 d).wf = true) :
  Calls Try.prog 11 #[.agg #[.slice a len c, .int .i64 ms, .int .i64 ts], .agg #[.int .i64 n, .int .i64 d]] w (fun e w' => e = .returned (.bool true) ∧ Below w.heap.size w w') := by
 obtain ⟨k, hk⟩ := (pure_Sm l ms ts n d).rounds
 rw [← h.n]
 exact dioramalaw10_EditSame.calls k a c l ms ts n d true w h.c h.h hk
end Go.Proofs.Ytpbhepdgamoiaaa.Sm

/-
  Whether two lists show the same. What a normal list shows, and how long it is. Two lists of edits with their errors, compared. EditFaster: a list that is so many times as fast is as the reference says. EditClocks: a list by other clocks is as the reference says. What a list by other clocks and a faster list show. Two lists that show the same are seen to. The reference's sums of times, and times of ticks. When a list shows a media time, and what it shows then. EditFound: the media time that is shown at any time is told to be shown then.
-/
import Derived.Test.YtpbhepdgamoiaaaQREditFounda
import Derived.Test.YtpbhepdgamoiaaaQREditFoundd
import Derived.Test.YtpbhepdgamoiaaaQREditFoundc
import Derived.Test.YtpbhepdgamoiaaaQREditFoundf
namespace Go.Proofs.Ytpbhepdgamoiaaa.E
open Go.Proofs.Ytpbhepdgamoiaaa.Z Go.RowKit Go.Proofs.YtpbhepdgamoiaaaW.PrintWords Go.Proofs.YtpbhepdgamoiaaaW.PrintLast Go.Proofs.YtpbhepdgamoiaaaW.PrintMore
attribute [local go_sem] max2_int min2_int max_two min_two max_three min_three max_four min_four
set_option linter.unusedVariables false
set_option linter.unusedSimpArgs false
mutual
def dioramalaw10_EditFound.j0 : Nat → Bool → List (S77) → Int → Int → Int → Int → Int → Int → Option (Bool)
  | 0, _, _, _, _, _, _, _, _ => none
  | k + 1, x36, x1245000, x1245001, x1245002, x1246000, x1246001, x1253000, x1253001 => if x36 = true then ((dioramalaw10_awake.f k).bind fun t1253 => (some t1253)) else ((edit_Back.f x1245000 x1245001 x1245002 x1253000 x1253001).bind fun bt1254 => (if bt1254.2 = 2 then ((dioramalaw10_awake.f k).bind fun t1258 => (some t1258)) else (dioramalaw10_EditFound.l0 k bt1254.1 bt1254.2 0 x1246000 x1246001)))
def dioramalaw10_EditFound.l0 : Nat → List (S63) → Int → Int → Int → Int → Option (Bool)
  | 0, _, _, _, _, _ => none
  | k + 1, x8, x9, x10, x1246000, x1246001 => if x10 < (x8.length : Int) then (dioramalaw10_EditFound.j2 k x8 x9 x10 (x9 == 0) x1246000 x1246001) else (dioramalaw10_EditFound.j2 k x8 x9 x10 false x1246000 x1246001)
def dioramalaw10_EditFound.j2 : Nat → List (S63) → Int → Int → Bool → Int → Int → Option (Bool)
  | 0, _, _, _, _, _, _ => none
  | k + 1, x8, x9, x10, x59, x1246000, x1246001 => if x59 = true then (if 0 ≤ x10 then (if x10 < (x8.length : Int) then ((dioramaref02_Cmp.f ((rd_T63 x8 x10).f0.f0) ((rd_T63 x8 x10).f0.f1) x1246000 x1246001).bind fun bt1260 => ((dioramaref02_Cmp.f x1246000 x1246001 ((rd_T63 x8 x10).f1.f0) ((rd_T63 x8 x10).f1.f1)).bind fun bt1263 => (if bt1260.1 ≤ 0 then (if bt1263.1 < 0 then ((dioramalaw10_awake.f k).bind fun t1265 => (some t1265)) else (if bt1260.1 = 0 then ((dioramalaw10_awake.f k).bind fun t1266 => (some t1266)) else (dioramalaw10_EditFound.l0 k x8 x9 (wrap64 (x10 + 1)) x1246000 x1246001))) else (if bt1260.1 = 0 then ((dioramalaw10_awake.f k).bind fun t1267 => (some t1267)) else (dioramalaw10_EditFound.l0 k x8 x9 (wrap64 (x10 + 1)) x1246000 x1246001))))) else (none)) else (none)) else (some false)
end
def dioramalaw10_EditFound.f (k : Nat) (l0_0 : List (S77)) (a0_1 : Int) (a0_2 : Int) (a1_0 : Int) (a1_1 : Int) : Option (Bool) := (dioramalaw10_many.f l0_0).bind fun t1246 => (if t1246 = true then ((dioramalaw10_awake.f k).bind fun t1247 => (some t1247)) else ((edit_Media.f l0_0 a0_1 a0_2 a1_0 a1_1).bind fun bt1248 => (if bt1248.2.2.1 = true then (dioramalaw10_EditFound.j0 k (bt1248.2.2.2 != 0) l0_0 a0_1 a0_2 a1_0 a1_1 bt1248.1 bt1248.2.1) else (dioramalaw10_EditFound.j0 k true l0_0 a0_1 a0_2 a1_0 a1_1 bt1248.1 bt1248.2.1))))
set_option maxHeartbeats 8000000 in
set_option maxRecDepth 100000 in
theorem dioramalaw10_EditFound.calls (k : Nat) (A0_0 : Option Addr) (c0_0 : Nat) (l0_0 : List (S77)) (a0_1 : Int) (a0_2 : Int) (a1_0 : Int) (a1_1 : Int) (r : Bool) (w : World) (hr0_0 : Kd.C k77 w A0_0 l0_0.length l0_0) (hc0_0 : l0_0.length ≤ c0_0) (h : dioramalaw10_EditFound.f k l0_0 a0_1 a0_2 a1_0 a1_1 = some r) :
  Calls Try.prog 14 #[.agg #[.slice A0_0 l0_0.length c0_0, .int .i64 a0_1, .int .i64 a0_2], .agg #[.int .i64 a1_0, .int .i64 a1_1]] w fun e w' => e = .returned (.bool r) ∧ Below w.heap.size w w' := by
 have hu24 := Try.underlying24; have hu37 := Try.underlying37; have HR0_0 := Aside0.mk hr0_0; have HC0_0 := Aside0.mk hc0_0; clear hr0_0 hc0_0; have HB := Aside0.mk (Below.refl w.heap.size w); have H : ((dioramalaw10_many.f l0_0).bind fun t1246 => (if t1246 = true then ((dioramalaw10_awake.f k).bind fun t1247 => (some t1247)) else ((edit_Media.f l0_0 a0_1 a0_2 a1_0 a1_1).bind fun bt1248 => (if bt1248.2.2.1 = true then (dioramalaw10_EditFound.j0 k (bt1248.2.2.2 != 0) l0_0 a0_1 a0_2 a1_0 a1_1 bt1248.1 bt1248.2.1) else (dioramalaw10_EditFound.j0 k true l0_0 a0_1 a0_2 a1_0 a1_1 bt1248.1 bt1248.2.1))))) = some r := h
 clear h; obtain ⟨t1246, A3, H⟩ := ob H
 by_cases c4 : t1246 = true
 ·subst c4; rw [if_pos rfl] at H; obtain ⟨t1247, A5, H⟩ := ob H; obtain rfl := Option.some.inj H
  go_enter Try.func14, Try.ntmps14
  go_wp2_with (first | ((with_reducible refine gate_dst (N := 2) rfl ?_); refine zB 2 24 #[.slice A0_0 l0_0.length c0_0, .int .i64 a0_1, .int .i64 a0_2] ?_; intro gb1244 hg w6 hbox hb; have BK1244 := Aside0.mk hbox; have GW1244 := gz hg; have GE1244 := gz hg; replace HB := bp hb; clear hb hbox hg) | ((with_reducible refine gate_dst (N := 3) rfl ?_); refine zB 3 37 #[.int .i64 a1_0, .int .i64 a1_1] ?_; intro gb1245 hg w7 hbox hb; have BK1245 := Aside0.mk hbox; have GW1245 := gz hg; have GE1245 := gz hg; replace HB := bp hb; have NB1244_1245 := Aside0.mk ((by rw [hg]; exact Nat.ne_of_lt (bl BK1244) : gb1244 ≠ gb1245)); have NB1245_1244 := Aside0.mk ((by rw [hg]; exact Nat.ne_of_gt (bl BK1244) : gb1245 ≠ gb1244)); replace BK1244 := kb BK1244 hb; clear hb hbox hg; have hnb8 := NB1244_1245.out; have hnc8 := NB1245_1244.out; obtain ⟨hcz9_0, hcz9_1, hcz9_2, hfz9_0, hfz9_1, hfz9_2⟩ := xc3 BK1244) | ((with_reducible refine gate_callee (f := 19) rfl ?_); refine zC 17 Try.func19 #[.slice A0_0 l0_0.length c0_0] ?_; (with_reducible refine (dioramalaw10_many.calls _ _ l0_0 true _ ?side1 ?side2 A3.out).mono ?_); (case side1 => exact cz HR0_0); (case side2 => exact HC0_0.out); rintro e w' ⟨rfl, ⟨nd, rfl⟩⟩; refine ⟨_, rfl, ?_⟩) | ((with_reducible refine gate_callee (f := 20) rfl ?_); refine zC 18 Try.func20 #[] ?_; (with_reducible refine (dioramalaw10_awake.calls k  t1247 _ A5.out).mono ?_); rintro e w10 ⟨rfl, hb⟩; refine ⟨_, rfl, ?_⟩; replace BK1244 := kb BK1244 hb; replace BK1245 := kb BK1245 hb; replace HB := bp hb; clear hb))
  go_ret
  exact ⟨ez, bz⟩
 ·obtain rfl := bf c4; rw [if_neg (show ¬ (false = true) by decide)] at H; obtain ⟨⟨t1248, t1249, t1250, t1251⟩, A11, H⟩ := ob H
  (try dsimp only at H)
  have HC12 := Aside0.mk H; clear H
  go_enter Try.func14, Try.ntmps14
  go_upto_region 4 with (first | ((with_reducible refine gate_dst (N := 2) rfl ?_); refine zB 2 24 #[.slice A0_0 l0_0.length c0_0, .int .i64 a0_1, .int .i64 a0_2] ?_; intro gb1244 hg w13 hbox hb; have BK1244 := Aside0.mk hbox; have GW1244 := gz hg; have GE1244 := gz hg; replace HB := bp hb; clear hb hbox hg) | ((with_reducible refine gate_dst (N := 3) rfl ?_); refine zB 3 37 #[.int .i64 a1_0, .int .i64 a1_1] ?_; intro gb1245 hg w14 hbox hb; have BK1245 := Aside0.mk hbox; have GW1245 := gz hg; have GE1245 := gz hg; replace HB := bp hb; have NB1244_1245 := Aside0.mk ((by rw [hg]; exact Nat.ne_of_lt (bl BK1244) : gb1244 ≠ gb1245)); have NB1245_1244 := Aside0.mk ((by rw [hg]; exact Nat.ne_of_gt (bl BK1244) : gb1245 ≠ gb1244)); replace BK1244 := kb BK1244 hb; clear hb hbox hg; have hnb15 := NB1244_1245.out; have hnc15 := NB1245_1244.out; obtain ⟨hcz16_0, hcz16_1, hcz16_2, hfz16_0, hfz16_1, hfz16_2⟩ := xc3 BK1244) | ((with_reducible refine gate_callee (f := 19) rfl ?_); refine zC 17 Try.func19 #[.slice A0_0 l0_0.length c0_0] ?_; (with_reducible refine (dioramalaw10_many.calls _ _ l0_0 false _ ?side1 ?side2 A3.out).mono ?_); (case side1 => exact cz HR0_0); (case side2 => exact HC0_0.out); rintro e w' ⟨rfl, ⟨nd, rfl⟩⟩; refine ⟨_, rfl, ?_⟩; (try (rw [drewN_self w14]; generalize hq_ : World.drewN w14 _ = w14; have n0_ : Aside0 (w14.heap[gb1244]? = some (.cells #[.slice A0_0 l0_0.length c0_0, .int .i64 a0_1, .int .i64 a0_2] 24 (0, 0))) := ⟨by rw [← hq_]; exact kz⟩; have n1_ : Aside0 (w14.heap[gb1245]? = some (.cells #[.int .i64 a1_0, .int .i64 a1_1] 37 (0, 0))) := ⟨by rw [← hq_]; exact kz⟩; have n2_ : Aside0 (Below w.heap.size w w14) := ⟨by rw [← hq_]; exact bz⟩; clear BK1244 BK1245 HB hq_; have BK1244 := n0_; have BK1245 := n1_; have HB := n2_; clear n0_ n1_ n2_)); obtain ⟨hcz17_0, hcz17_1, hfz17_0, hfz17_1⟩ := xc2 BK1245; obtain ⟨hcy0, hcy1, hcy2, hfy0, hfy1, hfy2⟩ := xc3 BK1244) | ((with_reducible refine gate_callee (f := 32) rfl ?_); refine zC 27 Try.func32 #[.slice A0_0 l0_0.length c0_0, .int .i64 a0_1, .int .i64 a0_2, .agg #[.int .i64 a1_0, .int .i64 a1_1]] ?_; (with_reducible refine (edit_Media.calls _ _ l0_0 a0_1 a0_2 a1_0 a1_1 t1248 t1249 t1250 t1251 _ ?side1 ?side2 A11.out).mono ?_); (case side1 => exact cz HR0_0); (case side2 => exact HC0_0.out); rintro e w18 ⟨rfl, hb⟩; refine ⟨_, rfl, ?_⟩; replace BK1244 := kb BK1244 hb; replace BK1245 := kb BK1245 hb; replace HB := bp hb; clear hb) | ((with_reducible refine gate_dst (N := 5) rfl ?_); refine zB 5 37 #[.int .i64 0, .int .i64 0] ?_; intro gb1252 hg w19 hbox hb; have BK1252 := Aside0.mk hbox; have GW1252 := gz hg; have GE1252 := gz hg; replace HB := bp hb; have NB1244_1252 := Aside0.mk ((by rw [hg]; exact Nat.ne_of_lt (bl BK1244) : gb1244 ≠ gb1252)); have NB1252_1244 := Aside0.mk ((by rw [hg]; exact Nat.ne_of_gt (bl BK1244) : gb1252 ≠ gb1244)); replace BK1244 := kb BK1244 hb; have NB1245_1252 := Aside0.mk ((by rw [hg]; exact Nat.ne_of_lt (bl BK1245) : gb1245 ≠ gb1252)); have NB1252_1245 := Aside0.mk ((by rw [hg]; exact Nat.ne_of_gt (bl BK1245) : gb1252 ≠ gb1245)); replace BK1245 := kb BK1245 hb; clear hb hbox hg; have hnb20 := NB1252_1244.out; have hnc20 := NB1244_1252.out; have hnb21 := NB1252_1245.out; have hnc21 := NB1245_1252.out; obtain ⟨hcz22_0, hcz22_1, hfz22_0, hfz22_1⟩ := xc2 BK1252))
  (try simp only [Act.put, List.setIfInBounds_toArray, List.set_cons_zero, List.set_cons_succ])
  go_cut [36] (fun v36 wc => ∃ (kq : Nat) (x36_11 : Bool), v36 = .bool x36_11 ∧ Aside0 (dioramalaw10_EditFound.j0 kq x36_11 l0_0 a0_1 a0_2 a1_0 a1_1 t1248 t1249 = some r) ∧ Aside0 (kq ≤ k) ∧ Aside0 (wc.heap[gb1244]? = some (.cells #[(.slice A0_0 l0_0.length c0_0), .int .i64 a0_1, .int .i64 a0_2] 24 (0, 0))) ∧ Aside0 (wc.heap[gb1245]? = some (.cells #[.int .i64 a1_0, .int .i64 a1_1] 37 (0, 0))) ∧ Aside0 (wc.heap[gb1252]? = some (.cells #[.int .i64 t1248, .int .i64 t1249] 37 (0, 0))) ∧ Aside0 (Below w.heap.size w wc))
  case first =>
   have H := HC12.out; clear HC12
   by_cases c23 : t1250 = true
   ·subst c23; rw [if_pos rfl] at H; have H' := Aside0.mk H; clear H
    go_wp2
    go_meet
    case rel => exact ⟨_, ((t1251 != 0)), jz, H', ⟨by first | omega | exact Nat.le_refl _⟩, ⟨by (with_reducible repeat (first | refine blk_drewN ?_ _ | refine blk_drew ?_ | refine blk_alloc ?_ _)); refine blk_far ?_ NB1244_1252.out _; (with_reducible repeat (first | refine blk_drewN ?_ _ | refine blk_drew ?_ | refine blk_alloc ?_ _)); refine blk_far ?_ NB1244_1252.out _; (with_reducible repeat (first | refine blk_drewN ?_ _ | refine blk_drew ?_ | refine blk_alloc ?_ _)); exact BK1244.out⟩, ⟨by (with_reducible repeat (first | refine blk_drewN ?_ _ | refine blk_drew ?_ | refine blk_alloc ?_ _)); refine blk_far ?_ NB1245_1252.out _; (with_reducible repeat (first | refine blk_drewN ?_ _ | refine blk_drew ?_ | refine blk_alloc ?_ _)); refine blk_far ?_ NB1245_1252.out _; (with_reducible repeat (first | refine blk_drewN ?_ _ | refine blk_drew ?_ | refine blk_alloc ?_ _)); exact BK1245.out⟩, ⟨by (with_reducible repeat (first | refine blk_drewN ?_ _ | refine blk_drew ?_ | refine blk_alloc ?_ _)); refine blk_put (cs := #[.int .i64 t1248, .int .i64 0]) ?_ 1 _ rfl; (with_reducible repeat (first | refine blk_drewN ?_ _ | refine blk_drew ?_ | refine blk_alloc ?_ _)); refine blk_put (cs := #[.int .i64 0, .int .i64 0]) ?_ 0 _ rfl; (with_reducible repeat (first | refine blk_drewN ?_ _ | refine blk_drew ?_ | refine blk_alloc ?_ _)); exact BK1252.out⟩, ⟨bz⟩⟩
   ·obtain rfl := bf c23; rw [if_neg (show ¬ (false = true) by decide)] at H; have H' := Aside0.mk H; clear H
    go_wp2
    go_meet
    case rel => exact ⟨_, (true), jz, H', ⟨by first | omega | exact Nat.le_refl _⟩, ⟨by (with_reducible repeat (first | refine blk_drewN ?_ _ | refine blk_drew ?_ | refine blk_alloc ?_ _)); refine blk_far ?_ NB1244_1252.out _; (with_reducible repeat (first | refine blk_drewN ?_ _ | refine blk_drew ?_ | refine blk_alloc ?_ _)); refine blk_far ?_ NB1244_1252.out _; (with_reducible repeat (first | refine blk_drewN ?_ _ | refine blk_drew ?_ | refine blk_alloc ?_ _)); exact BK1244.out⟩, ⟨by (with_reducible repeat (first | refine blk_drewN ?_ _ | refine blk_drew ?_ | refine blk_alloc ?_ _)); refine blk_far ?_ NB1245_1252.out _; (with_reducible repeat (first | refine blk_drewN ?_ _ | refine blk_drew ?_ | refine blk_alloc ?_ _)); refine blk_far ?_ NB1245_1252.out _; (with_reducible repeat (first | refine blk_drewN ?_ _ | refine blk_drew ?_ | refine blk_alloc ?_ _)); exact BK1245.out⟩, ⟨by (with_reducible repeat (first | refine blk_drewN ?_ _ | refine blk_drew ?_ | refine blk_alloc ?_ _)); refine blk_put (cs := #[.int .i64 t1248, .int .i64 0]) ?_ 1 _ rfl; (with_reducible repeat (first | refine blk_drewN ?_ _ | refine blk_drew ?_ | refine blk_alloc ?_ _)); refine blk_put (cs := #[.int .i64 0, .int .i64 0]) ?_ 0 _ rfl; (with_reducible repeat (first | refine blk_drewN ?_ _ | refine blk_drew ?_ | refine blk_alloc ?_ _)); exact BK1252.out⟩, ⟨bz⟩⟩
  case rest =>
   clear HC12
   try clear c1
   try clear c2
   try clear p2
   try clear c3
   try clear c4
   try clear c8
   try clear c14
   try clear c15
   try clear c19
   try clear c20
   try clear c21
   try clear c23
   try clear hcz16_0
   try clear hcz16_1
   try clear hcz16_2
   try clear hcz17_0
   try clear hcz17_1
   try clear hcz22_0
   try clear hcz22_1
   try clear hcz9_0
   try clear hcz9_1
   try clear hcz9_2
   try clear hfz16_0
   try clear hfz16_1
   try clear hfz16_2
   try clear hfz17_0
   try clear hfz17_1
   try clear hfz22_0
   try clear hfz22_1
   try clear hfz9_0
   try clear hfz9_1
   try clear hfz9_2
   obtain ⟨kq, x36_11, rfl, HA, HJ11, BK1244, BK1245, BK1252, HB⟩ := hcut
   cases kq with
   | zero => exact absurd HA.out (by simp [dioramalaw10_EditFound.j0])
   | succ kj11 =>
    have H := HA.out; clear HA; simp only [dioramalaw10_EditFound.j0] at H
    by_cases c24 : x36_11 = true
    ·subst c24; rw [if_pos rfl] at H; obtain ⟨t1253, A25, H⟩ := ob H; obtain rfl := Option.some.inj H
     go_wp2_with (first | ((with_reducible refine gate_callee (f := 20) rfl ?_); refine zC 37 Try.func20 #[] ?_; (with_reducible refine (dioramalaw10_awake.calls kj11  t1253 _ A25.out).mono ?_); rintro e w26 ⟨rfl, hb⟩; refine ⟨_, rfl, ?_⟩; replace BK1244 := kb BK1244 hb; replace BK1245 := kb BK1245 hb; replace BK1252 := kb BK1252 hb; replace HB := bp hb; clear hb))
     go_ret
     exact ⟨ez, bz⟩
    ·obtain rfl := bf c24; rw [if_neg (show ¬ (false = true) by decide)] at H; obtain ⟨⟨t1254, t1257⟩, A27, H⟩ := ob H
     (try dsimp only at H)
     by_cases c28 : t1257 = 2
     ·rw [if_pos c28] at H; have c28b0 : (t1257 == 2) = true := beq_iff_eq.mpr c28; have c28b1 : (t1257 != 2) = false := bne_eq_false_iff_eq.mpr c28; clear c28; obtain ⟨t1258, A29, H⟩ := ob H; obtain rfl := Option.some.inj H; have hnb30 := NB1244_1245.out; have hnc30 := NB1245_1244.out; have hnb31 := NB1244_1252.out; have hnc31 := NB1252_1244.out; obtain ⟨hcz32_0, hcz32_1, hcz32_2, hfz32_0, hfz32_1, hfz32_2⟩ := xc3 BK1244; have hnb33 := NB1252_1245.out; have hnc33 := NB1245_1252.out; obtain ⟨hcz34_0, hcz34_1, hfz34_0, hfz34_1⟩ := xc2 BK1252
      go_wp2_with (first | ((with_reducible refine gate_callee (f := 46) rfl ?_); refine zC 46 Try.func46 #[.slice A0_0 l0_0.length c0_0, .int .i64 a0_1, .int .i64 a0_2, .agg #[.int .i64 t1248, .int .i64 t1249]] ?_; (with_reducible refine (edit_Back.calls _ _ l0_0 a0_1 a0_2 t1248 t1249 t1254 t1257 _ ?side1 ?side2 A27.out).mono ?_); (case side1 => exact cz HR0_0); (case side2 => exact HC0_0.out); rintro e w35 ⟨v1255, rfl, ho0, hb⟩; refine ⟨_, rfl, ?_⟩; have HO1256 := Aside0.mk (Kd.R_lower ho0 sz); replace BK1244 := kb BK1244 hb; replace BK1245 := kb BK1245 hb; replace BK1252 := kb BK1252 hb; replace HB := bp hb; clear hb ho0) | ((with_reducible refine gate_callee (f := 20) rfl ?_); refine zC 51 Try.func20 #[] ?_; (with_reducible refine (dioramalaw10_awake.calls kj11  t1258 _ A29.out).mono ?_); rintro e w36 ⟨rfl, hb⟩; refine ⟨_, rfl, ?_⟩; replace HO1256 := Aside0.mk (Kd.R_below (rz HO1256) hb); replace BK1244 := kb BK1244 hb; replace BK1245 := kb BK1245 hb; replace BK1252 := kb BK1252 hb; replace HB := bp hb; clear hb))
      go_ret
      exact ⟨ez, bz⟩
     ·rw [if_neg c28] at H; have c28b0 : (t1257 == 2) = false := beq_eq_false_iff_ne.mpr c28; have c28b1 : (t1257 != 2) = true := bne_iff_ne.mpr c28; have H' := Aside0.mk H; clear H; have hnb37 := NB1244_1245.out; have hnc37 := NB1245_1244.out; have hnb38 := NB1244_1252.out; have hnc38 := NB1252_1244.out; obtain ⟨hcz39_0, hcz39_1, hcz39_2, hfz39_0, hfz39_1, hfz39_2⟩ := xc3 BK1244; have hnb40 := NB1252_1245.out; have hnc40 := NB1245_1252.out; obtain ⟨hcz41_0, hcz41_1, hfz41_0, hfz41_1⟩ := xc2 BK1252
      go_wp2_with (first | ((with_reducible refine gate_callee (f := 46) rfl ?_); refine zC 46 Try.func46 #[.slice A0_0 l0_0.length c0_0, .int .i64 a0_1, .int .i64 a0_2, .agg #[.int .i64 t1248, .int .i64 t1249]] ?_; (with_reducible refine (edit_Back.calls _ _ l0_0 a0_1 a0_2 t1248 t1249 t1254 t1257 _ ?side1 ?side2 A27.out).mono ?_); (case side1 => exact cz HR0_0); (case side2 => exact HC0_0.out); rintro e w42 ⟨v1255, rfl, ho0, hb⟩; refine ⟨_, rfl, ?_⟩; have HO1256 := Aside0.mk (Kd.R_lower ho0 sz); replace BK1244 := kb BK1244 hb; replace BK1245 := kb BK1245 hb; replace BK1252 := kb BK1252 hb; replace HB := bp hb; clear hb ho0))
      go_loopg [10] kj11 (fun kq v10 w' => ∃ (x10_2 : Int), v10 = .int .i64 x10_2 ∧ Aside0 (dioramalaw10_EditFound.l0 kq t1254 t1257 x10_2 a1_0 a1_1 = some r) ∧ Aside0 (kq ≤ kj11) ∧ Aside0 (Kd.R k63 63 w' w.heap.size (fun _ => True) v1255 t1254) ∧ Aside0 (w'.heap[gb1244]? = some (.cells #[(.slice A0_0 l0_0.length c0_0), .int .i64 a0_1, .int .i64 a0_2] 24 (0, 0))) ∧ Aside0 (w'.heap[gb1245]? = some (.cells #[.int .i64 a1_0, .int .i64 a1_1] 37 (0, 0))) ∧ Aside0 (w'.heap[gb1252]? = some (.cells #[.int .i64 t1248, .int .i64 t1249] 37 (0, 0))) ∧ Aside0 (Below w.heap.size w w'))
      case atStart => exact ⟨(0), jz, H', ⟨Nat.le_refl _⟩, ⟨rz HO1256⟩, ⟨kz⟩, ⟨kz⟩, ⟨kz⟩, ⟨bz⟩⟩
      case round =>
       clear H'
       try clear c1
       try clear c2
       try clear p2
       try clear c3
       try clear c4
       try clear c8
       try clear c14
       try clear c15
       try clear c19
       try clear c20
       try clear c21
       try clear c23
       try clear c24
       try clear c28
       try clear c28b0
       try clear c28b1
       try clear c30
       try clear c31
       try clear c32
       try clear c33
       try clear c37
       try clear c38
       try clear c40
       try clear hcz16_0
       try clear hcz16_1
       try clear hcz16_2
       try clear hcz17_0
       try clear hcz17_1
       try clear hcz22_0
       try clear hcz22_1
       try clear hcz32_0
       try clear hcz32_1
       try clear hcz32_2
       try clear hcz34_0
       try clear hcz34_1
       try clear hcz39_0
       try clear hcz39_1
       try clear hcz39_2
       try clear hcz41_0
       try clear hcz41_1
       try clear hcz9_0
       try clear hcz9_1
       try clear hcz9_2
       try clear hfz16_0
       try clear hfz16_1
       try clear hfz16_2
       try clear hfz17_0
       try clear hfz17_1
       try clear hfz22_0
       try clear hfz22_1
       try clear hfz32_0
       try clear hfz32_1
       try clear hfz32_2
       try clear hfz34_0
       try clear hfz34_1
       try clear hfz39_0
       try clear hfz39_1
       try clear hfz39_2
       try clear hfz41_0
       try clear hfz41_1
       try clear hfz9_0
       try clear hfz9_1
       try clear hfz9_2
       try clear p2
       obtain ⟨x10_2, rfl, HA, HK2, HO_8, BK1244, BK1245, BK1252, HB⟩ := hrel
       cases gk with
       | zero => exact absurd HA.out (by simp [dioramalaw10_EditFound.l0])
       | succ k2 =>
        have H := HA.out; clear HA; simp only [dioramalaw10_EditFound.l0] at H; have HC43 := Aside0.mk H; clear H
        go_upto_region 10 with (fail)
        go_cut [59] (fun v59 wc => ∃ (kq : Nat) (x59_42 : Bool), v59 = .bool x59_42 ∧ Aside0 (dioramalaw10_EditFound.j2 kq t1254 t1257 x10_2 x59_42 a1_0 a1_1 = some r) ∧ Aside0 (kq ≤ k2) ∧ Aside0 (Kd.R k63 63 wc w.heap.size (fun _ => True) v1255 t1254) ∧ Aside0 (wc.heap[gb1244]? = some (.cells #[(.slice A0_0 l0_0.length c0_0), .int .i64 a0_1, .int .i64 a0_2] 24 (0, 0))) ∧ Aside0 (wc.heap[gb1245]? = some (.cells #[.int .i64 a1_0, .int .i64 a1_1] 37 (0, 0))) ∧ Aside0 (wc.heap[gb1252]? = some (.cells #[.int .i64 t1248, .int .i64 t1249] 37 (0, 0))) ∧ Aside0 (Below w.heap.size w wc))
        case first =>
         have H := HC43.out; clear HC43
         by_cases c44 : x10_2 < (t1254.length : Int)
         ·rw [if_pos c44] at H; have c44b0 : decide (x10_2 < (t1254.length : Int)) = true := decide_eq_true c44; clear c44
          (first | rw [c44b0] | (simp only [i64_w, i32_w]; rw [c44b0]) | skip)
          have H' := Aside0.mk H; clear H; obtain ⟨Ao45, co45, eo45⟩ := Kd.R_slice HO_8.out; subst eo45
          go_wp2
          go_meet
          case rel => exact ⟨_, ((t1257 == 0)), jz, H', ⟨by have := HJ11.out; have := HK2.out; first | omega | exact Nat.le_refl _⟩, ⟨rz HO_8⟩, ⟨kz⟩, ⟨kz⟩, ⟨kz⟩, ⟨bz⟩⟩
         ·rw [if_neg c44] at H; have c44b0 : decide (x10_2 < (t1254.length : Int)) = false := decide_eq_false c44; clear c44
          (first | rw [c44b0] | (simp only [i64_w, i32_w]; rw [c44b0]) | skip)
          have H' := Aside0.mk H; clear H; obtain ⟨Ao46, co46, eo46⟩ := Kd.R_slice HO_8.out; subst eo46
          go_wp2
          go_meet
          case rel => exact ⟨_, (false), jz, H', ⟨by have := HJ11.out; have := HK2.out; first | omega | exact Nat.le_refl _⟩, ⟨rz HO_8⟩, ⟨kz⟩, ⟨kz⟩, ⟨kz⟩, ⟨bz⟩⟩
        case rest =>
         clear HC43
         try clear c1
         try clear c2
         try clear p2
         try clear c3
         try clear c4
         try clear c8
         try clear c14
         try clear c15
         try clear c19
         try clear c20
         try clear c21
         try clear c23
         try clear c24
         try clear c28
         try clear c28b0
         try clear c28b1
         try clear c30
         try clear c31
         try clear c32
         try clear c33
         try clear c37
         try clear c38
         try clear c40
         try clear c44
         try clear c44b0
         try clear c46
         try clear hcz16_0
         try clear hcz16_1
         try clear hcz16_2
         try clear hcz17_0
         try clear hcz17_1
         try clear hcz22_0
         try clear hcz22_1
         try clear hcz32_0
         try clear hcz32_1
         try clear hcz32_2
         try clear hcz34_0
         try clear hcz34_1
         try clear hcz39_0
         try clear hcz39_1
         try clear hcz39_2
         try clear hcz41_0
         try clear hcz41_1
         try clear hcz9_0
         try clear hcz9_1
         try clear hcz9_2
         try clear hfz16_0
         try clear hfz16_1
         try clear hfz16_2
         try clear hfz17_0
         try clear hfz17_1
         try clear hfz22_0
         try clear hfz22_1
         try clear hfz32_0
         try clear hfz32_1
         try clear hfz32_2
         try clear hfz34_0
         try clear hfz34_1
         try clear hfz39_0
         try clear hfz39_1
         try clear hfz39_2
         try clear hfz41_0
         try clear hfz41_1
         try clear hfz9_0
         try clear hfz9_1
         try clear hfz9_2
         try clear p2
         obtain ⟨kq, x59_42, rfl, HA, HJ42, HO_8, BK1244, BK1245, BK1252, HB⟩ := hcut
         cases kq with
         | zero => exact absurd HA.out (by simp [dioramalaw10_EditFound.j2])
         | succ kj42 =>
          have H := HA.out; clear HA; simp only [dioramalaw10_EditFound.j2] at H
          by_cases c47 : x59_42 = true
          ·subst c47; rw [if_pos rfl] at H
           by_cases c48 : 0 ≤ x10_2
           ·rw [if_pos c48] at H; have c48b0 : decide (0 ≤ x10_2) = true := decide_eq_true c48; clear c48
            by_cases c49 : x10_2 < (t1254.length : Int)
            ·rw [if_pos c49] at H; have c49b0 : decide (x10_2 < (t1254.length : Int)) = true := decide_eq_true c49; clear c49; obtain ⟨⟨t1260, t1261⟩, A50, H⟩ := ob H
             (try dsimp only at H)
             obtain ⟨⟨t1263, t1264⟩, A51, H⟩ := ob H
             (try dsimp only at H)
             by_cases c52 : t1260 ≤ 0
             ·rw [if_pos c52] at H; have c52b0 : decide (t1260 ≤ 0) = true := decide_eq_true c52; clear c52
              by_cases c53 : t1263 < 0
              ·rw [if_pos c53] at H; have c53b0 : decide (t1263 < 0) = true := decide_eq_true c53; clear c53; obtain ⟨t1265, A54, H⟩ := ob H; obtain rfl := Option.some.inj H
               try go_wp2
               replace HO_8 := Aside0.mk (Kd.R_drew HO_8.out); replace BK1244 := Aside0.mk (blk_drew BK1244.out); replace BK1245 := Aside0.mk (blk_drew BK1245.out); replace BK1252 := Aside0.mk (blk_drew BK1252.out); replace HB := Aside0.mk (below_drew1 HB.out); obtain ⟨Ao56, co56, eo56⟩ := Kd.R_slice HO_8.out
               (first | subst eo56 | (injection eo56 with f1_ f2_ f3_; have f4_ := f1_.symm; have f5_ := f3_.symm; clear f1_ f2_ f3_; subst f4_; subst f5_))
               have p1259 : 0 ≤ (x10_2 : Int) := od; have q1259 : x10_2 < (t1254.length : Int) := od; obtain ⟨ad1259, e1259, hx1259_0, hx1259_1, hx1259_2, hx1259_3⟩ := at_T63 (Kd.R_reads' HO_8.out).2.2 x10_2 p1259 q1259
               cases e1259
               replace p1259 := eq_true p1259; replace q1259 := eq_true q1259; refine start_ (n := 12) (S := fun w' => w'.cell? ⟨gb1245, 0, none⟩ = some (.int .i64 a1_0) ∧ w'.cell? ⟨gb1245, 1, none⟩ = some (.int .i64 a1_1) ∧ w'.cell? (ad1259.add ((x10_2).toNat * 4)) = some (.int .i64 ((rd_T63 t1254 x10_2).f0.f0)) ∧ w'.cell? ⟨(ad1259.add ((x10_2).toNat * 4)).block, (ad1259.add ((x10_2).toNat * 4)).off + 1, none⟩ = some (.int .i64 ((rd_T63 t1254 x10_2).f0.f1)) ∧ w'.cell? ⟨(ad1259.add ((x10_2).toNat * 4)).block, (ad1259.add ((x10_2).toNat * 4)).off + 2, none⟩ = some (.int .i64 ((rd_T63 t1254 x10_2).f1.f0)) ∧ w'.cell? ⟨(ad1259.add ((x10_2).toNat * 4)).block, (ad1259.add ((x10_2).toNat * 4)).off + 3, none⟩ = some (.int .i64 ((rd_T63 t1254 x10_2).f1.f1))) (ds := []) (bs 12 0) (by kernel_rfl) rfl rfl ⟨ct BK1245 0, ct BK1245 1, hx1259_0, hx1259_1, hx1259_2, hx1259_3⟩ (fun hHeld => ?_)
               generalize wc.drew = w55 at HO_8 BK1244 BK1245 BK1252 HB hx1259_0 hx1259_1 hx1259_2 hx1259_3 hHeld ⊢; refine zP 0 63 12 1 ?_; refine zP 1 64 12 3 ?_; refine zP 2 65 12 7 ?_; refine zP 3 66 12 15 ?_; refine zT 4 67 12 31 hHeld ?_; refine zT 5 68 12 63 hHeld ?_; refine zN 6 (some 69) 12 127 (fun K hK => ?_); refine zG Try.func45 #[.agg #[.int .i64 ((rd_T63 t1254 x10_2).f0.f0), .int .i64 ((rd_T63 t1254 x10_2).f0.f1)], .agg #[.int .i64 a1_0, .int .i64 a1_1]] ?_
               with_reducible refine (dioramaref02_Cmp.calls ((rd_T63 t1254 x10_2).f0.f0) ((rd_T63 t1254 x10_2).f0.f1) a1_0 a1_1 t1260 t1261 _ A50.out).mono ?_
               rintro e w57 ⟨rfl, hb⟩; have HS2_ := (hb.cell (World.block_lt_of_cell? _ _ (hHeld.2.2.1))).trans (hHeld.2.2.1); have HS3_ := (hb.cell (World.block_lt_of_cell? _ _ (hHeld.2.2.2.1))).trans (hHeld.2.2.2.1); have HS4_ := (hb.cell (World.block_lt_of_cell? _ _ (hHeld.2.2.2.2.1))).trans (hHeld.2.2.2.2.1); have HS5_ := (hb.cell (World.block_lt_of_cell? _ _ (hHeld.2.2.2.2.2))).trans (hHeld.2.2.2.2.2); refine ⟨_, rfl, ?_⟩; replace HO_8 := Aside0.mk (Kd.R_below (rz HO_8) hb); replace BK1244 := kb BK1244 hb; replace BK1245 := kb BK1245 hb; replace BK1252 := kb BK1252 hb; replace HB := bp hb; clear hb; refine hK.out _ _ ⟨ct BK1245 0, ct BK1245 1, HS2_, HS3_, HS4_, HS5_⟩ (fun hHeld => ?_); clear hK K; refine zM 69 ?_; refine zP 7 62 12 255 ?_; refine zP 8 70 12 511 ?_; refine zP 9 71 12 1023 ?_; refine zP 10 11 12 2047 ?_; refine zP 11 12 12 4095 ?_; refine done_ (by kernel_rfl) ?_
               try go_wp2
               replace HO_8 := Aside0.mk (Kd.R_drew HO_8.out); replace BK1244 := Aside0.mk (blk_drew BK1244.out); replace BK1245 := Aside0.mk (blk_drew BK1245.out); replace BK1252 := Aside0.mk (blk_drew BK1252.out); replace HB := Aside0.mk (below_drew1 HB.out); have p1262 : 0 ≤ (x10_2 : Int) := od; have q1262 : x10_2 < (t1254.length : Int) := od; obtain ⟨ad1262, e1262, hx1262_0, hx1262_1, hx1262_2, hx1262_3⟩ := at_T63 (Kd.R_reads' HO_8.out).2.2 x10_2 p1262 q1262; obtain rfl : ad1259 = ad1262 := (by injection e1262); replace p1262 := eq_true p1262; replace q1262 := eq_true q1262; refine start_ (n := 12) (S := fun w' => w'.cell? ⟨gb1245, 0, none⟩ = some (.int .i64 a1_0) ∧ w'.cell? ⟨gb1245, 1, none⟩ = some (.int .i64 a1_1) ∧ w'.cell? (ad1259.add ((x10_2).toNat * 4)) = some (.int .i64 ((rd_T63 t1254 x10_2).f0.f0)) ∧ w'.cell? ⟨(ad1259.add ((x10_2).toNat * 4)).block, (ad1259.add ((x10_2).toNat * 4)).off + 1, none⟩ = some (.int .i64 ((rd_T63 t1254 x10_2).f0.f1)) ∧ w'.cell? ⟨(ad1259.add ((x10_2).toNat * 4)).block, (ad1259.add ((x10_2).toNat * 4)).off + 2, none⟩ = some (.int .i64 ((rd_T63 t1254 x10_2).f1.f0)) ∧ w'.cell? ⟨(ad1259.add ((x10_2).toNat * 4)).block, (ad1259.add ((x10_2).toNat * 4)).off + 3, none⟩ = some (.int .i64 ((rd_T63 t1254 x10_2).f1.f1))) (ds := []) (bs 12 0) (by kernel_rfl) rfl rfl ⟨ct BK1245 0, ct BK1245 1, hx1262_0, hx1262_1, hx1262_2, hx1262_3⟩ (fun hHeld => ?_)
               generalize w57.drew = w58 at HO_8 BK1244 BK1245 BK1252 HB hx1262_0 hx1262_1 hx1262_2 hx1262_3 hHeld ⊢; refine zP 1 74 12 2 ?_; refine zP 2 75 12 6 ?_; refine zP 3 76 12 14 ?_; refine zP 4 77 12 30 ?_; refine zT 0 73 12 31 hHeld ?_; refine zT 5 78 12 63 hHeld ?_; refine zN 6 (some 79) 12 127 (fun K hK => ?_); refine zG Try.func45 #[.agg #[.int .i64 a1_0, .int .i64 a1_1], .agg #[.int .i64 ((rd_T63 t1254 x10_2).f1.f0), .int .i64 ((rd_T63 t1254 x10_2).f1.f1)]] ?_
               with_reducible refine (dioramaref02_Cmp.calls a1_0 a1_1 ((rd_T63 t1254 x10_2).f1.f0) ((rd_T63 t1254 x10_2).f1.f1) t1263 t1264 _ A51.out).mono ?_
               rintro e w59 ⟨rfl, hb⟩; have HS2_ := (hb.cell (World.block_lt_of_cell? _ _ (hHeld.2.2.1))).trans (hHeld.2.2.1); have HS3_ := (hb.cell (World.block_lt_of_cell? _ _ (hHeld.2.2.2.1))).trans (hHeld.2.2.2.1); have HS4_ := (hb.cell (World.block_lt_of_cell? _ _ (hHeld.2.2.2.2.1))).trans (hHeld.2.2.2.2.1); have HS5_ := (hb.cell (World.block_lt_of_cell? _ _ (hHeld.2.2.2.2.2))).trans (hHeld.2.2.2.2.2); refine ⟨_, rfl, ?_⟩; replace HO_8 := Aside0.mk (Kd.R_below (rz HO_8) hb); replace BK1244 := kb BK1244 hb; replace BK1245 := kb BK1245 hb; replace BK1252 := kb BK1252 hb; replace HB := bp hb; clear hb; refine hK.out _ _ ⟨ct BK1245 0, ct BK1245 1, HS2_, HS3_, HS4_, HS5_⟩ (fun hHeld => ?_); clear hK K; refine zM 79 ?_; refine zP 7 72 12 255 ?_; refine zP 8 80 12 511 ?_; refine zP 9 81 12 1023 ?_; refine zP 10 13 12 2047 ?_; refine zP 11 14 12 4095 ?_; refine done_ (by kernel_rfl) ?_
               try go_wp2_with (first | ((with_reducible refine gate_callee (f := 20) rfl ?_); refine zC 92 Try.func20 #[] ?_; (with_reducible refine (dioramalaw10_awake.calls kj42  t1265 _ A54.out).mono ?_); rintro e w60 ⟨rfl, hb⟩; refine ⟨_, rfl, ?_⟩; replace HO_8 := Aside0.mk (Kd.R_below (rz HO_8) hb); replace BK1244 := kb BK1244 hb; replace BK1245 := kb BK1245 hb; replace BK1252 := kb BK1252 hb; replace HB := bp hb; clear hb))
               go_ret
               exact ⟨ez, bz⟩
              ·rw [if_neg c53] at H; have c53b0 : decide (t1263 < 0) = false := decide_eq_false c53; clear c53
               by_cases c61 : t1260 = 0
               ·rw [if_pos c61] at H; have c61b0 : (t1260 == 0) = true := beq_iff_eq.mpr c61; have c61b1 : (t1260 != 0) = false := bne_eq_false_iff_eq.mpr c61; clear c61; obtain ⟨t1266, A62, H⟩ := ob H; obtain rfl := Option.some.inj H
                try go_wp2
                replace HO_8 := Aside0.mk (Kd.R_drew HO_8.out); replace BK1244 := Aside0.mk (blk_drew BK1244.out); replace BK1245 := Aside0.mk (blk_drew BK1245.out); replace BK1252 := Aside0.mk (blk_drew BK1252.out); replace HB := Aside0.mk (below_drew1 HB.out); obtain ⟨Ao64, co64, eo64⟩ := Kd.R_slice HO_8.out
                (first | subst eo64 | (injection eo64 with f1_ f2_ f3_; have f4_ := f1_.symm; have f5_ := f3_.symm; clear f1_ f2_ f3_; subst f4_; subst f5_))
                have p1259 : 0 ≤ (x10_2 : Int) := od; have q1259 : x10_2 < (t1254.length : Int) := od; obtain ⟨ad1259, e1259, hx1259_0, hx1259_1, hx1259_2, hx1259_3⟩ := at_T63 (Kd.R_reads' HO_8.out).2.2 x10_2 p1259 q1259
                cases e1259
                replace p1259 := eq_true p1259; replace q1259 := eq_true q1259; refine start_ (n := 12) (S := fun w' => w'.cell? ⟨gb1245, 0, none⟩ = some (.int .i64 a1_0) ∧ w'.cell? ⟨gb1245, 1, none⟩ = some (.int .i64 a1_1) ∧ w'.cell? (ad1259.add ((x10_2).toNat * 4)) = some (.int .i64 ((rd_T63 t1254 x10_2).f0.f0)) ∧ w'.cell? ⟨(ad1259.add ((x10_2).toNat * 4)).block, (ad1259.add ((x10_2).toNat * 4)).off + 1, none⟩ = some (.int .i64 ((rd_T63 t1254 x10_2).f0.f1)) ∧ w'.cell? ⟨(ad1259.add ((x10_2).toNat * 4)).block, (ad1259.add ((x10_2).toNat * 4)).off + 2, none⟩ = some (.int .i64 ((rd_T63 t1254 x10_2).f1.f0)) ∧ w'.cell? ⟨(ad1259.add ((x10_2).toNat * 4)).block, (ad1259.add ((x10_2).toNat * 4)).off + 3, none⟩ = some (.int .i64 ((rd_T63 t1254 x10_2).f1.f1))) (ds := []) (bs 12 0) (by kernel_rfl) rfl rfl ⟨ct BK1245 0, ct BK1245 1, hx1259_0, hx1259_1, hx1259_2, hx1259_3⟩ (fun hHeld => ?_)
                generalize wc.drew = w63 at HO_8 BK1244 BK1245 BK1252 HB hx1259_0 hx1259_1 hx1259_2 hx1259_3 hHeld ⊢; refine zP 0 63 12 1 ?_; refine zP 1 64 12 3 ?_; refine zP 2 65 12 7 ?_; refine zP 3 66 12 15 ?_; refine zT 4 67 12 31 hHeld ?_; refine zT 5 68 12 63 hHeld ?_; refine zN 6 (some 69) 12 127 (fun K hK => ?_); refine zG Try.func45 #[.agg #[.int .i64 ((rd_T63 t1254 x10_2).f0.f0), .int .i64 ((rd_T63 t1254 x10_2).f0.f1)], .agg #[.int .i64 a1_0, .int .i64 a1_1]] ?_
                with_reducible refine (dioramaref02_Cmp.calls ((rd_T63 t1254 x10_2).f0.f0) ((rd_T63 t1254 x10_2).f0.f1) a1_0 a1_1 t1260 t1261 _ A50.out).mono ?_
                rintro e w65 ⟨rfl, hb⟩; have HS2_ := (hb.cell (World.block_lt_of_cell? _ _ (hHeld.2.2.1))).trans (hHeld.2.2.1); have HS3_ := (hb.cell (World.block_lt_of_cell? _ _ (hHeld.2.2.2.1))).trans (hHeld.2.2.2.1); have HS4_ := (hb.cell (World.block_lt_of_cell? _ _ (hHeld.2.2.2.2.1))).trans (hHeld.2.2.2.2.1); have HS5_ := (hb.cell (World.block_lt_of_cell? _ _ (hHeld.2.2.2.2.2))).trans (hHeld.2.2.2.2.2); refine ⟨_, rfl, ?_⟩; replace HO_8 := Aside0.mk (Kd.R_below (rz HO_8) hb); replace BK1244 := kb BK1244 hb; replace BK1245 := kb BK1245 hb; replace BK1252 := kb BK1252 hb; replace HB := bp hb; clear hb; refine hK.out _ _ ⟨ct BK1245 0, ct BK1245 1, HS2_, HS3_, HS4_, HS5_⟩ (fun hHeld => ?_); clear hK K; refine zM 69 ?_; refine zP 7 62 12 255 ?_; refine zP 8 70 12 511 ?_; refine zP 9 71 12 1023 ?_; refine zP 10 11 12 2047 ?_; refine zP 11 12 12 4095 ?_; refine done_ (by kernel_rfl) ?_
                try go_wp2
                replace HO_8 := Aside0.mk (Kd.R_drew HO_8.out); replace BK1244 := Aside0.mk (blk_drew BK1244.out); replace BK1245 := Aside0.mk (blk_drew BK1245.out); replace BK1252 := Aside0.mk (blk_drew BK1252.out); replace HB := Aside0.mk (below_drew1 HB.out); have p1262 : 0 ≤ (x10_2 : Int) := od; have q1262 : x10_2 < (t1254.length : Int) := od; obtain ⟨ad1262, e1262, hx1262_0, hx1262_1, hx1262_2, hx1262_3⟩ := at_T63 (Kd.R_reads' HO_8.out).2.2 x10_2 p1262 q1262; obtain rfl : ad1259 = ad1262 := (by injection e1262); replace p1262 := eq_true p1262; replace q1262 := eq_true q1262; refine start_ (n := 12) (S := fun w' => w'.cell? ⟨gb1245, 0, none⟩ = some (.int .i64 a1_0) ∧ w'.cell? ⟨gb1245, 1, none⟩ = some (.int .i64 a1_1) ∧ w'.cell? (ad1259.add ((x10_2).toNat * 4)) = some (.int .i64 ((rd_T63 t1254 x10_2).f0.f0)) ∧ w'.cell? ⟨(ad1259.add ((x10_2).toNat * 4)).block, (ad1259.add ((x10_2).toNat * 4)).off + 1, none⟩ = some (.int .i64 ((rd_T63 t1254 x10_2).f0.f1)) ∧ w'.cell? ⟨(ad1259.add ((x10_2).toNat * 4)).block, (ad1259.add ((x10_2).toNat * 4)).off + 2, none⟩ = some (.int .i64 ((rd_T63 t1254 x10_2).f1.f0)) ∧ w'.cell? ⟨(ad1259.add ((x10_2).toNat * 4)).block, (ad1259.add ((x10_2).toNat * 4)).off + 3, none⟩ = some (.int .i64 ((rd_T63 t1254 x10_2).f1.f1))) (ds := []) (bs 12 0) (by kernel_rfl) rfl rfl ⟨ct BK1245 0, ct BK1245 1, hx1262_0, hx1262_1, hx1262_2, hx1262_3⟩ (fun hHeld => ?_)
                generalize w65.drew = w66 at HO_8 BK1244 BK1245 BK1252 HB hx1262_0 hx1262_1 hx1262_2 hx1262_3 hHeld ⊢; refine zP 1 74 12 2 ?_; refine zP 2 75 12 6 ?_; refine zP 3 76 12 14 ?_; refine zP 4 77 12 30 ?_; refine zT 0 73 12 31 hHeld ?_; refine zT 5 78 12 63 hHeld ?_; refine zN 6 (some 79) 12 127 (fun K hK => ?_); refine zG Try.func45 #[.agg #[.int .i64 a1_0, .int .i64 a1_1], .agg #[.int .i64 ((rd_T63 t1254 x10_2).f1.f0), .int .i64 ((rd_T63 t1254 x10_2).f1.f1)]] ?_
                with_reducible refine (dioramaref02_Cmp.calls a1_0 a1_1 ((rd_T63 t1254 x10_2).f1.f0) ((rd_T63 t1254 x10_2).f1.f1) t1263 t1264 _ A51.out).mono ?_
                rintro e w67 ⟨rfl, hb⟩; have HS2_ := (hb.cell (World.block_lt_of_cell? _ _ (hHeld.2.2.1))).trans (hHeld.2.2.1); have HS3_ := (hb.cell (World.block_lt_of_cell? _ _ (hHeld.2.2.2.1))).trans (hHeld.2.2.2.1); have HS4_ := (hb.cell (World.block_lt_of_cell? _ _ (hHeld.2.2.2.2.1))).trans (hHeld.2.2.2.2.1); have HS5_ := (hb.cell (World.block_lt_of_cell? _ _ (hHeld.2.2.2.2.2))).trans (hHeld.2.2.2.2.2); refine ⟨_, rfl, ?_⟩; replace HO_8 := Aside0.mk (Kd.R_below (rz HO_8) hb); replace BK1244 := kb BK1244 hb; replace BK1245 := kb BK1245 hb; replace BK1252 := kb BK1252 hb; replace HB := bp hb; clear hb; refine hK.out _ _ ⟨ct BK1245 0, ct BK1245 1, HS2_, HS3_, HS4_, HS5_⟩ (fun hHeld => ?_); clear hK K; refine zM 79 ?_; refine zP 7 72 12 255 ?_; refine zP 8 80 12 511 ?_; refine zP 9 81 12 1023 ?_; refine zP 10 13 12 2047 ?_; refine zP 11 14 12 4095 ?_; refine done_ (by kernel_rfl) ?_
                try go_wp2_with (first | ((with_reducible refine gate_callee (f := 20) rfl ?_); refine zC 92 Try.func20 #[] ?_; (with_reducible refine (dioramalaw10_awake.calls kj42  t1266 _ A62.out).mono ?_); rintro e w68 ⟨rfl, hb⟩; refine ⟨_, rfl, ?_⟩; replace HO_8 := Aside0.mk (Kd.R_below (rz HO_8) hb); replace BK1244 := kb BK1244 hb; replace BK1245 := kb BK1245 hb; replace BK1252 := kb BK1252 hb; replace HB := bp hb; clear hb))
                go_ret
                exact ⟨ez, bz⟩
               ·rw [if_neg c61] at H; have c61b0 : (t1260 == 0) = false := beq_eq_false_iff_ne.mpr c61; have c61b1 : (t1260 != 0) = true := bne_iff_ne.mpr c61; have H' := Aside0.mk H; clear H
                try go_wp2
                replace HO_8 := Aside0.mk (Kd.R_drew HO_8.out); replace BK1244 := Aside0.mk (blk_drew BK1244.out); replace BK1245 := Aside0.mk (blk_drew BK1245.out); replace BK1252 := Aside0.mk (blk_drew BK1252.out); replace HB := Aside0.mk (below_drew1 HB.out); obtain ⟨Ao70, co70, eo70⟩ := Kd.R_slice HO_8.out
                (first | subst eo70 | (injection eo70 with f1_ f2_ f3_; have f4_ := f1_.symm; have f5_ := f3_.symm; clear f1_ f2_ f3_; subst f4_; subst f5_))
                have p1259 : 0 ≤ (x10_2 : Int) := od; have q1259 : x10_2 < (t1254.length : Int) := od; obtain ⟨ad1259, e1259, hx1259_0, hx1259_1, hx1259_2, hx1259_3⟩ := at_T63 (Kd.R_reads' HO_8.out).2.2 x10_2 p1259 q1259
                cases e1259
                replace p1259 := eq_true p1259; replace q1259 := eq_true q1259; refine start_ (n := 12) (S := fun w' => w'.cell? ⟨gb1245, 0, none⟩ = some (.int .i64 a1_0) ∧ w'.cell? ⟨gb1245, 1, none⟩ = some (.int .i64 a1_1) ∧ w'.cell? (ad1259.add ((x10_2).toNat * 4)) = some (.int .i64 ((rd_T63 t1254 x10_2).f0.f0)) ∧ w'.cell? ⟨(ad1259.add ((x10_2).toNat * 4)).block, (ad1259.add ((x10_2).toNat * 4)).off + 1, none⟩ = some (.int .i64 ((rd_T63 t1254 x10_2).f0.f1)) ∧ w'.cell? ⟨(ad1259.add ((x10_2).toNat * 4)).block, (ad1259.add ((x10_2).toNat * 4)).off + 2, none⟩ = some (.int .i64 ((rd_T63 t1254 x10_2).f1.f0)) ∧ w'.cell? ⟨(ad1259.add ((x10_2).toNat * 4)).block, (ad1259.add ((x10_2).toNat * 4)).off + 3, none⟩ = some (.int .i64 ((rd_T63 t1254 x10_2).f1.f1))) (ds := []) (bs 12 0) (by kernel_rfl) rfl rfl ⟨ct BK1245 0, ct BK1245 1, hx1259_0, hx1259_1, hx1259_2, hx1259_3⟩ (fun hHeld => ?_)
                generalize wc.drew = w69 at HO_8 BK1244 BK1245 BK1252 HB hx1259_0 hx1259_1 hx1259_2 hx1259_3 hHeld ⊢; refine zP 0 63 12 1 ?_; refine zP 1 64 12 3 ?_; refine zP 2 65 12 7 ?_; refine zP 3 66 12 15 ?_; refine zT 4 67 12 31 hHeld ?_; refine zT 5 68 12 63 hHeld ?_; refine zN 6 (some 69) 12 127 (fun K hK => ?_); refine zG Try.func45 #[.agg #[.int .i64 ((rd_T63 t1254 x10_2).f0.f0), .int .i64 ((rd_T63 t1254 x10_2).f0.f1)], .agg #[.int .i64 a1_0, .int .i64 a1_1]] ?_
                with_reducible refine (dioramaref02_Cmp.calls ((rd_T63 t1254 x10_2).f0.f0) ((rd_T63 t1254 x10_2).f0.f1) a1_0 a1_1 t1260 t1261 _ A50.out).mono ?_
                rintro e w71 ⟨rfl, hb⟩; have HS2_ := (hb.cell (World.block_lt_of_cell? _ _ (hHeld.2.2.1))).trans (hHeld.2.2.1); have HS3_ := (hb.cell (World.block_lt_of_cell? _ _ (hHeld.2.2.2.1))).trans (hHeld.2.2.2.1); have HS4_ := (hb.cell (World.block_lt_of_cell? _ _ (hHeld.2.2.2.2.1))).trans (hHeld.2.2.2.2.1); have HS5_ := (hb.cell (World.block_lt_of_cell? _ _ (hHeld.2.2.2.2.2))).trans (hHeld.2.2.2.2.2); refine ⟨_, rfl, ?_⟩; replace HO_8 := Aside0.mk (Kd.R_below (rz HO_8) hb); replace BK1244 := kb BK1244 hb; replace BK1245 := kb BK1245 hb; replace BK1252 := kb BK1252 hb; replace HB := bp hb; clear hb; refine hK.out _ _ ⟨ct BK1245 0, ct BK1245 1, HS2_, HS3_, HS4_, HS5_⟩ (fun hHeld => ?_); clear hK K; refine zM 69 ?_; refine zP 7 62 12 255 ?_; refine zP 8 70 12 511 ?_; refine zP 9 71 12 1023 ?_; refine zP 10 11 12 2047 ?_; refine zP 11 12 12 4095 ?_; refine done_ (by kernel_rfl) ?_
                try go_wp2
                replace HO_8 := Aside0.mk (Kd.R_drew HO_8.out); replace BK1244 := Aside0.mk (blk_drew BK1244.out); replace BK1245 := Aside0.mk (blk_drew BK1245.out); replace BK1252 := Aside0.mk (blk_drew BK1252.out); replace HB := Aside0.mk (below_drew1 HB.out); have p1262 : 0 ≤ (x10_2 : Int) := od; have q1262 : x10_2 < (t1254.length : Int) := od; obtain ⟨ad1262, e1262, hx1262_0, hx1262_1, hx1262_2, hx1262_3⟩ := at_T63 (Kd.R_reads' HO_8.out).2.2 x10_2 p1262 q1262; obtain rfl : ad1259 = ad1262 := (by injection e1262); replace p1262 := eq_true p1262; replace q1262 := eq_true q1262; refine start_ (n := 12) (S := fun w' => w'.cell? ⟨gb1245, 0, none⟩ = some (.int .i64 a1_0) ∧ w'.cell? ⟨gb1245, 1, none⟩ = some (.int .i64 a1_1) ∧ w'.cell? (ad1259.add ((x10_2).toNat * 4)) = some (.int .i64 ((rd_T63 t1254 x10_2).f0.f0)) ∧ w'.cell? ⟨(ad1259.add ((x10_2).toNat * 4)).block, (ad1259.add ((x10_2).toNat * 4)).off + 1, none⟩ = some (.int .i64 ((rd_T63 t1254 x10_2).f0.f1)) ∧ w'.cell? ⟨(ad1259.add ((x10_2).toNat * 4)).block, (ad1259.add ((x10_2).toNat * 4)).off + 2, none⟩ = some (.int .i64 ((rd_T63 t1254 x10_2).f1.f0)) ∧ w'.cell? ⟨(ad1259.add ((x10_2).toNat * 4)).block, (ad1259.add ((x10_2).toNat * 4)).off + 3, none⟩ = some (.int .i64 ((rd_T63 t1254 x10_2).f1.f1))) (ds := []) (bs 12 0) (by kernel_rfl) rfl rfl ⟨ct BK1245 0, ct BK1245 1, hx1262_0, hx1262_1, hx1262_2, hx1262_3⟩ (fun hHeld => ?_)
                generalize w71.drew = w72 at HO_8 BK1244 BK1245 BK1252 HB hx1262_0 hx1262_1 hx1262_2 hx1262_3 hHeld ⊢; refine zP 1 74 12 2 ?_; refine zP 2 75 12 6 ?_; refine zP 3 76 12 14 ?_; refine zP 4 77 12 30 ?_; refine zT 0 73 12 31 hHeld ?_; refine zT 5 78 12 63 hHeld ?_; refine zN 6 (some 79) 12 127 (fun K hK => ?_); refine zG Try.func45 #[.agg #[.int .i64 a1_0, .int .i64 a1_1], .agg #[.int .i64 ((rd_T63 t1254 x10_2).f1.f0), .int .i64 ((rd_T63 t1254 x10_2).f1.f1)]] ?_
                with_reducible refine (dioramaref02_Cmp.calls a1_0 a1_1 ((rd_T63 t1254 x10_2).f1.f0) ((rd_T63 t1254 x10_2).f1.f1) t1263 t1264 _ A51.out).mono ?_
                rintro e w73 ⟨rfl, hb⟩; have HS2_ := (hb.cell (World.block_lt_of_cell? _ _ (hHeld.2.2.1))).trans (hHeld.2.2.1); have HS3_ := (hb.cell (World.block_lt_of_cell? _ _ (hHeld.2.2.2.1))).trans (hHeld.2.2.2.1); have HS4_ := (hb.cell (World.block_lt_of_cell? _ _ (hHeld.2.2.2.2.1))).trans (hHeld.2.2.2.2.1); have HS5_ := (hb.cell (World.block_lt_of_cell? _ _ (hHeld.2.2.2.2.2))).trans (hHeld.2.2.2.2.2); refine ⟨_, rfl, ?_⟩; replace HO_8 := Aside0.mk (Kd.R_below (rz HO_8) hb); replace BK1244 := kb BK1244 hb; replace BK1245 := kb BK1245 hb; replace BK1252 := kb BK1252 hb; replace HB := bp hb; clear hb; refine hK.out _ _ ⟨ct BK1245 0, ct BK1245 1, HS2_, HS3_, HS4_, HS5_⟩ (fun hHeld => ?_); clear hK K; refine zM 79 ?_; refine zP 7 72 12 255 ?_; refine zP 8 80 12 511 ?_; refine zP 9 81 12 1023 ?_; refine zP 10 13 12 2047 ?_; refine zP 11 14 12 4095 ?_; refine done_ (by kernel_rfl) ?_
                try go_wp2
                go_roundg kj42
                case measure => have := HJ11.out; have := HK2.out; have := HJ42.out; omega
                case rel => exact ⟨(wrap64 (x10_2 + 1)), jz, H', ⟨by have := HJ11.out; have := HK2.out; have := HJ42.out; omega⟩, ⟨rz HO_8⟩, ⟨kz⟩, ⟨kz⟩, ⟨kz⟩, ⟨bz⟩⟩
             ·rw [if_neg c52] at H; have c52b0 : decide (t1260 ≤ 0) = false := decide_eq_false c52; clear c52
              by_cases c74 : t1260 = 0
              ·rw [if_pos c74] at H; have c74b0 : (t1260 == 0) = true := beq_iff_eq.mpr c74; have c74b1 : (t1260 != 0) = false := bne_eq_false_iff_eq.mpr c74; clear c74; obtain ⟨t1267, A75, H⟩ := ob H; obtain rfl := Option.some.inj H
               try go_wp2
               replace HO_8 := Aside0.mk (Kd.R_drew HO_8.out); replace BK1244 := Aside0.mk (blk_drew BK1244.out); replace BK1245 := Aside0.mk (blk_drew BK1245.out); replace BK1252 := Aside0.mk (blk_drew BK1252.out); replace HB := Aside0.mk (below_drew1 HB.out); obtain ⟨Ao77, co77, eo77⟩ := Kd.R_slice HO_8.out
               (first | subst eo77 | (injection eo77 with f1_ f2_ f3_; have f4_ := f1_.symm; have f5_ := f3_.symm; clear f1_ f2_ f3_; subst f4_; subst f5_))
               have p1259 : 0 ≤ (x10_2 : Int) := od; have q1259 : x10_2 < (t1254.length : Int) := od; obtain ⟨ad1259, e1259, hx1259_0, hx1259_1, hx1259_2, hx1259_3⟩ := at_T63 (Kd.R_reads' HO_8.out).2.2 x10_2 p1259 q1259
               cases e1259
               replace p1259 := eq_true p1259; replace q1259 := eq_true q1259; refine start_ (n := 12) (S := fun w' => w'.cell? ⟨gb1245, 0, none⟩ = some (.int .i64 a1_0) ∧ w'.cell? ⟨gb1245, 1, none⟩ = some (.int .i64 a1_1) ∧ w'.cell? (ad1259.add ((x10_2).toNat * 4)) = some (.int .i64 ((rd_T63 t1254 x10_2).f0.f0)) ∧ w'.cell? ⟨(ad1259.add ((x10_2).toNat * 4)).block, (ad1259.add ((x10_2).toNat * 4)).off + 1, none⟩ = some (.int .i64 ((rd_T63 t1254 x10_2).f0.f1)) ∧ w'.cell? ⟨(ad1259.add ((x10_2).toNat * 4)).block, (ad1259.add ((x10_2).toNat * 4)).off + 2, none⟩ = some (.int .i64 ((rd_T63 t1254 x10_2).f1.f0)) ∧ w'.cell? ⟨(ad1259.add ((x10_2).toNat * 4)).block, (ad1259.add ((x10_2).toNat * 4)).off + 3, none⟩ = some (.int .i64 ((rd_T63 t1254 x10_2).f1.f1))) (ds := []) (bs 12 0) (by kernel_rfl) rfl rfl ⟨ct BK1245 0, ct BK1245 1, hx1259_0, hx1259_1, hx1259_2, hx1259_3⟩ (fun hHeld => ?_)
               generalize wc.drew = w76 at HO_8 BK1244 BK1245 BK1252 HB hx1259_0 hx1259_1 hx1259_2 hx1259_3 hHeld ⊢; refine zP 0 63 12 1 ?_; refine zP 1 64 12 3 ?_; refine zP 2 65 12 7 ?_; refine zP 3 66 12 15 ?_; refine zT 4 67 12 31 hHeld ?_; refine zT 5 68 12 63 hHeld ?_; refine zN 6 (some 69) 12 127 (fun K hK => ?_); refine zG Try.func45 #[.agg #[.int .i64 ((rd_T63 t1254 x10_2).f0.f0), .int .i64 ((rd_T63 t1254 x10_2).f0.f1)], .agg #[.int .i64 a1_0, .int .i64 a1_1]] ?_
               with_reducible refine (dioramaref02_Cmp.calls ((rd_T63 t1254 x10_2).f0.f0) ((rd_T63 t1254 x10_2).f0.f1) a1_0 a1_1 t1260 t1261 _ A50.out).mono ?_
               rintro e w78 ⟨rfl, hb⟩; have HS2_ := (hb.cell (World.block_lt_of_cell? _ _ (hHeld.2.2.1))).trans (hHeld.2.2.1); have HS3_ := (hb.cell (World.block_lt_of_cell? _ _ (hHeld.2.2.2.1))).trans (hHeld.2.2.2.1); have HS4_ := (hb.cell (World.block_lt_of_cell? _ _ (hHeld.2.2.2.2.1))).trans (hHeld.2.2.2.2.1); have HS5_ := (hb.cell (World.block_lt_of_cell? _ _ (hHeld.2.2.2.2.2))).trans (hHeld.2.2.2.2.2); refine ⟨_, rfl, ?_⟩; replace HO_8 := Aside0.mk (Kd.R_below (rz HO_8) hb); replace BK1244 := kb BK1244 hb; replace BK1245 := kb BK1245 hb; replace BK1252 := kb BK1252 hb; replace HB := bp hb; clear hb; refine hK.out _ _ ⟨ct BK1245 0, ct BK1245 1, HS2_, HS3_, HS4_, HS5_⟩ (fun hHeld => ?_); clear hK K; refine zM 69 ?_; refine zP 7 62 12 255 ?_; refine zP 8 70 12 511 ?_; refine zP 9 71 12 1023 ?_; refine zP 10 11 12 2047 ?_; refine zP 11 12 12 4095 ?_; refine done_ (by kernel_rfl) ?_
               try go_wp2
               replace HO_8 := Aside0.mk (Kd.R_drew HO_8.out); replace BK1244 := Aside0.mk (blk_drew BK1244.out); replace BK1245 := Aside0.mk (blk_drew BK1245.out); replace BK1252 := Aside0.mk (blk_drew BK1252.out); replace HB := Aside0.mk (below_drew1 HB.out); have p1262 : 0 ≤ (x10_2 : Int) := od; have q1262 : x10_2 < (t1254.length : Int) := od; obtain ⟨ad1262, e1262, hx1262_0, hx1262_1, hx1262_2, hx1262_3⟩ := at_T63 (Kd.R_reads' HO_8.out).2.2 x10_2 p1262 q1262; obtain rfl : ad1259 = ad1262 := (by injection e1262); replace p1262 := eq_true p1262; replace q1262 := eq_true q1262; refine start_ (n := 12) (S := fun w' => w'.cell? ⟨gb1245, 0, none⟩ = some (.int .i64 a1_0) ∧ w'.cell? ⟨gb1245, 1, none⟩ = some (.int .i64 a1_1) ∧ w'.cell? (ad1259.add ((x10_2).toNat * 4)) = some (.int .i64 ((rd_T63 t1254 x10_2).f0.f0)) ∧ w'.cell? ⟨(ad1259.add ((x10_2).toNat * 4)).block, (ad1259.add ((x10_2).toNat * 4)).off + 1, none⟩ = some (.int .i64 ((rd_T63 t1254 x10_2).f0.f1)) ∧ w'.cell? ⟨(ad1259.add ((x10_2).toNat * 4)).block, (ad1259.add ((x10_2).toNat * 4)).off + 2, none⟩ = some (.int .i64 ((rd_T63 t1254 x10_2).f1.f0)) ∧ w'.cell? ⟨(ad1259.add ((x10_2).toNat * 4)).block, (ad1259.add ((x10_2).toNat * 4)).off + 3, none⟩ = some (.int .i64 ((rd_T63 t1254 x10_2).f1.f1))) (ds := []) (bs 12 0) (by kernel_rfl) rfl rfl ⟨ct BK1245 0, ct BK1245 1, hx1262_0, hx1262_1, hx1262_2, hx1262_3⟩ (fun hHeld => ?_)
               generalize w78.drew = w79 at HO_8 BK1244 BK1245 BK1252 HB hx1262_0 hx1262_1 hx1262_2 hx1262_3 hHeld ⊢; refine zP 1 74 12 2 ?_; refine zP 2 75 12 6 ?_; refine zP 3 76 12 14 ?_; refine zP 4 77 12 30 ?_; refine zT 0 73 12 31 hHeld ?_; refine zT 5 78 12 63 hHeld ?_; refine zN 6 (some 79) 12 127 (fun K hK => ?_); refine zG Try.func45 #[.agg #[.int .i64 a1_0, .int .i64 a1_1], .agg #[.int .i64 ((rd_T63 t1254 x10_2).f1.f0), .int .i64 ((rd_T63 t1254 x10_2).f1.f1)]] ?_
               with_reducible refine (dioramaref02_Cmp.calls a1_0 a1_1 ((rd_T63 t1254 x10_2).f1.f0) ((rd_T63 t1254 x10_2).f1.f1) t1263 t1264 _ A51.out).mono ?_
               rintro e w80 ⟨rfl, hb⟩; have HS2_ := (hb.cell (World.block_lt_of_cell? _ _ (hHeld.2.2.1))).trans (hHeld.2.2.1); have HS3_ := (hb.cell (World.block_lt_of_cell? _ _ (hHeld.2.2.2.1))).trans (hHeld.2.2.2.1); have HS4_ := (hb.cell (World.block_lt_of_cell? _ _ (hHeld.2.2.2.2.1))).trans (hHeld.2.2.2.2.1); have HS5_ := (hb.cell (World.block_lt_of_cell? _ _ (hHeld.2.2.2.2.2))).trans (hHeld.2.2.2.2.2); refine ⟨_, rfl, ?_⟩; replace HO_8 := Aside0.mk (Kd.R_below (rz HO_8) hb); replace BK1244 := kb BK1244 hb; replace BK1245 := kb BK1245 hb; replace BK1252 := kb BK1252 hb; replace HB := bp hb; clear hb; refine hK.out _ _ ⟨ct BK1245 0, ct BK1245 1, HS2_, HS3_, HS4_, HS5_⟩ (fun hHeld => ?_); clear hK K; refine zM 79 ?_; refine zP 7 72 12 255 ?_; refine zP 8 80 12 511 ?_; refine zP 9 81 12 1023 ?_; refine zP 10 13 12 2047 ?_; refine zP 11 14 12 4095 ?_; refine done_ (by kernel_rfl) ?_
               try go_wp2_with (first | ((with_reducible refine gate_callee (f := 20) rfl ?_); refine zC 92 Try.func20 #[] ?_; (with_reducible refine (dioramalaw10_awake.calls kj42  t1267 _ A75.out).mono ?_); rintro e w81 ⟨rfl, hb⟩; refine ⟨_, rfl, ?_⟩; replace HO_8 := Aside0.mk (Kd.R_below (rz HO_8) hb); replace BK1244 := kb BK1244 hb; replace BK1245 := kb BK1245 hb; replace BK1252 := kb BK1252 hb; replace HB := bp hb; clear hb))
               go_ret
               exact ⟨ez, bz⟩
              ·rw [if_neg c74] at H; have c74b0 : (t1260 == 0) = false := beq_eq_false_iff_ne.mpr c74; have c74b1 : (t1260 != 0) = true := bne_iff_ne.mpr c74; have H' := Aside0.mk H; clear H
               try go_wp2
               replace HO_8 := Aside0.mk (Kd.R_drew HO_8.out); replace BK1244 := Aside0.mk (blk_drew BK1244.out); replace BK1245 := Aside0.mk (blk_drew BK1245.out); replace BK1252 := Aside0.mk (blk_drew BK1252.out); replace HB := Aside0.mk (below_drew1 HB.out); obtain ⟨Ao83, co83, eo83⟩ := Kd.R_slice HO_8.out
               (first | subst eo83 | (injection eo83 with f1_ f2_ f3_; have f4_ := f1_.symm; have f5_ := f3_.symm; clear f1_ f2_ f3_; subst f4_; subst f5_))
               have p1259 : 0 ≤ (x10_2 : Int) := od; have q1259 : x10_2 < (t1254.length : Int) := od; obtain ⟨ad1259, e1259, hx1259_0, hx1259_1, hx1259_2, hx1259_3⟩ := at_T63 (Kd.R_reads' HO_8.out).2.2 x10_2 p1259 q1259
               cases e1259
               replace p1259 := eq_true p1259; replace q1259 := eq_true q1259; refine start_ (n := 12) (S := fun w' => w'.cell? ⟨gb1245, 0, none⟩ = some (.int .i64 a1_0) ∧ w'.cell? ⟨gb1245, 1, none⟩ = some (.int .i64 a1_1) ∧ w'.cell? (ad1259.add ((x10_2).toNat * 4)) = some (.int .i64 ((rd_T63 t1254 x10_2).f0.f0)) ∧ w'.cell? ⟨(ad1259.add ((x10_2).toNat * 4)).block, (ad1259.add ((x10_2).toNat * 4)).off + 1, none⟩ = some (.int .i64 ((rd_T63 t1254 x10_2).f0.f1)) ∧ w'.cell? ⟨(ad1259.add ((x10_2).toNat * 4)).block, (ad1259.add ((x10_2).toNat * 4)).off + 2, none⟩ = some (.int .i64 ((rd_T63 t1254 x10_2).f1.f0)) ∧ w'.cell? ⟨(ad1259.add ((x10_2).toNat * 4)).block, (ad1259.add ((x10_2).toNat * 4)).off + 3, none⟩ = some (.int .i64 ((rd_T63 t1254 x10_2).f1.f1))) (ds := []) (bs 12 0) (by kernel_rfl) rfl rfl ⟨ct BK1245 0, ct BK1245 1, hx1259_0, hx1259_1, hx1259_2, hx1259_3⟩ (fun hHeld => ?_)
               generalize wc.drew = w82 at HO_8 BK1244 BK1245 BK1252 HB hx1259_0 hx1259_1 hx1259_2 hx1259_3 hHeld ⊢; refine zP 0 63 12 1 ?_; refine zP 1 64 12 3 ?_; refine zP 2 65 12 7 ?_; refine zP 3 66 12 15 ?_; refine zT 4 67 12 31 hHeld ?_; refine zT 5 68 12 63 hHeld ?_; refine zN 6 (some 69) 12 127 (fun K hK => ?_); refine zG Try.func45 #[.agg #[.int .i64 ((rd_T63 t1254 x10_2).f0.f0), .int .i64 ((rd_T63 t1254 x10_2).f0.f1)], .agg #[.int .i64 a1_0, .int .i64 a1_1]] ?_
               with_reducible refine (dioramaref02_Cmp.calls ((rd_T63 t1254 x10_2).f0.f0) ((rd_T63 t1254 x10_2).f0.f1) a1_0 a1_1 t1260 t1261 _ A50.out).mono ?_
               rintro e w84 ⟨rfl, hb⟩; have HS2_ := (hb.cell (World.block_lt_of_cell? _ _ (hHeld.2.2.1))).trans (hHeld.2.2.1); have HS3_ := (hb.cell (World.block_lt_of_cell? _ _ (hHeld.2.2.2.1))).trans (hHeld.2.2.2.1); have HS4_ := (hb.cell (World.block_lt_of_cell? _ _ (hHeld.2.2.2.2.1))).trans (hHeld.2.2.2.2.1); have HS5_ := (hb.cell (World.block_lt_of_cell? _ _ (hHeld.2.2.2.2.2))).trans (hHeld.2.2.2.2.2); refine ⟨_, rfl, ?_⟩; replace HO_8 := Aside0.mk (Kd.R_below (rz HO_8) hb); replace BK1244 := kb BK1244 hb; replace BK1245 := kb BK1245 hb; replace BK1252 := kb BK1252 hb; replace HB := bp hb; clear hb; refine hK.out _ _ ⟨ct BK1245 0, ct BK1245 1, HS2_, HS3_, HS4_, HS5_⟩ (fun hHeld => ?_); clear hK K; refine zM 69 ?_; refine zP 7 62 12 255 ?_; refine zP 8 70 12 511 ?_; refine zP 9 71 12 1023 ?_; refine zP 10 11 12 2047 ?_; refine zP 11 12 12 4095 ?_; refine done_ (by kernel_rfl) ?_
               try go_wp2
               replace HO_8 := Aside0.mk (Kd.R_drew HO_8.out); replace BK1244 := Aside0.mk (blk_drew BK1244.out); replace BK1245 := Aside0.mk (blk_drew BK1245.out); replace BK1252 := Aside0.mk (blk_drew BK1252.out); replace HB := Aside0.mk (below_drew1 HB.out); have p1262 : 0 ≤ (x10_2 : Int) := od; have q1262 : x10_2 < (t1254.length : Int) := od; obtain ⟨ad1262, e1262, hx1262_0, hx1262_1, hx1262_2, hx1262_3⟩ := at_T63 (Kd.R_reads' HO_8.out).2.2 x10_2 p1262 q1262; obtain rfl : ad1259 = ad1262 := (by injection e1262); replace p1262 := eq_true p1262; replace q1262 := eq_true q1262; refine start_ (n := 12) (S := fun w' => w'.cell? ⟨gb1245, 0, none⟩ = some (.int .i64 a1_0) ∧ w'.cell? ⟨gb1245, 1, none⟩ = some (.int .i64 a1_1) ∧ w'.cell? (ad1259.add ((x10_2).toNat * 4)) = some (.int .i64 ((rd_T63 t1254 x10_2).f0.f0)) ∧ w'.cell? ⟨(ad1259.add ((x10_2).toNat * 4)).block, (ad1259.add ((x10_2).toNat * 4)).off + 1, none⟩ = some (.int .i64 ((rd_T63 t1254 x10_2).f0.f1)) ∧ w'.cell? ⟨(ad1259.add ((x10_2).toNat * 4)).block, (ad1259.add ((x10_2).toNat * 4)).off + 2, none⟩ = some (.int .i64 ((rd_T63 t1254 x10_2).f1.f0)) ∧ w'.cell? ⟨(ad1259.add ((x10_2).toNat * 4)).block, (ad1259.add ((x10_2).toNat * 4)).off + 3, none⟩ = some (.int .i64 ((rd_T63 t1254 x10_2).f1.f1))) (ds := []) (bs 12 0) (by kernel_rfl) rfl rfl ⟨ct BK1245 0, ct BK1245 1, hx1262_0, hx1262_1, hx1262_2, hx1262_3⟩ (fun hHeld => ?_)
               generalize w84.drew = w85 at HO_8 BK1244 BK1245 BK1252 HB hx1262_0 hx1262_1 hx1262_2 hx1262_3 hHeld ⊢; refine zP 1 74 12 2 ?_; refine zP 2 75 12 6 ?_; refine zP 3 76 12 14 ?_; refine zP 4 77 12 30 ?_; refine zT 0 73 12 31 hHeld ?_; refine zT 5 78 12 63 hHeld ?_; refine zN 6 (some 79) 12 127 (fun K hK => ?_); refine zG Try.func45 #[.agg #[.int .i64 a1_0, .int .i64 a1_1], .agg #[.int .i64 ((rd_T63 t1254 x10_2).f1.f0), .int .i64 ((rd_T63 t1254 x10_2).f1.f1)]] ?_
               with_reducible refine (dioramaref02_Cmp.calls a1_0 a1_1 ((rd_T63 t1254 x10_2).f1.f0) ((rd_T63 t1254 x10_2).f1.f1) t1263 t1264 _ A51.out).mono ?_
               rintro e w86 ⟨rfl, hb⟩; have HS2_ := (hb.cell (World.block_lt_of_cell? _ _ (hHeld.2.2.1))).trans (hHeld.2.2.1); have HS3_ := (hb.cell (World.block_lt_of_cell? _ _ (hHeld.2.2.2.1))).trans (hHeld.2.2.2.1); have HS4_ := (hb.cell (World.block_lt_of_cell? _ _ (hHeld.2.2.2.2.1))).trans (hHeld.2.2.2.2.1); have HS5_ := (hb.cell (World.block_lt_of_cell? _ _ (hHeld.2.2.2.2.2))).trans (hHeld.2.2.2.2.2); refine ⟨_, rfl, ?_⟩; replace HO_8 := Aside0.mk (Kd.R_below (rz HO_8) hb); replace BK1244 := kb BK1244 hb; replace BK1245 := kb BK1245 hb; replace BK1252 := kb BK1252 hb; replace HB := bp hb; clear hb; refine hK.out _ _ ⟨ct BK1245 0, ct BK1245 1, HS2_, HS3_, HS4_, HS5_⟩ (fun hHeld => ?_); clear hK K; refine zM 79 ?_; refine zP 7 72 12 255 ?_; refine zP 8 80 12 511 ?_; refine zP 9 81 12 1023 ?_; refine zP 10 13 12 2047 ?_; refine zP 11 14 12 4095 ?_; refine done_ (by kernel_rfl) ?_
               try go_wp2
               go_roundg kj42
               case measure => have := HJ11.out; have := HK2.out; have := HJ42.out; omega
               case rel => exact ⟨(wrap64 (x10_2 + 1)), jz, H', ⟨by have := HJ11.out; have := HK2.out; have := HJ42.out; omega⟩, ⟨rz HO_8⟩, ⟨kz⟩, ⟨kz⟩, ⟨kz⟩, ⟨bz⟩⟩
            ·rw [if_neg c49] at H
             exact absurd H (by simp)
           ·rw [if_neg c48] at H
            exact absurd H (by simp)
          ·obtain rfl := bf c47; rw [if_neg (show ¬ (false = true) by decide)] at H; obtain rfl := Option.some.inj H
           go_wp2
           go_ret
           exact ⟨ez, bz⟩
end Go.Proofs.Ytpbhepdgamoiaaa.E

namespace Go.Proofs.Ytpbhepdgamoiaaa.Ph
open Go.RowKit Go Go.Proofs.YtpbhepdgamoiaaaW.PrintWords Go.Proofs.YtpbhepdgamoiaaaW.PrintLast Go.Proofs.YtpbhepdgamoiaaaW.PrintMore Go.Proofs.Ytpbhepdgamoiaaa.Mn Go.Proofs.Ytpbhepdgamoiaaa.Rf Go.Proofs.Ytpbhepdgamoiaaa.Er Go.Proofs.Ytpbhepdgamoiaaa.Ek Go.Proofs.Ytpbhepdgamoiaaa.E Go.Proofs.Ytpbhepdgamoiaaa.Pe Go.Proofs.Ytpbhepdgamoiaaa.Pf Go.Proofs.Ytpbhepdgamoiaaa.Pg
set_option linter.unusedVariables false
set_option linter.unusedSimpArgs false
end Go.Proofs.Ytpbhepdgamoiaaa.Ph
namespace Go.Proofs.Ytpbhepdgamoiaaa.Nm
open Go.RowKit Go Go.Proofs.Ytpbhepdgamoiaaa.Rf Go.Proofs.Ytpbhepdgamoiaaa.Er Go.Proofs.Ytpbhepdgamoiaaa.Ek Go.Proofs.Ytpbhepdgamoiaaa.Et Go.Proofs.Ytpbhepdgamoiaaa.E Go.Proofs.Ytpbhepdgamoiaaa.Pe Go.Proofs.Ytpbhepdgamoiaaa.Pf Go.Proofs.Ytpbhepdgamoiaaa.Qr Go.Proofs.Ytpbhepdgamoiaaa.Qn Go.Proofs.Ytpbhepdgamoiaaa.Qw
set_option linter.unusedVariables false
set_option linter.unusedSimpArgs false
theorem qq_lt1 {a b c : Int} (hc : 0 < c) : qq a c < qq b c ↔ a < b := by
 rw [qq_lt hc hc]
 exact ⟨fun h => Int.lt_of_mul_lt_mul_right h (by omega), fun h => Int.mul_lt_mul_of_pos_right h hc⟩
theorem qq_le1 {a b c : Int} (hc : 0 < c) : qq a c ≤ qq b c ↔ a ≤ b := by
 rw [← Rat.not_lt, qq_lt1 hc]
 omega
theorem qq_zero (e : Int) : qq 0 e = 0 := by
 unfold qq
 simp
theorem lt_le {a b c : Rat} (h : a < b) (h2 : b ≤ c) : a < c := Rat.not_le.1 fun h3 => Rat.not_le.2 h (Rat.le_trans h2 h3)
abbrev noV : (Int × Int) × Bool × Int := ((0, 1), false, 0)
def shV (ts : Int) (x : Ed) (p : Rat) : (Int × Int) × Bool × Int := if x.f1 < 0 then noV else ((tmV (qq x.f1 ts + p * qq x.f2 x.f3)).1, (tmV (qq x.f1 ts + p * qq x.f2 x.f3)).2 == 0, (tmV (qq x.f1 ts + p * qq x.f2 x.f3)).2)
theorem med_cons (ms ts : Int) (q : Rat) (b : Int) (x : Ed) (t : List Ed) : medL ms ts q b (x :: t) = if q < qq b ms then medL ms ts q (b + x.f0) t else if q < qq (b + x.f0) ms then shV ts x (q - qq b ms) else medL ms ts q (b + x.f0) t := rfl
theorem med_low {ms ts : Int} (hm : 0 < ms) {q : Rat} : ∀ (l : List Ed) (b : Int), (∀ x ∈ l, 0 ≤ x.f0) → q < qq b ms → medL ms ts q b l = noV
 | [], _, _, _ => rfl
 | x :: t, b, h, hq => by
  rw [med_cons, if_pos hq]
  exact med_low hm t _ (fun y hy => h y (by simp [hy])) (lt_le hq ((qq_le1 hm).2 (by have := h x (by simp); omega)))
end Go.Proofs.Ytpbhepdgamoiaaa.Nm
namespace Go.Proofs.Ytpbhepdgamoiaaa.Qe
open Go.RowKit Go Go.Proofs.YtpbhepdgamoiaaaW.PrintWords Go.Proofs.YtpbhepdgamoiaaaW.PrintLast Go.Proofs.YtpbhepdgamoiaaaW.PrintMore Go.Proofs.Ytpbhepdgamoiaaa.Mn Go.Proofs.Ytpbhepdgamoiaaa.Er Go.Proofs.Ytpbhepdgamoiaaa.Ek Go.Proofs.Ytpbhepdgamoiaaa.E Go.Proofs.Ytpbhepdgamoiaaa.Pe Go.Proofs.Ytpbhepdgamoiaaa.Pf Go.Proofs.Ytpbhepdgamoiaaa.Pg
set_option linter.unusedVariables false
set_option linter.unusedSimpArgs false
end Go.Proofs.Ytpbhepdgamoiaaa.Qe
namespace Go.Proofs.Ytpbhepdgamoiaaa.Fr
open Go.RowKit Go Go.Proofs.YtpbhepdgamoiaaaW.PrintWords Go.Proofs.YtpbhepdgamoiaaaW.PrintLast Go.Proofs.YtpbhepdgamoiaaaW.PrintMore Go.Proofs.Ytpbhepdgamoiaaa.Mn Go.Proofs.Ytpbhepdgamoiaaa.Rf Go.Proofs.Ytpbhepdgamoiaaa.Er Go.Proofs.Ytpbhepdgamoiaaa.Ek Go.Proofs.Ytpbhepdgamoiaaa.E Go.Proofs.Ytpbhepdgamoiaaa.Pe Go.Proofs.Ytpbhepdgamoiaaa.Pf Go.Proofs.Ytpbhepdgamoiaaa.Pg Go.Proofs.Ytpbhepdgamoiaaa.Qr Go.Proofs.Ytpbhepdgamoiaaa.Qn Go.Proofs.Ytpbhepdgamoiaaa.Qo Go.Proofs.Ytpbhepdgamoiaaa.Qp Go.Proofs.Ytpbhepdgamoiaaa.Qe Go.Proofs.Ytpbhepdgamoiaaa.Qw Go.Proofs.Ytpbhepdgamoiaaa.Oe
set_option linter.unusedVariables false
set_option linter.unusedSimpArgs false
structure Rt (num den : Int) : Prop where
 n0 : 1 ≤ num
 n1 : num ≤ 1000
 d0 : 1 ≤ den
 d1 : den ≤ 1000
end Go.Proofs.Ytpbhepdgamoiaaa.Fr
namespace Go.Proofs.Ytpbhepdgamoiaaa.Cl
open Go.RowKit Go Go.Proofs.YtpbhepdgamoiaaaW.PrintWords Go.Proofs.YtpbhepdgamoiaaaW.PrintLast Go.Proofs.YtpbhepdgamoiaaaW.PrintMore Go.Proofs.Ytpbhepdgamoiaaa.Mn Go.Proofs.Ytpbhepdgamoiaaa.Rf Go.Proofs.Ytpbhepdgamoiaaa.Er Go.Proofs.Ytpbhepdgamoiaaa.Ek Go.Proofs.Ytpbhepdgamoiaaa.Ew Go.Proofs.Ytpbhepdgamoiaaa.E Go.Proofs.Ytpbhepdgamoiaaa.Pe Go.Proofs.Ytpbhepdgamoiaaa.Pf Go.Proofs.Ytpbhepdgamoiaaa.Pg Go.Proofs.Ytpbhepdgamoiaaa.Qr Go.Proofs.Ytpbhepdgamoiaaa.Qn Go.Proofs.Ytpbhepdgamoiaaa.Qo Go.Proofs.Ytpbhepdgamoiaaa.Qp Go.Proofs.Ytpbhepdgamoiaaa.Qe Go.Proofs.Ytpbhepdgamoiaaa.Qw Go.Proofs.Ytpbhepdgamoiaaa.Oe Go.Proofs.Ytpbhepdgamoiaaa.Fr
set_option linter.unusedVariables false
set_option linter.unusedSimpArgs false
def scB (a : Int) : Bool := decide (1 ≤ a) && decide (a ≤ 1000000)
theorem scale_f (a : Int) : edit_isScale.f a = some (scB a) := by
 unfold edit_isScale.f scB
 by_cases h : a ≥ 1
 ·rw [if_pos h, decide_eq_true (show 1 ≤ a from h), Bool.true_and]
 ·rw [if_neg h, decide_eq_false (show ¬ 1 ≤ a from h), Bool.false_and]
end Go.Proofs.Ytpbhepdgamoiaaa.Cl
namespace Go.Proofs.Ytpbhepdgamoiaaa.So
open Go.RowKit Go Go.Proofs.Ytpbhepdgamoiaaa.Rf Go.Proofs.Ytpbhepdgamoiaaa.Er Go.Proofs.Ytpbhepdgamoiaaa.Ek Go.Proofs.Ytpbhepdgamoiaaa.Et Go.Proofs.Ytpbhepdgamoiaaa.Ew Go.Proofs.Ytpbhepdgamoiaaa.E Go.Proofs.Ytpbhepdgamoiaaa.Pe Go.Proofs.Ytpbhepdgamoiaaa.Pf Go.Proofs.Ytpbhepdgamoiaaa.Qr Go.Proofs.Ytpbhepdgamoiaaa.Qn Go.Proofs.Ytpbhepdgamoiaaa.Qw Go.Proofs.Ytpbhepdgamoiaaa.Fr Go.Proofs.Ytpbhepdgamoiaaa.Cl Go.Proofs.Ytpbhepdgamoiaaa.Nm
set_option linter.unusedVariables false
set_option linter.unusedSimpArgs false
end Go.Proofs.Ytpbhepdgamoiaaa.So
namespace Go.Proofs.Ytpbhepdgamoiaaa.Sw
open Go.RowKit Go Go.Proofs.Ytpbhepdgamoiaaa.Rf Go.Proofs.Ytpbhepdgamoiaaa.Er Go.Proofs.Ytpbhepdgamoiaaa.Ek Go.Proofs.Ytpbhepdgamoiaaa.Et Go.Proofs.Ytpbhepdgamoiaaa.E Go.Proofs.Ytpbhepdgamoiaaa.Pe Go.Proofs.Ytpbhepdgamoiaaa.Pf Go.Proofs.Ytpbhepdgamoiaaa.Nm
set_option linter.unusedVariables false
set_option linter.unusedSimpArgs false
theorem rvalid_f (n d : Int) : dioramaref02_Valid.f n d = some (Ea.valid n d) := by
 unfold dioramaref02_Valid.f Ea.valid
 by_cases h1 : d ≥ 1
 ·rw [if_pos h1, decide_eq_true (show 1 ≤ d from h1)]
  by_cases h2 : d ≤ 1152921504606846976
  ·rw [if_pos h2, decide_eq_true h2]
   by_cases h3 : n ≥ -1152921504606846976
   ·rw [if_pos h3, decide_eq_true (show -1152921504606846976 ≤ n from h3)]
    rfl
   ·rw [if_neg h3, decide_eq_false (show ¬ -1152921504606846976 ≤ n from h3)]
    rfl
  ·rw [if_neg h2, decide_eq_false h2]
   rfl
 ·rw [if_neg h1, decide_eq_false (show ¬ 1 ≤ d from h1)]
  rfl
end Go.Proofs.Ytpbhepdgamoiaaa.Sw
namespace Go.Proofs.Ytpbhepdgamoiaaa.Tv
open Go.RowKit Go Go.Proofs.YtpbhepdgamoiaaaW.PrintWords Go.Proofs.YtpbhepdgamoiaaaW.PrintLast Go.Proofs.YtpbhepdgamoiaaaW.PrintMore Go.Proofs.Ytpbhepdgamoiaaa.Rf Go.Proofs.Ytpbhepdgamoiaaa.Er Go.Proofs.Ytpbhepdgamoiaaa.Ek Go.Proofs.Ytpbhepdgamoiaaa.Et Go.Proofs.Ytpbhepdgamoiaaa.E Go.Proofs.Ytpbhepdgamoiaaa.Pe Go.Proofs.Ytpbhepdgamoiaaa.Pf Go.Proofs.Ytpbhepdgamoiaaa.Pg Go.Proofs.Ytpbhepdgamoiaaa.Qr Go.Proofs.Ytpbhepdgamoiaaa.Qn Go.Proofs.Ytpbhepdgamoiaaa.Qt Go.Proofs.Ytpbhepdgamoiaaa.Qm Go.Proofs.Ytpbhepdgamoiaaa.Cl Go.Proofs.Ytpbhepdgamoiaaa.Nm Go.Proofs.Ytpbhepdgamoiaaa.Sw
set_option linter.unusedVariables false
set_option linter.unusedSimpArgs false
theorem tm_ok {q : Rat} (h : (tmV q).2 = 0) : Ea.valid (tmV q).1.1 (tmV q).1.2 = true ∧ qq (tmV q).1.1 (tmV q).1.2 = q := by
 unfold tmV at h ⊢
 by_cases hv : Ea.valid q.num q.den = true
 ·rw [if_pos hv]
  exact ⟨hv, Rat.num_divInt_den q⟩
 ·rw [if_neg hv] at h
  cases h
end Go.Proofs.Ytpbhepdgamoiaaa.Tv
namespace Go.Proofs.Ytpbhepdgamoiaaa.Bi
open Go.RowKit Go Go.Proofs.YtpbhepdgamoiaaaW.PrintWords Go.Proofs.YtpbhepdgamoiaaaW.PrintLast Go.Proofs.YtpbhepdgamoiaaaW.PrintMore Go.Proofs.Ytpbhepdgamoiaaa.Rf Go.Proofs.Ytpbhepdgamoiaaa.Er Go.Proofs.Ytpbhepdgamoiaaa.Ek Go.Proofs.Ytpbhepdgamoiaaa.Et Go.Proofs.Ytpbhepdgamoiaaa.E Go.Proofs.Ytpbhepdgamoiaaa.Pe Go.Proofs.Ytpbhepdgamoiaaa.Pf Go.Proofs.Ytpbhepdgamoiaaa.Pg Go.Proofs.Ytpbhepdgamoiaaa.Qr Go.Proofs.Ytpbhepdgamoiaaa.Qn Go.Proofs.Ytpbhepdgamoiaaa.Qw Go.Proofs.Ytpbhepdgamoiaaa.Qt Go.Proofs.Ytpbhepdgamoiaaa.Qm Go.Proofs.Ytpbhepdgamoiaaa.Nm Go.Proofs.Ytpbhepdgamoiaaa.Sw Go.Proofs.Ytpbhepdgamoiaaa.Tv Go.Proofs.Ytpbhepdgamoiaaa.Bk
set_option linter.unusedVariables false
set_option linter.unusedSimpArgs false
theorem bck_len (ms ts : Int) (p : Rat) : ∀ (l : List Ed) (out : List Spn) (b : Int), (bckL ms ts p out b l).1.length ≤ out.length + l.length
 | [], out, b => by simp [bckL]
 | x :: t, out, b => by
  have h1 := bck_len ms ts p t out (b + x.f0)
  have h2 := fun s => bck_len ms ts p t (out ++ [s]) (b + x.f0)
  simp only [List.length_append, List.length_cons, List.length_nil] at h2
  rw [bckL_cons, List.length_cons]
  split
  ·omega
  ·split
   ·split
    ·split
     ·have := h2 (spn (qq b ms) (qq (b + x.f0) ms))
      omega
     ·simp
    ·omega
   ·split
    ·omega
    ·split
     ·have := h2 (spn (qq b ms + (p - qq x.f1 ts) * qq x.f3 x.f2) (qq b ms + (p - qq x.f1 ts) * qq x.f3 x.f2))
      omega
     ·simp
theorem bck_err (ms ts : Int) (p : Rat) : ∀ (l : List Ed) (out : List Spn) (b : Int), (bckL ms ts p out b l).2 = 0 ∨ (bckL ms ts p out b l).2 = 2
 | [], out, b => .inl rfl
 | x :: t, out, b => by
  have h := fun o => bck_err ms ts p t o (b + x.f0)
  rw [bckL_cons]
  split
  ·exact h _
  ·split
   ·split
    ·split
     ·exact h _
     ·exact .inr rfl
    ·exact h _
   ·split
    ·exact h _
    ·split
     ·exact h _
     ·exact .inr rfl
theorem bck_sub {ms ts : Int} {p : Rat} : ∀ (l : List Ed) (out : List Spn) (b : Int), (bckL ms ts p out b l).2 = 0 → ∀ s ∈ out, s ∈ (bckL ms ts p out b l).1
 | [], out, b, _, s, hs => hs
 | x :: t, out, b, h, s, hs => by
  have h1 := fun o (hh : (bckL ms ts p o (b + x.f0) t).2 = 0) => bck_sub t o (b + x.f0) hh
  rw [bckL_cons] at h ⊢
  split
  ·rename_i c1
   rw [if_pos c1] at h
   exact h1 _ h s hs
  ·rename_i c1
   rw [if_neg c1] at h
   split
   ·rename_i c2
    rw [if_pos c2] at h
    split
    ·rename_i c3
     rw [if_pos c3] at h
     split
     ·rename_i c4
      rw [if_pos c4] at h
      exact h1 _ h s (List.mem_append_left _ hs)
     ·rename_i c4
      rw [if_neg c4] at h
      cases h
    ·rename_i c3
     rw [if_neg c3] at h
     exact h1 _ h s hs
   ·rename_i c2
    rw [if_neg c2] at h
    split
    ·rename_i c3
     rw [if_pos c3] at h
     exact h1 _ h s hs
    ·rename_i c3
     rw [if_neg c3] at h
     split
     ·rename_i c4
      rw [if_pos c4] at h
      exact h1 _ h s (List.mem_append_left _ hs)
     ·rename_i c4
      rw [if_neg c4] at h
      cases h
theorem rate_inv {x : Ed} (h1 : 0 < x.f2) (h2 : 0 < x.f3) : qq x.f3 x.f2 * qq x.f2 x.f3 = 1 := by
 unfold qq
 rw [Rat.divInt_mul_divInt, Int.mul_comm x.f2 x.f3]
 exact Rat.divInt_self' (by have := Int.mul_pos h2 h1; omega)
theorem bck_found {ms ts : Int} {q p : Rat} (hm : 0 < ms) : ∀ (l : List Ed) (out : List Spn) (b : Int), (∀ x ∈ l, Vd x) → (bckL ms ts p out b l).2 = 0 → (medL ms ts q b l).2.1 = true → qq (medL ms ts q b l).1.1 (medL ms ts q b l).1.2 = p →
  ∃ u v : Rat, spn u v ∈ (bckL ms ts p out b l).1 ∧ (tmV u).2 = 0 ∧ (tmV v).2 = 0 ∧ (u = q ∨ (u ≤ q ∧ q < v))
 | [], out, b, _, _, h, _ => by cases h
 | x :: t, out, b, hV, h, hk, hp => by
  have hv := hV x (by simp)
  have d0 := hv.d0
  have n0 := hv.n0
  have e0 := hv.e0
  have hV2 : ∀ y ∈ t, Vd y := fun y hy => hV y (by simp [hy])
  have h0t : ∀ y ∈ t, 0 ≤ y.f0 := fun y hy => by have := (hV2 y hy).d0; omega
  have l1 := (qq_lt1 (a := b) (b := b + x.f0) hm).2 (by omega)
  rw [med_cons] at hk hp
  by_cases a1 : q < qq b ms
  ·rw [if_pos a1, med_low hm t (b + x.f0) h0t (lt_le a1 (Rat.le_of_lt l1))] at hk
   cases hk
  rw [if_neg a1] at hk hp
  rw [bckL_cons] at h ⊢
  by_cases a2 : q < qq (b + x.f0) ms
  ·rw [if_pos a2] at hk hp
   unfold shV at hk hp
   by_cases c1 : x.f1 < 0
   ·rw [if_pos c1] at hk
    cases hk
   rw [if_neg c1] at hk hp h ⊢
   simp only [beq_iff_eq] at hk
   simp only at hp
   have ht := tm_ok hk
   rw [ht.2] at hp
   rw [← hp] at h ⊢
   have e1 : qq x.f1 ts + (q - qq b ms) * qq x.f2 x.f3 - qq x.f1 ts = (q - qq b ms) * qq x.f2 x.f3 := by grind
   rw [e1] at h ⊢
   by_cases c2 : x.f2 = 0
   ·rw [if_pos c2] at h ⊢
    have e2 : (q - qq b ms) * qq x.f2 x.f3 = 0 := by rw [c2, qq_zero]; grind
    rw [if_pos e2] at h ⊢
    by_cases c4 : (tmV (qq b ms)).2 = 0 ∧ (tmV (qq (b + x.f0) ms)).2 = 0
    ·rw [if_pos c4] at h ⊢
     exact ⟨_, _, bck_sub t _ _ h _ (List.mem_append_right _ (List.mem_singleton.2 rfl)), c4.1, c4.2, .inr ⟨Rat.not_lt.1 a1, a2⟩⟩
    ·rw [if_neg c4] at h
     cases h
   ·rw [if_neg c2] at h ⊢
    have ri := rate_inv (x := x) (by omega) (by omega)
    have e3 : qq b ms + (q - qq b ms) * qq x.f2 x.f3 * qq x.f3 x.f2 = q := by
     have : (q - qq b ms) * qq x.f2 x.f3 * qq x.f3 x.f2 = (q - qq b ms) * (qq x.f3 x.f2 * qq x.f2 x.f3) := by grind
     rw [this, ri]
     grind
    have r1 : 0 ≤ qq x.f2 x.f3 := Rat.not_lt.1 (qq_nonneg (by omega) (by omega))
    have r2 : 0 ≤ q - qq b ms := by
     have := Rat.not_lt.1 a1
     grind
    have r3 := Rat.mul_nonneg r2 r1
    rw [e3] at h ⊢
    rw [if_neg (fun hh => hh.elim (fun hh => Rat.not_lt.2 r3 hh) (fun hh => hh a2))] at h ⊢
    by_cases c4 : (tmV q).2 = 0
    ·rw [if_pos c4] at h ⊢
     exact ⟨q, q, bck_sub t _ _ h _ (List.mem_append_right _ (List.mem_singleton.2 rfl)), c4, c4, .inl rfl⟩
    ·rw [if_neg c4] at h
     cases h
  ·rw [if_neg a2] at hk hp
   have ih := fun o (ho : (bckL ms ts p o (b + x.f0) t).2 = 0) => bck_found hm t o (b + x.f0) hV2 ho hk hp
   split
   ·rename_i c1
    rw [if_pos c1] at h
    exact ih _ h
   ·rename_i c1
    rw [if_neg c1] at h
    split
    ·rename_i c2
     rw [if_pos c2] at h
     split
     ·rename_i c3
      rw [if_pos c3] at h
      split
      ·rename_i c4
       rw [if_pos c4] at h
       exact ih _ h
      ·rename_i c4
       rw [if_neg c4] at h
       cases h
     ·rename_i c3
      rw [if_neg c3] at h
      exact ih _ h
    ·rename_i c2
     rw [if_neg c2] at h
     split
     ·rename_i c3
      rw [if_pos c3] at h
      exact ih _ h
     ·rename_i c3
      rw [if_neg c3] at h
      split
      ·rename_i c4
       rw [if_pos c4] at h
       exact ih _ h
      ·rename_i c4
       rw [if_neg c4] at h
       cases h
theorem bckV_len (l : List Ed) (ms ts n d : Int) (hl : l.length ≤ 60) : (bckV l ms ts n d).1.length ≤ 60 := by
 unfold bckV
 split
 ·split
  ·have := bck_len ms ts (qq n d) l [] 0
   simp only [List.length_nil] at this
   omega
  ·simp
 ·simp
end Go.Proofs.Ytpbhepdgamoiaaa.Bi
namespace Go.Proofs.Ytpbhepdgamoiaaa.Fo
open Go.RowKit Go Go.Proofs.YtpbhepdgamoiaaaW.PrintWords Go.Proofs.YtpbhepdgamoiaaaW.PrintLast Go.Proofs.YtpbhepdgamoiaaaW.PrintMore Go.Proofs.Ytpbhepdgamoiaaa.Mn Go.Proofs.Ytpbhepdgamoiaaa.Rf Go.Proofs.Ytpbhepdgamoiaaa.Er Go.Proofs.Ytpbhepdgamoiaaa.Ek Go.Proofs.Ytpbhepdgamoiaaa.Et Go.Proofs.Ytpbhepdgamoiaaa.E Go.Proofs.Ytpbhepdgamoiaaa.Pe Go.Proofs.Ytpbhepdgamoiaaa.Pf Go.Proofs.Ytpbhepdgamoiaaa.Pg Go.Proofs.Ytpbhepdgamoiaaa.Qr Go.Proofs.Ytpbhepdgamoiaaa.Qn Go.Proofs.Ytpbhepdgamoiaaa.Qt Go.Proofs.Ytpbhepdgamoiaaa.Qm Go.Proofs.Ytpbhepdgamoiaaa.Nm Go.Proofs.Ytpbhepdgamoiaaa.Sw Go.Proofs.Ytpbhepdgamoiaaa.Tv Go.Proofs.Ytpbhepdgamoiaaa.Bk Go.Proofs.Ytpbhepdgamoiaaa.Bi Go.Proofs.Ytpbhepdgamoiaaa.Rcm Go.Proofs.Ytpbhepdgamoiaaa.Oe
set_option linter.unusedVariables false
set_option linter.unusedSimpArgs false
def hasT (s : Spn) (n d : Int) : Prop := ((cmpV s.f0.f0 s.f0.f1 n d).1 ≤ 0 ∧ (cmpV n d s.f1.f0 s.f1.f1).1 < 0) ∨ (cmpV s.f0.f0 s.f0.f1 n d).1 = 0
instance (s : Spn) (n d : Int) : Decidable (hasT s n d) := inferInstanceAs (Decidable (_ ∨ _))
theorem rd_get (pre : List Spn) (x : Spn) (t : List Spn) : rd_T63 (pre ++ x :: t) (pre.length : Int) = x := by
 have hE : rd_T63 (pre ++ x :: t) (pre.length : Int) = (pre ++ x :: t).getD ((pre.length : Int)).toNat z63 := rfl
 rw [hE]
 simp
theorem fnd_l (s : List Spn) (n d : Int) (hl : s.length ≤ 1000) (rest : List Spn) : ∀ pre, s = pre ++ rest → (∃ x ∈ rest, hasT x n d) → Ev (fun k => dioramalaw10_EditFound.l0 k s 0 (pre.length : Int) n d) true := by
 have aw : Ev (fun k => (dioramalaw10_awake.f k).bind fun t => (some t)) true := Ev.bind awake_f (Ev.now _)
 induction rest with
 | nil =>
  rintro pre he ⟨x, hx, _⟩
  cases hx
 | cons x t ih =>
  intro pre he hex
  have hlen : s.length = pre.length + (t.length + 1) := by rw [he]; simp
  have hx : rd_T63 s (pre.length : Int) = x := by rw [he]; exact rd_get pre x t
  have hw : wrap64 ((pre.length : Int) + 1) = ((pre ++ [x]).length : Int) := by rw [w64 (by omega) (by omega)]; simp
  refine Ev.step (fun k => by rw [dioramalaw10_EditFound.l0]) (Ev.congr (fun k => if_pos (by omega)) ?_)
  refine Ev.step (fun k => by rw [dioramalaw10_EditFound.j2]) (Ev.congr (fun k => if_pos (show ((0 : Int) == 0) = true from rfl)) (Ev.congr (fun k => if_pos (by omega)) (Ev.congr (fun k => if_pos (by omega)) ?_)))
  unfold dioramaref02_Cmp.f
  rw [hx, hw]
  simp only [Option.bind_some]
  have nx : ¬ hasT x n d → Ev (fun k => dioramalaw10_EditFound.l0 k s 0 ((pre ++ [x]).length : Int) n d) true := by
   intro hn
   refine ih (pre ++ [x]) (by rw [he]; simp) ?_
   obtain ⟨y, hy, hyt⟩ := hex
   rcases List.mem_cons.1 hy with rfl | hy
   ·exact absurd hyt hn
   ·exact ⟨y, hy, hyt⟩
  by_cases c1 : (cmpV x.f0.f0 x.f0.f1 n d).1 ≤ 0
  ·refine Ev.congr (fun k => if_pos c1) ?_
   by_cases c2 : (cmpV n d x.f1.f0 x.f1.f1).1 < 0
   ·exact Ev.congr (fun k => if_pos c2) aw
   ·refine Ev.congr (fun k => if_neg c2) ?_
    by_cases c3 : (cmpV x.f0.f0 x.f0.f1 n d).1 = 0
    ·exact Ev.congr (fun k => if_pos c3) aw
    ·refine Ev.congr (fun k => if_neg c3) (nx ?_)
     rintro (h | h)
     ·exact c2 h.2
     ·exact c3 h
  ·refine Ev.congr (fun k => if_neg c1) ?_
   by_cases c3 : (cmpV x.f0.f0 x.f0.f1 n d).1 = 0
   ·exact Ev.congr (fun k => if_pos c3) aw
   ·refine Ev.congr (fun k => if_neg c3) (nx ?_)
    rintro (h | h)
    ·exact c1 h.1
    ·exact c3 h
theorem medV_up {l : List Ed} {ms ts n d : Int} (h : (medV l ms ts n d).2.1 = true) : chk l ms ts = 0 ∧ Ea.valid n d = true ∧ medV l ms ts n d = medL ms ts (qq n d) 0 l := by
 unfold medV at h ⊢
 by_cases h0 : chk l ms ts = 0
 ·rw [if_pos h0] at h ⊢
  by_cases h1 : Ea.valid n d = true
  ·rw [if_pos h1] at h ⊢
   exact ⟨h0, h1, rfl⟩
  ·rw [if_neg h1] at h
   cases h
 ·rw [if_neg h0] at h
  cases h
theorem med_valid (ms ts : Int) (q : Rat) : ∀ (l : List Ed) (b : Int), (medL ms ts q b l).2.1 = true → Ea.valid (medL ms ts q b l).1.1 (medL ms ts q b l).1.2 = true
 | [], b, h => by cases h
 | x :: t, b, h => by
  rw [med_cons] at h ⊢
  split
  ·rename_i c
   rw [if_pos c] at h
   exact med_valid ms ts q t _ h
  ·rename_i c
   rw [if_neg c] at h
   split
   ·rename_i c2
    rw [if_pos c2] at h
    unfold shV at h ⊢
    split
    ·rename_i c3
     rw [if_pos c3] at h
     cases h
    ·rename_i c3
     rw [if_neg c3] at h
     simp only [beq_iff_eq] at h
     exact (tm_ok h).1
   ·rename_i c2
    rw [if_neg c2] at h
    exact med_valid ms ts q t _ h
theorem pure_Fo (l : List Ed) (ms ts n d : Int) : Ev (fun k => dioramalaw10_EditFound.f k l ms ts n d) true := by
 have aw : Ev (fun k => (dioramalaw10_awake.f k).bind fun t => (some t)) true := Ev.bind awake_f (Ev.now _)
 have off : ∀ a b, Ev (fun k => dioramalaw10_EditFound.j0 k true l ms ts n d a b) true := fun a b =>
  Ev.step (fun k => by rw [dioramalaw10_EditFound.j0]) (Ev.congr (fun k => if_pos rfl) aw)
 refine Ev.congr (f := fun k => if 60 < l.length then ((dioramalaw10_awake.f k).bind fun t => (some t)) else (if (medV l ms ts n d).2.1 = true then (dioramalaw10_EditFound.j0 k ((medV l ms ts n d).2.2 != 0) l ms ts n d (medV l ms ts n d).1.1 (medV l ms ts n d).1.2) else (dioramalaw10_EditFound.j0 k true l ms ts n d (medV l ms ts n d).1.1 (medV l ms ts n d).1.2))) (fun k => ?_) ?_
 ·unfold dioramalaw10_EditFound.f edit_Media.f
  rw [many_f]
  simp only [Option.bind_some, decide_eq_true_eq]
 by_cases h1 : 60 < l.length
 ·exact Ev.congr (fun k => if_pos h1) aw
 refine Ev.congr (fun k => if_neg h1) ?_
 by_cases h2 : (medV l ms ts n d).2.1 = true
 ·refine Ev.congr (fun k => if_pos h2) ?_
  obtain ⟨hk, hv, he⟩ := medV_up h2
  obtain ⟨hc, hl, hV, hs⟩ := chk_ok.1 hk
  by_cases h3 : (medV l ms ts n d).2.2 = 0
  ·rw [show ((medV l ms ts n d).2.2 != 0) = false by rw [h3]; rfl]
   refine Ev.step (fun k => by rw [dioramalaw10_EditFound.j0]) (Ev.congr (fun k => if_neg (by decide)) ?_)
   unfold edit_Back.f
   simp only [Option.bind_some]
   by_cases h4 : (bckV l ms ts (medV l ms ts n d).1.1 (medV l ms ts n d).1.2).2 = 2
   ·exact Ev.congr (fun k => if_pos h4) aw
   ·refine Ev.congr (fun k => if_neg h4) ?_
    have hlen := bckV_len l ms ts (medV l ms ts n d).1.1 (medV l ms ts n d).1.2 (by omega)
    rw [he] at h2 h4 hlen ⊢
    have hv2 := med_valid ms ts (qq n d) l 0 h2
    have hB : bckV l ms ts (medL ms ts (qq n d) 0 l).1.1 (medL ms ts (qq n d) 0 l).1.2 = bckL ms ts (qq (medL ms ts (qq n d) 0 l).1.1 (medL ms ts (qq n d) 0 l).1.2) [] 0 l := by
     unfold bckV
     rw [if_pos hk, if_pos hv2]
    rw [hB] at h4 hlen ⊢
    have h0 : (bckL ms ts (qq (medL ms ts (qq n d) 0 l).1.1 (medL ms ts (qq n d) 0 l).1.2) [] 0 l).2 = 0 := (bck_err _ _ _ _ _ _).resolve_right h4
    obtain ⟨u, v, hm, hu, hvv, hq⟩ := bck_found (by have := hc.m0; omega) l [] 0 hV h0 h2 rfl
    rw [h0]
    refine fnd_l _ n d (by omega) _ [] rfl ⟨_, hm, ?_⟩
    obtain ⟨a1, a2⟩ := tm_ok hu
    obtain ⟨b1, b2⟩ := tm_ok hvv
    have e1 : (cmpV (tmV u).1.1 (tmV u).1.2 n d).1 = cmpQ u (qq n d) := by
     unfold cmpV
     rw [if_pos ⟨a1, hv⟩, a2]
    have e2 : (cmpV n d (tmV v).1.1 (tmV v).1.2).1 = cmpQ (qq n d) v := by
     unfold cmpV
     rw [if_pos ⟨hv, b1⟩, b2]
    unfold hasT spn
    simp only
    rw [e1, e2]
    rcases hq with h | ⟨h5, h6⟩
    ·right
     rw [h]
     unfold cmpQ
     rw [if_neg Rat.lt_irrefl, if_neg Rat.lt_irrefl]
    ·left
     constructor
     ·unfold cmpQ
      split
      ·decide
      ·rw [if_neg (Rat.not_lt.2 h5)]
       decide
     ·unfold cmpQ
      rw [if_pos h6]
      decide
  ·rw [show ((medV l ms ts n d).2.2 != 0) = true by simpa using h3]
   exact off _ _
 ·exact Ev.congr (fun k => if_neg h2) (off _ _)
theorem walk_Fo (a : Option Addr) (len c : Nat) (l : List Ed) (ms ts n d : Int) (w : World) (h : Eds w a len c l) (_ : (Lit.int .i64 ms).wf = true) (_ : (Lit.int .i64 ts).wf = true) (_ : (Lit.int .i64 n).wf = true) (_ : (Lit.int .i64 d).wf = true) :
  Calls Try.prog 14 #[.agg #[.slice a len c, .int .i64 ms, .int .i64 ts], .agg #[.int .i64 n, .int .i64 d]] w (fun e w' => e = .returned (.bool true) ∧ Below w.heap.size w w') := by
 obtain ⟨k, hk⟩ := (pure_Fo l ms ts n d).rounds
 rw [← h.n]
 exact dioramalaw10_EditFound.calls k a c l ms ts n d true w h.c h.h hk
end Go.Proofs.Ytpbhepdgamoiaaa.Fo

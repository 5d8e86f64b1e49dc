/-
  Printed walks.
-/
import Derived.Test.YtpbhepdgamoiaaaQREditChainsa
import Derived.Test.YtpbhepdgamoiaaaQREditChainsd
import Derived.Test.YtpbhepdgamoiaaaQREditChainse
import Derived.Test.YtpbhepdgamoiaaaQREditChainsf
import Derived.Test.YtpbhepdgamoiaaaQREditChainsg
import Derived.Test.YtpbhepdgamoiaaaQREditChainsc
import Derived.Test.YtpbhepdgamoiaaaQREditChainsh
namespace Go.Proofs.Ytpbhepdgamoiaaa.E
open Go.Proofs.Ytpbhepdgamoiaaa.Z Go.RowKit Go.Proofs.YtpbhepdgamoiaaaW.PrintWords Go.Proofs.YtpbhepdgamoiaaaW.PrintLast Go.Proofs.YtpbhepdgamoiaaaW.PrintMore
attribute [local go_sem] max2_int min2_int max_two min_two max_three min_three max_four min_four
set_option linter.unusedVariables false
set_option linter.unusedSimpArgs false
mutual
def dioramalaw10_EditChains.j0 : Nat → List (S77) → Bool → List (S77) → Int → Int → Int → Int → Option (Bool)
  | 0, _, _, _, _, _, _, _ => none
  | k + 1, x1, x30, x1167000, x1167001, x1167002, x1168000, x1168001 => if x30 = true then ((dioramalaw10_awake.f k).bind fun t1171 => (some t1171)) else ((edit_Join.f x1167000 x1 x1167001 x1167002).bind fun bt1172 => ((edit_Repeat.f x1167000 x1167001 x1167002 3).bind fun bt1176 => ((edit_Length.f x1167000).bind fun t1180 => ((dioramaref02_From.f k t1180 x1167001).bind fun bt1181 => (if bt1181.2.2 = 0 then ((dioramaref02_Sub.f k x1168000 x1168001 bt1181.1 bt1181.2.1).bind fun bt1186 => (if bt1186.2.2 = 0 then (if bt1172.2 = 0 then (if bt1186.1 < 0 then ((dioramalaw10_shows.f bt1172.1 x1167001 x1167002 x1168000 x1168001 x1167000 x1167001 x1167002 x1168000 x1168001).bind fun t1192 => (dioramalaw10_EditChains.j1 k x1 bt1176.1 bt1176.2 (!t1192) x1167000 x1167001 x1167002 x1168000 x1168001 bt1186.1 bt1186.2.1 bt1172.1 x1167001 x1167002)) else (dioramalaw10_EditChains.j1 k x1 bt1176.1 bt1176.2 false x1167000 x1167001 x1167002 x1168000 x1168001 bt1186.1 bt1186.2.1 bt1172.1 x1167001 x1167002)) else (dioramalaw10_EditChains.j2 k bt1176.1 bt1176.2 x1167000 x1167001 x1167002 x1168000 x1168001 bt1186.1 bt1186.2.1)) else ((dioramalaw10_awake.f k).bind fun t1190 => (some t1190)))) else ((dioramalaw10_awake.f k).bind fun t1185 => (some t1185)))))))
def dioramalaw10_EditChains.j2 : Nat → List (S77) → Int → List (S77) → Int → Int → Int → Int → Int → Int → Option (Bool)
  | 0, _, _, _, _, _, _, _, _, _ => none
  | k + 1, x9, x10, x1167000, x1167001, x1167002, x1168000, x1168001, x1190000, x1190001 => if x10 = 0 then (if x1190000 < 0 then ((dioramalaw10_shows.f x9 x1167001 x1167002 x1168000 x1168001 x1167000 x1167001 x1167002 x1168000 x1168001).bind fun t1195 => (dioramalaw10_EditChains.j3 k x9 (!t1195) x1167000 x1167001 x1167002 x1168000 x1168001 x1190000 x1190001 x9 x1167001 x1167002)) else (dioramalaw10_EditChains.j3 k x9 false x1167000 x1167001 x1167002 x1168000 x1168001 x1190000 x1190001 x9 x1167001 x1167002)) else ((dioramalaw10_awake.f k).bind fun t1206 => (some t1206))
def dioramalaw10_EditChains.j3 : Nat → List (S77) → Bool → List (S77) → Int → Int → Int → Int → Int → Int → List (S77) → Int → Int → Option (Bool)
  | 0, _, _, _, _, _, _, _, _, _, _, _, _ => none
  | k + 1, x9, x127, x1167000, x1167001, x1167002, x1168000, x1168001, x1190000, x1190001, x1195000, x1195001, x1195002 => if x127 = true then (some false) else (if x1190000 ≥ 0 then ((edit_Length.f x9).bind fun t1196 => ((edit_Length.f x1167000).bind fun t1197 => (dioramalaw10_EditChains.j4 k (t1196 != (wrap64 (3 * t1197))) x1167000 x1167001 x1167002 x1168000 x1168001 x1190000 x1190001 x1195000 x1195001 x1195002))) else (dioramalaw10_EditChains.j4 k false x1167000 x1167001 x1167002 x1168000 x1168001 x1190000 x1190001 x1195000 x1195001 x1195002))
def dioramalaw10_EditChains.j4 : Nat → Bool → List (S77) → Int → Int → Int → Int → Int → Int → List (S77) → Int → Int → Option (Bool)
  | 0, _, _, _, _, _, _, _, _, _, _, _ => none
  | k + 1, x139, x1167000, x1167001, x1167002, x1168000, x1168001, x1190000, x1190001, x1195000, x1195001, x1195002 => if x139 = true then (some false) else ((edit_Repeat.f x1167000 x1167001 x1167002 2).bind fun bt1198 => (if x1190000 ≥ 0 then (if bt1198.2 = 0 then ((dioramalaw10_shows.f x1195000 x1195001 x1195002 x1168000 x1168001 bt1198.1 x1167001 x1167002 x1190000 x1190001).bind fun t1202 => (if t1202 = true then ((dioramalaw10_awake.f k).bind fun t1203 => (some t1203)) else (some false))) else ((dioramalaw10_awake.f k).bind fun t1204 => (some t1204))) else ((dioramalaw10_awake.f k).bind fun t1205 => (some t1205))))
def dioramalaw10_EditChains.j1 : Nat → List (S77) → List (S77) → Int → Bool → List (S77) → Int → Int → Int → Int → Int → Int → List (S77) → Int → Int → Option (Bool)
  | 0, _, _, _, _, _, _, _, _, _, _, _, _, _, _ => none
  | k + 1, x1, x9, x10, x92, x1167000, x1167001, x1167002, x1168000, x1168001, x1190000, x1190001, x1192000, x1192001, x1192002 => if x92 = true then (some false) else (if x1190000 ≥ 0 then ((dioramalaw10_shows.f x1192000 x1192001 x1192002 x1168000 x1168001 x1 x1167001 x1167002 x1190000 x1190001).bind fun t1193 => (if t1193 = true then (dioramalaw10_EditChains.j2 k x9 x10 x1167000 x1167001 x1167002 x1168000 x1168001 x1190000 x1190001) else (some false))) else (dioramalaw10_EditChains.j2 k x9 x10 x1167000 x1167001 x1167002 x1168000 x1168001 x1190000 x1190001))
end
def dioramalaw10_EditChains.f (k : Nat) (l0_0 : List (S77)) (a0_1 : Int) (a0_2 : Int) (l1 : List (S77)) (a2_0 : Int) (a2_1 : Int) : Option (Bool) := (dioramalaw10_many.f l0_0).bind fun t1168 => (if t1168 = true then (dioramalaw10_EditChains.j0 k l1 true l0_0 a0_1 a0_2 a2_0 a2_1) else ((dioramalaw10_many.f l1).bind fun t1169 => (if t1169 = true then (dioramalaw10_EditChains.j0 k l1 true l0_0 a0_1 a0_2 a2_0 a2_1) else ((dioramaref02_Valid.f a2_0 a2_1).bind fun t1170 => (dioramalaw10_EditChains.j0 k l1 (!t1170) l0_0 a0_1 a0_2 a2_0 a2_1)))))
set_option maxHeartbeats 8000000 in
set_option maxRecDepth 100000 in
theorem dioramalaw10_EditChains.calls (k : Nat) (A0_0 : Option Addr) (c0_0 : Nat) (l0_0 : List (S77)) (a0_1 : Int) (a0_2 : Int) (A1 : Option Addr) (c1 : Nat) (l1 : List (S77)) (a2_0 : Int) (a2_1 : Int) (r : Bool) (w : World) (hr0_0 : Kd.C k77 w A0_0 l0_0.length l0_0) (hc0_0 : l0_0.length ≤ c0_0) (hr1 : Kd.C k77 w A1 l1.length l1) (hc1 : l1.length ≤ c1) (h : dioramalaw10_EditChains.f k l0_0 a0_1 a0_2 l1 a2_0 a2_1 = some r) :
  Calls Try.prog 18 #[.agg #[.slice A0_0 l0_0.length c0_0, .int .i64 a0_1, .int .i64 a0_2], .slice A1 l1.length c1, .agg #[.int .i64 a2_0, .int .i64 a2_1]] w fun e w' => e = .returned (.bool r) ∧ Below w.heap.size w w' := by
 have hu24 := Try.underlying24; have hu37 := Try.underlying37; have HR0_0 := Aside0.mk hr0_0; have HC0_0 := Aside0.mk hc0_0; clear hr0_0 hc0_0; have HR1 := Aside0.mk hr1; have HC1 := Aside0.mk hc1; clear hr1 hc1; have HB := Aside0.mk (Below.refl w.heap.size w); have H : ((dioramalaw10_many.f l0_0).bind fun t1168 => (if t1168 = true then (dioramalaw10_EditChains.j0 k l1 true l0_0 a0_1 a0_2 a2_0 a2_1) else ((dioramalaw10_many.f l1).bind fun t1169 => (if t1169 = true then (dioramalaw10_EditChains.j0 k l1 true l0_0 a0_1 a0_2 a2_0 a2_1) else ((dioramaref02_Valid.f a2_0 a2_1).bind fun t1170 => (dioramalaw10_EditChains.j0 k l1 (!t1170) l0_0 a0_1 a0_2 a2_0 a2_1)))))) = some r := h
 clear h; have HC4 := Aside0.mk H; clear H
 go_enter Try.func18, Try.ntmps18
 go_upto_region 1 with (first | ((with_reducible refine gate_dst (N := 3) rfl ?_); refine zB 3 24 #[.slice A0_0 l0_0.length c0_0, .int .i64 a0_1, .int .i64 a0_2] ?_; intro gb1166 hg w5 hbox hb; have BK1166 := Aside0.mk hbox; have GW1166 := gz hg; have GE1166 := gz hg; replace HB := bp hb; clear hb hbox hg) | ((with_reducible refine gate_dst (N := 5) rfl ?_); refine zB 5 37 #[.int .i64 a2_0, .int .i64 a2_1] ?_; intro gb1167 hg w6 hbox hb; have BK1167 := Aside0.mk hbox; have GW1167 := gz hg; have GE1167 := gz hg; replace HB := bp hb; have NB1166_1167 := Aside0.mk ((by rw [hg]; exact Nat.ne_of_lt (bl BK1166) : gb1166 ≠ gb1167)); have NB1167_1166 := Aside0.mk ((by rw [hg]; exact Nat.ne_of_gt (bl BK1166) : gb1167 ≠ gb1166)); replace BK1166 := kb BK1166 hb; clear hb hbox hg))
 (try simp only [Act.put, List.setIfInBounds_toArray, List.set_cons_zero, List.set_cons_succ])
 go_cut [30] (fun v30 wc => ∃ (kq : Nat) (x30_3 : Bool), v30 = .bool x30_3 ∧ Aside0 (dioramalaw10_EditChains.j0 kq l1 x30_3 l0_0 a0_1 a0_2 a2_0 a2_1 = some r) ∧ Aside0 (kq ≤ k) ∧ Aside0 (wc.heap[gb1166]? = some (.cells #[(.slice A0_0 l0_0.length c0_0), .int .i64 a0_1, .int .i64 a0_2] 24 (0, 0))) ∧ Aside0 (wc.heap[gb1167]? = some (.cells #[.int .i64 a2_0, .int .i64 a2_1] 37 (0, 0))) ∧ Aside0 (Below w.heap.size w wc))
 case first =>
  have H := HC4.out; clear HC4; obtain ⟨t1168, A7, H⟩ := ob H
  by_cases c8 : t1168 = true
  ·subst c8; rw [if_pos rfl] at H; have H' := Aside0.mk H; clear H; have hnb9 := NB1166_1167.out; have hnc9 := NB1167_1166.out; obtain ⟨hcz10_0, hcz10_1, hcz10_2, hfz10_0, hfz10_1, hfz10_2⟩ := xc3 BK1166
   go_wp2_with (first | ((with_reducible refine gate_callee (f := 19) rfl ?_); refine zC 21 Try.func19 #[.slice A0_0 l0_0.length c0_0] ?_; (with_reducible refine (dioramalaw10_many.calls _ _ l0_0 true _ ?side1 ?side2 A7.out).mono ?_); (case side1 => exact cz HR0_0); (case side2 => exact HC0_0.out); rintro e w' ⟨rfl, ⟨nd, rfl⟩⟩; refine ⟨_, rfl, ?_⟩))
   go_meet
   case rel => exact ⟨_, (true), jz, H', ⟨by first | omega | exact Nat.le_refl _⟩, ⟨kz⟩, ⟨kz⟩, ⟨bz⟩⟩
  ·obtain rfl := bf c8; rw [if_neg (show ¬ (false = true) by decide)] at H; obtain ⟨t1169, A11, H⟩ := ob H
   by_cases c12 : t1169 = true
   ·subst c12; rw [if_pos rfl] at H; have H' := Aside0.mk H; clear H; have hnb13 := NB1166_1167.out; have hnc13 := NB1167_1166.out; obtain ⟨hcz14_0, hcz14_1, hcz14_2, hfz14_0, hfz14_1, hfz14_2⟩ := xc3 BK1166
    go_wp2_with (first | ((with_reducible refine gate_callee (f := 19) rfl ?_); refine zC 21 Try.func19 #[.slice A0_0 l0_0.length c0_0] ?_; (with_reducible refine (dioramalaw10_many.calls _ _ l0_0 false _ ?side1 ?side2 A7.out).mono ?_); (case side1 => exact cz HR0_0); (case side2 => exact HC0_0.out); rintro e w' ⟨rfl, ⟨nd, rfl⟩⟩; refine ⟨_, rfl, ?_⟩) | (go_at_call 19; (with_reducible refine (dioramalaw10_many.calls _ _ l1 true _ ?side1 ?side2 A11.out).mono ?_); (case side1 => repeat (first | exact (Kd.C_below HR1.out bz) | (with_reducible refine Kd.C_alloc ?_ _) | (with_reducible refine Kd.C_drewN ?_ _) | (with_reducible refine Kd.C_drew ?_))); (case side2 => exact HC1.out); rintro e w' ⟨rfl, ⟨nd, rfl⟩⟩))
    go_meet
    case rel => exact ⟨_, (true), jz, H', ⟨by first | omega | exact Nat.le_refl _⟩, ⟨kz⟩, ⟨kz⟩, ⟨bz⟩⟩
   ·obtain rfl := bf c12; rw [if_neg (show ¬ (false = true) by decide)] at H; obtain ⟨t1170, A15, H⟩ := ob H; have H' := Aside0.mk H; clear H; have hnb16 := NB1166_1167.out; have hnc16 := NB1167_1166.out; obtain ⟨hcz17_0, hcz17_1, hcz17_2, hfz17_0, hfz17_1, hfz17_2⟩ := xc3 BK1166
    go_wp2_with (first | ((with_reducible refine gate_callee (f := 19) rfl ?_); refine zC 21 Try.func19 #[.slice A0_0 l0_0.length c0_0] ?_; (with_reducible refine (dioramalaw10_many.calls _ _ l0_0 false _ ?side1 ?side2 A7.out).mono ?_); (case side1 => exact cz HR0_0); (case side2 => exact HC0_0.out); rintro e w' ⟨rfl, ⟨nd, rfl⟩⟩; refine ⟨_, rfl, ?_⟩) | (go_at_call 19; (with_reducible refine (dioramalaw10_many.calls _ _ l1 false _ ?side1 ?side2 A11.out).mono ?_); (case side1 => repeat (first | exact (Kd.C_below HR1.out bz) | (with_reducible refine Kd.C_alloc ?_ _) | (with_reducible refine Kd.C_drewN ?_ _) | (with_reducible refine Kd.C_drew ?_))); (case side2 => exact HC1.out); rintro e w' ⟨rfl, ⟨nd, rfl⟩⟩; obtain ⟨hcz18_0, hcz18_1, hfz18_0, hfz18_1⟩ := xc2 BK1167) | (go_at_call 35; (with_reducible refine (dioramaref02_Valid.calls a2_0 a2_1 t1170 _ A15.out).mono ?_); rintro e w19 ⟨rfl, hb⟩; replace BK1166 := kb BK1166 hb; replace BK1167 := kb BK1167 hb; replace HB := bp hb; clear hb))
    go_meet
    case rel => exact ⟨_, (!t1170), jz, H', ⟨by first | omega | exact Nat.le_refl _⟩, ⟨kz⟩, ⟨kz⟩, ⟨bz⟩⟩
 case rest =>
  clear HC4
  try clear c1
  try clear p2
  try clear c8
  try clear c9
  try clear c12
  try clear c13
  try clear c16
  try clear c18
  try clear c19
  try clear hcz10_0
  try clear hcz10_1
  try clear hcz10_2
  try clear hcz14_0
  try clear hcz14_1
  try clear hcz14_2
  try clear hcz17_0
  try clear hcz17_1
  try clear hcz17_2
  try clear hcz18_0
  try clear hcz18_1
  try clear hfz10_0
  try clear hfz10_1
  try clear hfz10_2
  try clear hfz14_0
  try clear hfz14_1
  try clear hfz14_2
  try clear hfz17_0
  try clear hfz17_1
  try clear hfz17_2
  try clear hfz18_0
  try clear hfz18_1
  obtain ⟨kq, x30_3, rfl, HA, HJ3, BK1166, BK1167, HB⟩ := hcut
  cases kq with
  | zero => exact absurd HA.out (by simp [dioramalaw10_EditChains.j0])
  | succ kj3 =>
   have H := HA.out; clear HA; simp only [dioramalaw10_EditChains.j0] at H
   by_cases c20 : x30_3 = true
   ·subst c20; rw [if_pos rfl] at H; obtain ⟨t1171, A21, H⟩ := ob H; obtain rfl := Option.some.inj H
    go_wp2_with (first | ((with_reducible refine gate_callee (f := 20) rfl ?_); refine zC 31 Try.func20 #[] ?_; (with_reducible refine (dioramalaw10_awake.calls kj3  t1171 _ A21.out).mono ?_); rintro e w22 ⟨rfl, hb⟩; refine ⟨_, rfl, ?_⟩; replace BK1166 := kb BK1166 hb; replace BK1167 := kb BK1167 hb; replace HB := bp hb; clear hb))
    go_ret
    exact ⟨ez, bz⟩
   ·obtain rfl := bf c20; rw [if_neg (show ¬ (false = true) by decide)] at H; obtain ⟨⟨t1172, t1173⟩, A23, H⟩ := ob H
    (try dsimp only at H)
    obtain ⟨⟨t1176, t1177⟩, A24, H⟩ := ob H
    (try dsimp only at H)
    obtain ⟨t1180, A25, H⟩ := ob H; obtain ⟨⟨t1181, t1182, t1183⟩, A26, H⟩ := ob H
    (try dsimp only at H)
    by_cases c27 : t1183 = 0
    ·rw [if_pos c27] at H; have c27b0 : (t1183 == 0) = true := beq_iff_eq.mpr c27; have c27b1 : (t1183 != 0) = false := bne_eq_false_iff_eq.mpr c27; clear c27; obtain ⟨⟨t1186, t1187, t1188⟩, A28, H⟩ := ob H
     (try dsimp only at H)
     by_cases c29 : t1188 = 0
     ·rw [if_pos c29] at H; have c29b0 : (t1188 == 0) = true := beq_iff_eq.mpr c29; have c29b1 : (t1188 != 0) = false := bne_eq_false_iff_eq.mpr c29; clear c29; have HC30 := Aside0.mk H; clear H; have hnb31 := NB1166_1167.out; have hnc31 := NB1167_1166.out; obtain ⟨hcz32_0, hcz32_1, hcz32_2, hfz32_0, hfz32_1, hfz32_2⟩ := xc3 BK1166
      try go_wp2_with (first | ((with_reducible refine gate_callee (f := 48) rfl ?_); refine zC 40 Try.func48 #[.slice A0_0 l0_0.length c0_0, .slice A1 l1.length c1, .int .i64 a0_1, .int .i64 a0_2] ?_; (with_reducible refine (edit_Join.calls _ _ l0_0 _ _ l1 a0_1 a0_2 t1172 t1173 _ ?side1 ?side2 ?side3 ?side4 A23.out).mono ?_); (case side1 => exact cz HR0_0); (case side2 => exact HC0_0.out); (case side3 => exact cz HR1); (case side4 => exact HC1.out); rintro e w33 ⟨v1174, rfl, ho0, hb⟩; refine ⟨_, rfl, ?_⟩; have HO1175 := Aside0.mk (Kd.R_lower ho0 sz); replace BK1166 := kb BK1166 hb; replace BK1167 := kb BK1167 hb; replace HB := bp hb; clear hb ho0; obtain ⟨hcz34_0, hcz34_1, hcz34_2, hfz34_0, hfz34_1, hfz34_2⟩ := xc3 BK1166) | ((with_reducible refine gate_callee (f := 50) rfl ?_); refine zC 50 Try.func50 #[.slice A0_0 l0_0.length c0_0, .int .i64 a0_1, .int .i64 a0_2, .int .i64 3] ?_; (with_reducible refine (edit_Repeat.calls _ _ l0_0 a0_1 a0_2 3 t1176 t1177 _ ?side1 ?side2 A24.out).mono ?_); (case side1 => exact cz HR0_0); (case side2 => exact HC0_0.out); rintro e w35 ⟨v1178, rfl, ho0, hb⟩; refine ⟨_, rfl, ?_⟩; have HO1179 := Aside0.mk (Kd.R_lower (Kd.R_new' ho0 (Kd.R_lt (rz HO1175))) sz); replace HO1175 := Aside0.mk (Kd.R_elder' (rz HO1175) (Kd.R_base ho0) hb); replace BK1166 := kb BK1166 hb; replace BK1167 := kb BK1167 hb; replace HB := bp hb; clear hb ho0))
      replace HO1175 := Aside0.mk (Kd.R_drew HO1175.out); replace HO1179 := Aside0.mk (Kd.R_drew HO1179.out); replace BK1166 := Aside0.mk (blk_drew BK1166.out); replace BK1167 := Aside0.mk (blk_drew BK1167.out); replace HB := Aside0.mk (below_drew1 HB.out); refine start_ (n := 12) (S := fun w' => w'.cell? ⟨gb1166, 0, none⟩ = some (.slice A0_0 l0_0.length c0_0) ∧ w'.cell? ⟨gb1166, 1, none⟩ = some (.int .i64 a0_1) ∧ w'.cell? ⟨gb1166, 2, none⟩ = some (.int .i64 a0_2)) (ds := []) (bs 12 0) (by kernel_rfl) rfl rfl ⟨ct BK1166 0, ct BK1166 1, ct BK1166 2⟩ (fun hHeld => ?_)
      generalize w35.drew = w36 at HO1175 HO1179 BK1166 BK1167 HB hHeld ⊢; refine zP 0 54 12 1 ?_; refine zP 3 57 12 9 ?_; refine zT 1 55 12 11 hHeld ?_; refine zT 4 58 12 27 hHeld ?_; refine join_ (σ := Nat) 2 (bs 12 1023) (fun s_ => [(56, .int .i64 t1180), (59, .tuple #[.agg #[.int .i64 t1181, .int .i64 t1182], .int .i64 t1183]), (11, .pointer (some ⟨s_, 0, none⟩)), (53, .tuple #[.agg #[.int .i64 t1181, .int .i64 t1182], .int .i64 t1183]), (60, .agg #[.int .i64 t1181, .int .i64 t1182]), (61, .int .i64 t1183)]) (fun s_ w' => (w'.cell? ⟨gb1166, 0, none⟩ = some (.slice A0_0 l0_0.length c0_0) ∧ w'.cell? ⟨gb1166, 1, none⟩ = some (.int .i64 a0_1) ∧ w'.cell? ⟨gb1166, 2, none⟩ = some (.int .i64 a0_2)) ∧ (Kd.R k77 77 w' w.heap.size (fun k_ => some k_ ≠ (v1178 : Value).ownBlock) v1174 t1172) ∧ (Kd.R k77 77 w' w.heap.size (fun k_ => some k_ ≠ (v1174 : Value).ownBlock) v1178 t1176) ∧ (w'.heap[gb1166]? = some (.cells #[.slice A0_0 l0_0.length c0_0, .int .i64 a0_1, .int .i64 a0_2] 24 (0, 0))) ∧ (w'.heap[gb1167]? = some (.cells #[.int .i64 a2_0, .int .i64 a2_1] 37 (0, 0))) ∧ (w'.heap[s_]? = some (.cells #[.int .i64 0, .int .i64 0] 37 (0, 0))) ∧ (w.heap.size ≤ s_) ∧ (w.heap.size ≤ s_) ∧ (gb1166 ≠ s_) ∧ (s_ ≠ gb1166) ∧ (gb1167 ≠ s_) ∧ (s_ ≠ gb1167) ∧ (Below w.heap.size w w')) ?_ ?_
      rotate_left
      ·intro hCont; refine two_ (i := 2) (j := 9) (Ni := some 56) (Nj := some 11) (bs 12 31) (bs 12 539) rfl rfl rfl rfl (by kernel_rfl) (by decide) (by decide) (fun K hK => ?_) (fun K hK => ?_)
       ·skip
        refine zG Try.func26 #[.slice A0_0 l0_0.length c0_0] ?_
        with_reducible refine (edit_Length.calls _ _ l0_0 t1180 _ ?side1 ?side2 A25.out).mono ?_
        (case side1 => exact cz HR0_0)
        (case side2 => exact HC0_0.out)
        rintro e w37 ⟨rfl, hb⟩; refine ⟨_, rfl, ?_⟩; replace HO1175 := Aside0.mk (Kd.R_below (rz HO1175) hb); replace HO1179 := Aside0.mk (Kd.R_below (rz HO1179) hb); replace BK1166 := kb BK1166 hb; replace BK1167 := kb BK1167 hb; replace HB := bp hb; clear hb; refine hK.out _ _ ⟨ct BK1166 0, ct BK1166 1, ct BK1166 2⟩ (fun hHeld => ?_); clear hK K; refine zM 56 ?_; refine two_ (i := 5) (j := 9) (Ni := some 59) (Nj := some 11) (bs 12 63) (bs 12 543) rfl rfl rfl rfl (by kernel_rfl) (by decide) (by decide) (fun K hK => ?_) (fun K hK => ?_)
        ·skip
         refine zG Try.func43 #[.int .i64 t1180, .int .i64 a0_1] ?_
         with_reducible refine (dioramaref02_From.calls kj3 t1180 a0_1 t1181 t1182 t1183 _ A26.out).mono ?_
         rintro e w38 ⟨rfl, hb⟩; refine ⟨_, rfl, ?_⟩; replace HO1175 := Aside0.mk (Kd.R_below (rz HO1175) hb); replace HO1179 := Aside0.mk (Kd.R_below (rz HO1179) hb); replace BK1166 := kb BK1166 hb; replace BK1167 := kb BK1167 hb; replace HB := bp hb; clear hb; refine hK.out _ _ ⟨ct BK1166 0, ct BK1166 1, ct BK1166 2⟩ (fun hHeld => ?_); clear hK K; refine zM 59 ?_; refine zP 6 53 12 127 ?_; refine zP 7 60 12 255 ?_; refine zP 8 61 12 511 ?_; refine zN 9 (some 11) 12 1023 (fun K hK => ?_); refine box_step ?hg (N := 11) ?hd (cs := #[.int .i64 0, .int .i64 0]) (t := 37) ?hr ?_; (case hd => rfl); (case hg => rfl); (case hr => first | (go_simp; done) | (go_simp; rfl))
         intro gb1184 hg w39 hbox hb; replace HO1175 := Aside0.mk (Kd.R_below (rz HO1175) hb); replace HO1179 := Aside0.mk (Kd.R_below (rz HO1179) hb); have BK1184 := Aside0.mk hbox; have GW1184 := gz hg; have GE1184 := gz hg; replace HB := bp hb; have NB1166_1184 := Aside0.mk ((by rw [hg]; exact Nat.ne_of_lt (bl BK1166) : gb1166 ≠ gb1184)); have NB1184_1166 := Aside0.mk ((by rw [hg]; exact Nat.ne_of_gt (bl BK1166) : gb1184 ≠ gb1166)); replace BK1166 := kb BK1166 hb; have NB1167_1184 := Aside0.mk ((by rw [hg]; exact Nat.ne_of_lt (bl BK1167) : gb1167 ≠ gb1184)); have NB1184_1167 := Aside0.mk ((by rw [hg]; exact Nat.ne_of_gt (bl BK1167) : gb1184 ≠ gb1167)); replace BK1167 := kb BK1167 hb; clear hb hbox hg; refine hK.out _ _ ⟨ct BK1166 0, ct BK1166 1, ct BK1166 2⟩ (fun hHeld => ?_); clear hK K; refine zM 11 ?_
         exact norm_ (by simp only [putAll, Act.put, List.setIfInBounds_toArray, List.set_cons_zero, List.set_cons_succ]) (hCont (gb1184) _ ⟨hHeld, (by (with_reducible repeat (first | apply Kd.R_alloc | apply Kd.R_drewN | apply Kd.R_drew)); exact Kd.R_mono HO1175.out (fun _ hk => hk.2)), (by (with_reducible repeat (first | apply Kd.R_alloc | apply Kd.R_drewN | apply Kd.R_drew)); exact Kd.R_mono HO1179.out (fun _ hk => hk.2)), kz, kz, kz, GW1184.out, GE1184.out, NB1166_1184.out, NB1184_1166.out, NB1167_1184.out, NB1184_1167.out, bz⟩)
        ·skip
         refine box_step ?hg (N := 11) ?hd (cs := #[.int .i64 0, .int .i64 0]) (t := 37) ?hr ?_; (case hd => rfl); (case hg => rfl); (case hr => first | (go_simp; done) | (go_simp; rfl))
         intro gb1184 hg w38 hbox hb; replace HO1175 := Aside0.mk (Kd.R_below (rz HO1175) hb); replace HO1179 := Aside0.mk (Kd.R_below (rz HO1179) hb); have BK1184 := Aside0.mk hbox; have GW1184 := gz hg; have GE1184 := gz hg; replace HB := bp hb; have NB1166_1184 := Aside0.mk ((by rw [hg]; exact Nat.ne_of_lt (bl BK1166) : gb1166 ≠ gb1184)); have NB1184_1166 := Aside0.mk ((by rw [hg]; exact Nat.ne_of_gt (bl BK1166) : gb1184 ≠ gb1166)); replace BK1166 := kb BK1166 hb; have NB1167_1184 := Aside0.mk ((by rw [hg]; exact Nat.ne_of_lt (bl BK1167) : gb1167 ≠ gb1184)); have NB1184_1167 := Aside0.mk ((by rw [hg]; exact Nat.ne_of_gt (bl BK1167) : gb1184 ≠ gb1167)); replace BK1167 := kb BK1167 hb; clear hb hbox hg; refine hK.out _ _ ⟨ct BK1166 0, ct BK1166 1, ct BK1166 2⟩ (fun hHeld => ?_); clear hK K; refine zM 11 ?_; refine zN 5 (some 59) 12 575 (fun K hK => ?_); refine zG Try.func43 #[.int .i64 t1180, .int .i64 a0_1] ?_
         with_reducible refine (dioramaref02_From.calls kj3 t1180 a0_1 t1181 t1182 t1183 _ A26.out).mono ?_
         rintro e w39 ⟨rfl, hb⟩; refine ⟨_, rfl, ?_⟩; replace HO1175 := Aside0.mk (Kd.R_below (rz HO1175) hb); replace HO1179 := Aside0.mk (Kd.R_below (rz HO1179) hb); replace BK1166 := kb BK1166 hb; replace BK1167 := kb BK1167 hb; replace BK1184 := kb BK1184 hb; replace HB := bp hb; clear hb; refine hK.out _ _ ⟨ct BK1166 0, ct BK1166 1, ct BK1166 2⟩ (fun hHeld => ?_); clear hK K; refine zM 59 ?_; refine zP 6 53 12 639 ?_; refine zP 7 60 12 767 ?_; refine zP 8 61 12 1023 ?_
         exact norm_ (by simp only [putAll, Act.put, List.setIfInBounds_toArray, List.set_cons_zero, List.set_cons_succ]) (hCont (gb1184) _ ⟨hHeld, (by (with_reducible repeat (first | apply Kd.R_alloc | apply Kd.R_drewN | apply Kd.R_drew)); exact Kd.R_mono HO1175.out (fun _ hk => hk.2)), (by (with_reducible repeat (first | apply Kd.R_alloc | apply Kd.R_drewN | apply Kd.R_drew)); exact Kd.R_mono HO1179.out (fun _ hk => hk.2)), kz, kz, kz, GW1184.out, GE1184.out, NB1166_1184.out, NB1184_1166.out, NB1167_1184.out, NB1184_1167.out, bz⟩)
       ·skip
        refine box_step ?hg (N := 11) ?hd (cs := #[.int .i64 0, .int .i64 0]) (t := 37) ?hr ?_; (case hd => rfl); (case hg => rfl); (case hr => first | (go_simp; done) | (go_simp; rfl))
        intro gb1184 hg w37 hbox hb; replace HO1175 := Aside0.mk (Kd.R_below (rz HO1175) hb); replace HO1179 := Aside0.mk (Kd.R_below (rz HO1179) hb); have BK1184 := Aside0.mk hbox; have GW1184 := gz hg; have GE1184 := gz hg; replace HB := bp hb; have NB1166_1184 := Aside0.mk ((by rw [hg]; exact Nat.ne_of_lt (bl BK1166) : gb1166 ≠ gb1184)); have NB1184_1166 := Aside0.mk ((by rw [hg]; exact Nat.ne_of_gt (bl BK1166) : gb1184 ≠ gb1166)); replace BK1166 := kb BK1166 hb; have NB1167_1184 := Aside0.mk ((by rw [hg]; exact Nat.ne_of_lt (bl BK1167) : gb1167 ≠ gb1184)); have NB1184_1167 := Aside0.mk ((by rw [hg]; exact Nat.ne_of_gt (bl BK1167) : gb1184 ≠ gb1167)); replace BK1167 := kb BK1167 hb; clear hb hbox hg; refine hK.out _ _ ⟨ct BK1166 0, ct BK1166 1, ct BK1166 2⟩ (fun hHeld => ?_); clear hK K; refine zM 11 ?_; refine zN 2 (some 56) 12 543 (fun K hK => ?_); refine zG Try.func26 #[.slice A0_0 l0_0.length c0_0] ?_
        with_reducible refine (edit_Length.calls _ _ l0_0 t1180 _ ?side1 ?side2 A25.out).mono ?_
        (case side1 => exact cz HR0_0)
        (case side2 => exact HC0_0.out)
        rintro e w38 ⟨rfl, hb⟩; refine ⟨_, rfl, ?_⟩; replace HO1175 := Aside0.mk (Kd.R_below (rz HO1175) hb); replace HO1179 := Aside0.mk (Kd.R_below (rz HO1179) hb); replace BK1166 := kb BK1166 hb; replace BK1167 := kb BK1167 hb; replace BK1184 := kb BK1184 hb; replace HB := bp hb; clear hb; refine hK.out _ _ ⟨ct BK1166 0, ct BK1166 1, ct BK1166 2⟩ (fun hHeld => ?_); clear hK K; refine zM 56 ?_; refine zN 5 (some 59) 12 575 (fun K hK => ?_); refine zG Try.func43 #[.int .i64 t1180, .int .i64 a0_1] ?_
        with_reducible refine (dioramaref02_From.calls kj3 t1180 a0_1 t1181 t1182 t1183 _ A26.out).mono ?_
        rintro e w39 ⟨rfl, hb⟩; refine ⟨_, rfl, ?_⟩; replace HO1175 := Aside0.mk (Kd.R_below (rz HO1175) hb); replace HO1179 := Aside0.mk (Kd.R_below (rz HO1179) hb); replace BK1166 := kb BK1166 hb; replace BK1167 := kb BK1167 hb; replace BK1184 := kb BK1184 hb; replace HB := bp hb; clear hb; refine hK.out _ _ ⟨ct BK1166 0, ct BK1166 1, ct BK1166 2⟩ (fun hHeld => ?_); clear hK K; refine zM 59 ?_; refine zP 6 53 12 639 ?_; refine zP 7 60 12 767 ?_; refine zP 8 61 12 1023 ?_
        exact norm_ (by simp only [putAll, Act.put, List.setIfInBounds_toArray, List.set_cons_zero, List.set_cons_succ]) (hCont (gb1184) _ ⟨hHeld, (by (with_reducible repeat (first | apply Kd.R_alloc | apply Kd.R_drewN | apply Kd.R_drew)); exact Kd.R_mono HO1175.out (fun _ hk => hk.2)), (by (with_reducible repeat (first | apply Kd.R_alloc | apply Kd.R_drewN | apply Kd.R_drew)); exact Kd.R_mono HO1179.out (fun _ hk => hk.2)), kz, kz, kz, GW1184.out, GE1184.out, NB1166_1184.out, NB1184_1166.out, NB1167_1184.out, NB1184_1167.out, bz⟩)
      rintro gb1184 w40 ⟨hS_, h0_, h1_, h2_, h3_, h4_, h5_, h6_, h7_, h8_, h9_, h10_, h11_⟩; have n0_ : Aside0 (Kd.R k77 77 w40 w.heap.size (fun k_ => some k_ ≠ (v1178 : Value).ownBlock) v1174 t1172) := ⟨h0_⟩
      have n1_ : Aside0 (Kd.R k77 77 w40 w.heap.size (fun k_ => some k_ ≠ (v1174 : Value).ownBlock) v1178 t1176) := ⟨h1_⟩
      have n2_ : Aside0 (w40.heap[gb1166]? = some (.cells #[.slice A0_0 l0_0.length c0_0, .int .i64 a0_1, .int .i64 a0_2] 24 (0, 0))) := ⟨h2_⟩; have n3_ : Aside0 (w40.heap[gb1167]? = some (.cells #[.int .i64 a2_0, .int .i64 a2_1] 37 (0, 0))) := ⟨h3_⟩; have n4_ : Aside0 (w40.heap[gb1184]? = some (.cells #[.int .i64 0, .int .i64 0] 37 (0, 0))) := ⟨h4_⟩; have n5_ : Aside0 (w.heap.size ≤ gb1184) := ⟨h5_⟩; have n6_ : Aside0 (w.heap.size ≤ gb1184) := ⟨h6_⟩; have n7_ : Aside0 (gb1166 ≠ gb1184) := ⟨h7_⟩; have n8_ : Aside0 (gb1184 ≠ gb1166) := ⟨h8_⟩; have n9_ : Aside0 (gb1167 ≠ gb1184) := ⟨h9_⟩; have n10_ : Aside0 (gb1184 ≠ gb1167) := ⟨h10_⟩; have n11_ : Aside0 (Below w.heap.size w w40) := ⟨h11_⟩; clear HO1175; clear HO1179; clear BK1166; clear BK1167; clear HB; clear h0_ h1_ h2_ h3_ h4_ h5_ h6_ h7_ h8_ h9_ h10_ h11_; have HO1175 := n0_; have HO1179 := n1_; have BK1166 := n2_; have BK1167 := n3_; have BK1184 := n4_; have GW1184 := n5_; have GE1184 := n6_; have NB1166_1184 := n7_; have NB1184_1166 := n8_; have NB1167_1184 := n9_; have NB1184_1167 := n10_; have HB := n11_; clear n0_ n1_ n2_ n3_ n4_ n5_ n6_ n7_ n8_ n9_ n10_ n11_; have hHeld : w40.cell? ⟨gb1166, 0, none⟩ = some (.slice A0_0 l0_0.length c0_0) ∧ w40.cell? ⟨gb1166, 1, none⟩ = some (.int .i64 a0_1) ∧ w40.cell? ⟨gb1166, 2, none⟩ = some (.int .i64 a0_2) := hS_; refine norm_ (a' := ?_) ?_ ?_
      rotate_left
      ·simp only [putAll, Act.put, List.setIfInBounds_toArray, List.set_cons_zero, List.set_cons_succ]
       rfl
      refine zN 10 none 12 2047 (fun K hK => ?_); have hs41 : w40.cell? ⟨gb1184, 0, none⟩ = some (.int .i64 0) := ct BK1184 0; have hfs41 := blk_frozen BK1184.out 0; have hns41_0 := NB1166_1184.out; have hns41_1 := NB1167_1184.out; have hms41_0 := NB1184_1166.out; have hms41_1 := NB1184_1167.out; have hs42 : w40.cell? ⟨gb1184, 1, none⟩ = some (.int .i64 0) := ct BK1184 1; have hfs42 := blk_frozen BK1184.out 1; have hns42_0 := NB1166_1184.out; have hns42_1 := NB1167_1184.out; have hms42_0 := NB1184_1166.out; have hms42_1 := NB1184_1167.out; refine skip_ (w1 := ?_) (by rfl) rfl ?_ ?_
      rotate_left
      ·go_simp
       rfl
      refine hK.out _ _ ⟨((cell_far (p := ⟨gb1184, _, none⟩) NB1166_1184.out _).trans (((cell_far (p := ⟨gb1184, _, none⟩) NB1166_1184.out _).trans (hHeld.1)))), ((cell_far (p := ⟨gb1184, _, none⟩) NB1166_1184.out _).trans (((cell_far (p := ⟨gb1184, _, none⟩) NB1166_1184.out _).trans (hHeld.2.1)))), ((cell_far (p := ⟨gb1184, _, none⟩) NB1166_1184.out _).trans (((cell_far (p := ⟨gb1184, _, none⟩) NB1166_1184.out _).trans (hHeld.2.2))))⟩ (fun hHeld => ?_); clear hK K; refine zP 11 12 12 4095 ?_; refine done_ (by kernel_rfl) ?_; have hnb43 := NB1167_1184.out; have hnc43 := NB1184_1167.out; obtain ⟨hcz44_0, hcz44_1, hfz44_0, hfz44_1⟩ := xc2 BK1167; have hnb45 := NB1184_1166.out; have hnc45 := NB1166_1184.out; obtain ⟨hcz46_0, hcz46_1, hfz46_0, hfz46_1⟩ := xc2 BK1184
      go_upto_if 75 with (first | ((with_reducible refine gate_callee (f := 56) rfl ?_); refine zC 68 Try.func56 #[.agg #[.int .i64 a2_0, .int .i64 a2_1], .agg #[.int .i64 t1181, .int .i64 t1182]] ?_; (with_reducible refine (dioramaref02_Sub.calls kj3 a2_0 a2_1 t1181 t1182 t1186 t1187 t1188 _ A28.out).mono ?_); rintro e w47 ⟨rfl, hb⟩; refine ⟨_, rfl, ?_⟩; replace HO1175 := Aside0.mk (Kd.R_below (by (with_reducible repeat (first | apply Kd.R_alloc | apply Kd.R_drewN | apply Kd.R_drew)); exact (Kd.R_mono (Kd.R_far (p := ⟨gb1184, 1, none⟩) (Kd.R_far (p := ⟨gb1184, 0, none⟩) (Kd.R_types HO1175.out BK1184.out (by decide)) (fun _ hk => hk.2) (.int .i64 t1181)) (fun _ hk => hk.2) (.int .i64 t1182)) (fun _ h_ => h_.1))) hb); replace HO1179 := Aside0.mk (Kd.R_below (by (with_reducible repeat (first | apply Kd.R_alloc | apply Kd.R_drewN | apply Kd.R_drew)); exact (Kd.R_mono (Kd.R_far (p := ⟨gb1184, 1, none⟩) (Kd.R_far (p := ⟨gb1184, 0, none⟩) (Kd.R_types HO1179.out BK1184.out (by decide)) (fun _ hk => hk.2) (.int .i64 t1181)) (fun _ hk => hk.2) (.int .i64 t1182)) (fun _ h_ => h_.1))) hb); replace BK1166 := Aside0.mk (blk_below (g := gb1166) (o := .cells #[.slice A0_0 l0_0.length c0_0, .int .i64 a0_1, .int .i64 a0_2] 24 (0, 0)) (by (with_reducible repeat (first | refine blk_drewN ?_ _ | refine blk_drew ?_ | refine blk_alloc ?_ _)); refine blk_far ?_ NB1166_1184.out _; (with_reducible repeat (first | refine blk_drewN ?_ _ | refine blk_drew ?_ | refine blk_alloc ?_ _)); refine blk_far ?_ NB1166_1184.out _; (with_reducible repeat (first | refine blk_drewN ?_ _ | refine blk_drew ?_ | refine blk_alloc ?_ _)); exact BK1166.out) hb); replace BK1167 := Aside0.mk (blk_below (g := gb1167) (o := .cells #[.int .i64 a2_0, .int .i64 a2_1] 37 (0, 0)) (by (with_reducible repeat (first | refine blk_drewN ?_ _ | refine blk_drew ?_ | refine blk_alloc ?_ _)); refine blk_far ?_ NB1167_1184.out _; (with_reducible repeat (first | refine blk_drewN ?_ _ | refine blk_drew ?_ | refine blk_alloc ?_ _)); refine blk_far ?_ NB1167_1184.out _; (with_reducible repeat (first | refine blk_drewN ?_ _ | refine blk_drew ?_ | refine blk_alloc ?_ _)); exact BK1167.out) hb); replace BK1184 := Aside0.mk (blk_below (g := gb1184) (o := .cells #[.int .i64 t1181, .int .i64 t1182] 37 (0, 0)) (by (with_reducible repeat (first | refine blk_drewN ?_ _ | refine blk_drew ?_ | refine blk_alloc ?_ _)); refine blk_put (cs := #[.int .i64 t1181, .int .i64 0]) ?_ 1 _ rfl; (with_reducible repeat (first | refine blk_drewN ?_ _ | refine blk_drew ?_ | refine blk_alloc ?_ _)); refine blk_put (cs := #[.int .i64 0, .int .i64 0]) ?_ 0 _ rfl; (with_reducible repeat (first | refine blk_drewN ?_ _ | refine blk_drew ?_ | refine blk_alloc ?_ _)); exact BK1184.out) hb); replace HB := bp hb; clear hb) | ((with_reducible refine gate_dst (N := 13) rfl ?_); refine zB 13 37 #[.int .i64 0, .int .i64 0] ?_; intro gb1189 hg w48 hbox hb; replace HO1175 := Aside0.mk (Kd.R_below (rz HO1175) hb); replace HO1179 := Aside0.mk (Kd.R_below (rz HO1179) hb); have BK1189 := Aside0.mk hbox; have GW1189 := gz hg; have GE1189 := gz hg; replace HB := bp hb; have NB1166_1189 := Aside0.mk ((by rw [hg]; exact Nat.ne_of_lt (bl BK1166) : gb1166 ≠ gb1189)); have NB1189_1166 := Aside0.mk ((by rw [hg]; exact Nat.ne_of_gt (bl BK1166) : gb1189 ≠ gb1166)); replace BK1166 := kb BK1166 hb; have NB1167_1189 := Aside0.mk ((by rw [hg]; exact Nat.ne_of_lt (bl BK1167) : gb1167 ≠ gb1189)); have NB1189_1167 := Aside0.mk ((by rw [hg]; exact Nat.ne_of_gt (bl BK1167) : gb1189 ≠ gb1167)); replace BK1167 := kb BK1167 hb; have NB1184_1189 := Aside0.mk ((by rw [hg]; exact Nat.ne_of_lt (bl BK1184) : gb1184 ≠ gb1189)); have NB1189_1184 := Aside0.mk ((by rw [hg]; exact Nat.ne_of_gt (bl BK1184) : gb1189 ≠ gb1184)); replace BK1184 := kb BK1184 hb; clear hb hbox hg; have hnb49 := NB1189_1166.out; have hnc49 := NB1166_1189.out; have hnb50 := NB1189_1167.out; have hnc50 := NB1167_1189.out; have hnb51 := NB1189_1184.out; have hnc51 := NB1184_1189.out; obtain ⟨hcz52_0, hcz52_1, hfz52_0, hfz52_1⟩ := xc2 BK1189))
      (try simp only [Act.put, List.setIfInBounds_toArray, List.set_cons_zero, List.set_cons_succ])
      go_cut [] (fun wc => ∃ (kq : Nat), Aside0 (dioramalaw10_EditChains.j2 kq t1176 t1177 l0_0 a0_1 a0_2 a2_0 a2_1 t1186 t1187 = some r) ∧ Aside0 (kq ≤ kj3) ∧ Aside0 (Kd.R k77 77 wc w.heap.size (fun _ => True) v1178 t1176) ∧ Aside0 (wc.heap[gb1166]? = some (.cells #[(.slice A0_0 l0_0.length c0_0), .int .i64 a0_1, .int .i64 a0_2] 24 (0, 0))) ∧ Aside0 (wc.heap[gb1167]? = some (.cells #[.int .i64 a2_0, .int .i64 a2_1] 37 (0, 0))) ∧ Aside0 (wc.heap[gb1184]? = some (.cells #[.int .i64 t1181, .int .i64 t1182] 37 (0, 0))) ∧ Aside0 (wc.heap[gb1189]? = some (.cells #[.int .i64 t1186, .int .i64 t1187] 37 (0, 0))) ∧ Aside0 (Below w.heap.size w wc))
      case first =>
       have H := HC30.out; clear HC30
       by_cases c53 : t1173 = 0
       ·rw [if_pos c53] at H; have c53b0 : (t1173 == 0) = true := beq_iff_eq.mpr c53; have c53b1 : (t1173 != 0) = false := bne_eq_false_iff_eq.mpr c53; clear c53
        (first | rw [c53b0] | (simp only [i64_w, i32_w]; rw [c53b0]) | skip)
        have HC54 := Aside0.mk H; clear H; have hnb55 := NB1166_1167.out; have hnc55 := NB1167_1166.out; have hnb56 := NB1166_1184.out; have hnc56 := NB1184_1166.out; have hnb57 := NB1166_1189.out; have hnc57 := NB1189_1166.out; obtain ⟨hcz58_0, hcz58_1, hcz58_2, hfz58_0, hfz58_1, hfz58_2⟩ := xc3 BK1166; obtain ⟨Ao59, co59, eo59⟩ := Kd.R_slice HO1175.out; subst eo59
        go_upto_region 13 with (first | ((with_reducible refine gate_dst (N := 15) rfl ?_); refine zB 15 24 #[.slice none 0 0, .int .i64 0, .int .i64 0] ?_; intro gb1191 hg w60 hbox hb; replace HO1175 := Aside0.mk (Kd.R_below (by (with_reducible repeat (first | apply Kd.R_alloc | apply Kd.R_drewN | apply Kd.R_drew)); exact (Kd.R_mono (Kd.R_far (p := ⟨gb1189, 1, none⟩) (Kd.R_far (p := ⟨gb1189, 0, none⟩) (Kd.R_types HO1175.out BK1189.out (by decide)) (fun _ hk => hk.2) (.int .i64 t1186)) (fun _ hk => hk.2) (.int .i64 t1187)) (fun _ h_ => h_.1))) hb); replace HO1179 := Aside0.mk (Kd.R_below (by (with_reducible repeat (first | apply Kd.R_alloc | apply Kd.R_drewN | apply Kd.R_drew)); exact (Kd.R_mono (Kd.R_far (p := ⟨gb1189, 1, none⟩) (Kd.R_far (p := ⟨gb1189, 0, none⟩) (Kd.R_types HO1179.out BK1189.out (by decide)) (fun _ hk => hk.2) (.int .i64 t1186)) (fun _ hk => hk.2) (.int .i64 t1187)) (fun _ h_ => h_.1))) hb); have BK1191 := Aside0.mk hbox; have GW1191 := gz hg; have GE1191 := gz hg; replace HB := bp hb; have NB1166_1191 := Aside0.mk ((by rw [hg]; exact Nat.ne_of_lt (blk_lt (g := gb1166) (o := .cells #[.slice A0_0 l0_0.length c0_0, .int .i64 a0_1, .int .i64 a0_2] 24 (0, 0)) (by (with_reducible repeat (first | refine blk_drewN ?_ _ | refine blk_drew ?_ | refine blk_alloc ?_ _)); refine blk_far ?_ NB1166_1189.out _; (with_reducible repeat (first | refine blk_drewN ?_ _ | refine blk_drew ?_ | refine blk_alloc ?_ _)); refine blk_far ?_ NB1166_1189.out _; (with_reducible repeat (first | refine blk_drewN ?_ _ | refine blk_drew ?_ | refine blk_alloc ?_ _)); exact BK1166.out)) : gb1166 ≠ gb1191)); have NB1191_1166 := Aside0.mk ((by rw [hg]; exact Nat.ne_of_gt (blk_lt (g := gb1166) (o := .cells #[.slice A0_0 l0_0.length c0_0, .int .i64 a0_1, .int .i64 a0_2] 24 (0, 0)) (by (with_reducible repeat (first | refine blk_drewN ?_ _ | refine blk_drew ?_ | refine blk_alloc ?_ _)); refine blk_far ?_ NB1166_1189.out _; (with_reducible repeat (first | refine blk_drewN ?_ _ | refine blk_drew ?_ | refine blk_alloc ?_ _)); refine blk_far ?_ NB1166_1189.out _; (with_reducible repeat (first | refine blk_drewN ?_ _ | refine blk_drew ?_ | refine blk_alloc ?_ _)); exact BK1166.out)) : gb1191 ≠ gb1166)); replace BK1166 := Aside0.mk (blk_below (g := gb1166) (o := .cells #[.slice A0_0 l0_0.length c0_0, .int .i64 a0_1, .int .i64 a0_2] 24 (0, 0)) (by (with_reducible repeat (first | refine blk_drewN ?_ _ | refine blk_drew ?_ | refine blk_alloc ?_ _)); refine blk_far ?_ NB1166_1189.out _; (with_reducible repeat (first | refine blk_drewN ?_ _ | refine blk_drew ?_ | refine blk_alloc ?_ _)); refine blk_far ?_ NB1166_1189.out _; (with_reducible repeat (first | refine blk_drewN ?_ _ | refine blk_drew ?_ | refine blk_alloc ?_ _)); exact BK1166.out) hb); have NB1167_1191 := Aside0.mk ((by rw [hg]; exact Nat.ne_of_lt (blk_lt (g := gb1167) (o := .cells #[.int .i64 a2_0, .int .i64 a2_1] 37 (0, 0)) (by (with_reducible repeat (first | refine blk_drewN ?_ _ | refine blk_drew ?_ | refine blk_alloc ?_ _)); refine blk_far ?_ NB1167_1189.out _; (with_reducible repeat (first | refine blk_drewN ?_ _ | refine blk_drew ?_ | refine blk_alloc ?_ _)); refine blk_far ?_ NB1167_1189.out _; (with_reducible repeat (first | refine blk_drewN ?_ _ | refine blk_drew ?_ | refine blk_alloc ?_ _)); exact BK1167.out)) : gb1167 ≠ gb1191)); have NB1191_1167 := Aside0.mk ((by rw [hg]; exact Nat.ne_of_gt (blk_lt (g := gb1167) (o := .cells #[.int .i64 a2_0, .int .i64 a2_1] 37 (0, 0)) (by (with_reducible repeat (first | refine blk_drewN ?_ _ | refine blk_drew ?_ | refine blk_alloc ?_ _)); refine blk_far ?_ NB1167_1189.out _; (with_reducible repeat (first | refine blk_drewN ?_ _ | refine blk_drew ?_ | refine blk_alloc ?_ _)); refine blk_far ?_ NB1167_1189.out _; (with_reducible repeat (first | refine blk_drewN ?_ _ | refine blk_drew ?_ | refine blk_alloc ?_ _)); exact BK1167.out)) : gb1191 ≠ gb1167)); replace BK1167 := Aside0.mk (blk_below (g := gb1167) (o := .cells #[.int .i64 a2_0, .int .i64 a2_1] 37 (0, 0)) (by (with_reducible repeat (first | refine blk_drewN ?_ _ | refine blk_drew ?_ | refine blk_alloc ?_ _)); refine blk_far ?_ NB1167_1189.out _; (with_reducible repeat (first | refine blk_drewN ?_ _ | refine blk_drew ?_ | refine blk_alloc ?_ _)); refine blk_far ?_ NB1167_1189.out _; (with_reducible repeat (first | refine blk_drewN ?_ _ | refine blk_drew ?_ | refine blk_alloc ?_ _)); exact BK1167.out) hb); have NB1184_1191 := Aside0.mk ((by rw [hg]; exact Nat.ne_of_lt (blk_lt (g := gb1184) (o := .cells #[.int .i64 t1181, .int .i64 t1182] 37 (0, 0)) (by (with_reducible repeat (first | refine blk_drewN ?_ _ | refine blk_drew ?_ | refine blk_alloc ?_ _)); refine blk_far ?_ NB1184_1189.out _; (with_reducible repeat (first | refine blk_drewN ?_ _ | refine blk_drew ?_ | refine blk_alloc ?_ _)); refine blk_far ?_ NB1184_1189.out _; (with_reducible repeat (first | refine blk_drewN ?_ _ | refine blk_drew ?_ | refine blk_alloc ?_ _)); exact BK1184.out)) : gb1184 ≠ gb1191)); have NB1191_1184 := Aside0.mk ((by rw [hg]; exact Nat.ne_of_gt (blk_lt (g := gb1184) (o := .cells #[.int .i64 t1181, .int .i64 t1182] 37 (0, 0)) (by (with_reducible repeat (first | refine blk_drewN ?_ _ | refine blk_drew ?_ | refine blk_alloc ?_ _)); refine blk_far ?_ NB1184_1189.out _; (with_reducible repeat (first | refine blk_drewN ?_ _ | refine blk_drew ?_ | refine blk_alloc ?_ _)); refine blk_far ?_ NB1184_1189.out _; (with_reducible repeat (first | refine blk_drewN ?_ _ | refine blk_drew ?_ | refine blk_alloc ?_ _)); exact BK1184.out)) : gb1191 ≠ gb1184)); replace BK1184 := Aside0.mk (blk_below (g := gb1184) (o := .cells #[.int .i64 t1181, .int .i64 t1182] 37 (0, 0)) (by (with_reducible repeat (first | refine blk_drewN ?_ _ | refine blk_drew ?_ | refine blk_alloc ?_ _)); refine blk_far ?_ NB1184_1189.out _; (with_reducible repeat (first | refine blk_drewN ?_ _ | refine blk_drew ?_ | refine blk_alloc ?_ _)); refine blk_far ?_ NB1184_1189.out _; (with_reducible repeat (first | refine blk_drewN ?_ _ | refine blk_drew ?_ | refine blk_alloc ?_ _)); exact BK1184.out) hb); have NB1189_1191 := Aside0.mk ((by rw [hg]; exact Nat.ne_of_lt (blk_lt (g := gb1189) (o := .cells #[.int .i64 t1186, .int .i64 t1187] 37 (0, 0)) (by (with_reducible repeat (first | refine blk_drewN ?_ _ | refine blk_drew ?_ | refine blk_alloc ?_ _)); refine blk_put (cs := #[.int .i64 t1186, .int .i64 0]) ?_ 1 _ rfl; (with_reducible repeat (first | refine blk_drewN ?_ _ | refine blk_drew ?_ | refine blk_alloc ?_ _)); refine blk_put (cs := #[.int .i64 0, .int .i64 0]) ?_ 0 _ rfl; (with_reducible repeat (first | refine blk_drewN ?_ _ | refine blk_drew ?_ | refine blk_alloc ?_ _)); exact BK1189.out)) : gb1189 ≠ gb1191)); have NB1191_1189 := Aside0.mk ((by rw [hg]; exact Nat.ne_of_gt (blk_lt (g := gb1189) (o := .cells #[.int .i64 t1186, .int .i64 t1187] 37 (0, 0)) (by (with_reducible repeat (first | refine blk_drewN ?_ _ | refine blk_drew ?_ | refine blk_alloc ?_ _)); refine blk_put (cs := #[.int .i64 t1186, .int .i64 0]) ?_ 1 _ rfl; (with_reducible repeat (first | refine blk_drewN ?_ _ | refine blk_drew ?_ | refine blk_alloc ?_ _)); refine blk_put (cs := #[.int .i64 0, .int .i64 0]) ?_ 0 _ rfl; (with_reducible repeat (first | refine blk_drewN ?_ _ | refine blk_drew ?_ | refine blk_alloc ?_ _)); exact BK1189.out)) : gb1191 ≠ gb1189)); replace BK1189 := Aside0.mk (blk_below (g := gb1189) (o := .cells #[.int .i64 t1186, .int .i64 t1187] 37 (0, 0)) (by (with_reducible repeat (first | refine blk_drewN ?_ _ | refine blk_drew ?_ | refine blk_alloc ?_ _)); refine blk_put (cs := #[.int .i64 t1186, .int .i64 0]) ?_ 1 _ rfl; (with_reducible repeat (first | refine blk_drewN ?_ _ | refine blk_drew ?_ | refine blk_alloc ?_ _)); refine blk_put (cs := #[.int .i64 0, .int .i64 0]) ?_ 0 _ rfl; (with_reducible repeat (first | refine blk_drewN ?_ _ | refine blk_drew ?_ | refine blk_alloc ?_ _)); exact BK1189.out) hb); clear hb hbox hg; have hnb61 := NB1191_1166.out; have hnc61 := NB1166_1191.out; have hnb62 := NB1191_1167.out; have hnc62 := NB1167_1191.out; have hnb63 := NB1191_1184.out; have hnc63 := NB1184_1191.out; have hnb64 := NB1191_1189.out; have hnc64 := NB1189_1191.out; obtain ⟨hcz65_0, hcz65_1, hcz65_2, hfz65_0, hfz65_1, hfz65_2⟩ := xc3 BK1191))
        (try simp only [Act.put, List.setIfInBounds_toArray, List.set_cons_zero, List.set_cons_succ])
        go_cut [92] (fun v92 wc => ∃ (kq : Nat) (x92_53 : Bool), v92 = .bool x92_53 ∧ Aside0 (dioramalaw10_EditChains.j1 kq l1 t1176 t1177 x92_53 l0_0 a0_1 a0_2 a2_0 a2_1 t1186 t1187 t1172 a0_1 a0_2 = some r) ∧ Aside0 (kq ≤ kj3) ∧ Aside0 (Kd.R k77 77 wc w.heap.size (fun k_ => some k_ ≠ ((.slice Ao59 t1172.length co59) : Value).ownBlock) v1178 t1176) ∧ Aside0 (Kd.R k77 77 wc w.heap.size (fun k_ => some k_ ≠ (v1178 : Value).ownBlock) (.slice Ao59 t1172.length co59) t1172) ∧ Aside0 (wc.heap[gb1166]? = some (.cells #[(.slice A0_0 l0_0.length c0_0), .int .i64 a0_1, .int .i64 a0_2] 24 (0, 0))) ∧ Aside0 (wc.heap[gb1167]? = some (.cells #[.int .i64 a2_0, .int .i64 a2_1] 37 (0, 0))) ∧ Aside0 (wc.heap[gb1184]? = some (.cells #[.int .i64 t1181, .int .i64 t1182] 37 (0, 0))) ∧ Aside0 (wc.heap[gb1189]? = some (.cells #[.int .i64 t1186, .int .i64 t1187] 37 (0, 0))) ∧ Aside0 (wc.heap[gb1191]? = some (.cells #[(.slice Ao59 t1172.length co59), .int .i64 a0_1, .int .i64 a0_2] 24 (0, 0))) ∧ Aside0 (Below w.heap.size w wc))
        case first =>
         have H := HC54.out; clear HC54
         by_cases c66 : t1186 < 0
         ·rw [if_pos c66] at H; have c66b0 : decide (t1186 < 0) = true := decide_eq_true c66; clear c66
          (first | rw [c66b0] | (simp only [i64_w, i32_w]; rw [c66b0]) | skip)
          obtain ⟨t1192, A67, H⟩ := ob H; have H' := Aside0.mk H; clear H; have hnb68 := NB1189_1166.out; have hnc68 := NB1166_1189.out; have hnb69 := NB1189_1167.out; have hnc69 := NB1167_1189.out; have hnb70 := NB1189_1184.out; have hnc70 := NB1184_1189.out; have hnb71 := NB1189_1191.out; have hnc71 := NB1191_1189.out; obtain ⟨hcz72_0, hcz72_1, hfz72_0, hfz72_1⟩ := xc2 BK1189; have hnb73 := NB1191_1166.out; have hnc73 := NB1166_1191.out; have hnb74 := NB1191_1167.out; have hnc74 := NB1167_1191.out; have hnb75 := NB1191_1184.out; have hnc75 := NB1184_1191.out; obtain ⟨hcz76_0, hcz76_1, hcz76_2, hfz76_0, hfz76_1, hfz76_2⟩ := xc3 BK1191; have hnb77 := NB1167_1166.out; have hnc77 := NB1166_1167.out; have hnb78 := NB1167_1184.out; have hnc78 := NB1184_1167.out; obtain ⟨hcz79_0, hcz79_1, hfz79_0, hfz79_1⟩ := xc2 BK1167; have hnb80 := NB1166_1184.out; have hnc80 := NB1184_1166.out; obtain ⟨hcz81_0, hcz81_1, hcz81_2, hfz81_0, hfz81_1, hfz81_2⟩ := xc3 BK1166
          go_wp2_with (first | (go_at_call 37; (with_reducible refine (dioramalaw10_shows.calls _ _ t1172 a0_1 a0_2 a2_0 a2_1 _ _ l0_0 a0_1 a0_2 a2_0 a2_1 t1192 _ ?side1 ?side2 ?side3 ?side4 A67.out).mono ?_); (case side1 => refine (Kd.R_reads' (e := 77) (base := w.heap.size) (ok := fun k_ => some k_ ≠ (v1178 : Value).ownBlock) (n := t1172.length) (c := co59) ?_).2.2; exact (by (with_reducible repeat (first | apply Kd.R_alloc | apply Kd.R_drewN | apply Kd.R_drew)); exact (Kd.R_mono (Kd.R_far (p := ⟨gb1191, 2, none⟩) (Kd.R_far (p := ⟨gb1191, 1, none⟩) (Kd.R_far (p := ⟨gb1191, 0, none⟩) (Kd.R_types HO1175.out BK1191.out (by decide)) (fun _ hk => hk.2) (.slice Ao59 t1172.length co59)) (fun _ hk => hk.2) (.int .i64 a0_1)) (fun _ hk => hk.2) (.int .i64 a0_2)) (fun _ h_ => h_.1)))); (case side2 => exact (Kd.R_reads' HO1175.out).2.1); (case side3 => exact Kd.C_below HR0_0.out bz); (case side4 => exact HC0_0.out); rintro e w82 ⟨rfl, hb⟩; replace HO1175 := Aside0.mk (Kd.R_below (by (with_reducible repeat (first | apply Kd.R_alloc | apply Kd.R_drewN | apply Kd.R_drew)); exact (Kd.R_mono (Kd.R_far (p := ⟨gb1191, 2, none⟩) (Kd.R_far (p := ⟨gb1191, 1, none⟩) (Kd.R_far (p := ⟨gb1191, 0, none⟩) (Kd.R_types HO1175.out BK1191.out (by decide)) (fun _ hk => hk.2) (.slice Ao59 t1172.length co59)) (fun _ hk => hk.2) (.int .i64 a0_1)) (fun _ hk => hk.2) (.int .i64 a0_2)) (fun _ h_ => h_.1))) hb); replace HO1179 := Aside0.mk (Kd.R_below (by (with_reducible repeat (first | apply Kd.R_alloc | apply Kd.R_drewN | apply Kd.R_drew)); exact (Kd.R_mono (Kd.R_far (p := ⟨gb1191, 2, none⟩) (Kd.R_far (p := ⟨gb1191, 1, none⟩) (Kd.R_far (p := ⟨gb1191, 0, none⟩) (Kd.R_types HO1179.out BK1191.out (by decide)) (fun _ hk => hk.2) (.slice Ao59 t1172.length co59)) (fun _ hk => hk.2) (.int .i64 a0_1)) (fun _ hk => hk.2) (.int .i64 a0_2)) (fun _ h_ => h_.1))) hb); replace BK1166 := Aside0.mk (blk_below (g := gb1166) (o := .cells #[.slice A0_0 l0_0.length c0_0, .int .i64 a0_1, .int .i64 a0_2] 24 (0, 0)) (by (with_reducible repeat (first | refine blk_drewN ?_ _ | refine blk_drew ?_ | refine blk_alloc ?_ _)); refine blk_far ?_ NB1166_1191.out _; (with_reducible repeat (first | refine blk_drewN ?_ _ | refine blk_drew ?_ | refine blk_alloc ?_ _)); refine blk_far ?_ NB1166_1191.out _; (with_reducible repeat (first | refine blk_drewN ?_ _ | refine blk_drew ?_ | refine blk_alloc ?_ _)); refine blk_far ?_ NB1166_1191.out _; (with_reducible repeat (first | refine blk_drewN ?_ _ | refine blk_drew ?_ | refine blk_alloc ?_ _)); exact BK1166.out) hb); replace BK1167 := Aside0.mk (blk_below (g := gb1167) (o := .cells #[.int .i64 a2_0, .int .i64 a2_1] 37 (0, 0)) (by (with_reducible repeat (first | refine blk_drewN ?_ _ | refine blk_drew ?_ | refine blk_alloc ?_ _)); refine blk_far ?_ NB1167_1191.out _; (with_reducible repeat (first | refine blk_drewN ?_ _ | refine blk_drew ?_ | refine blk_alloc ?_ _)); refine blk_far ?_ NB1167_1191.out _; (with_reducible repeat (first | refine blk_drewN ?_ _ | refine blk_drew ?_ | refine blk_alloc ?_ _)); refine blk_far ?_ NB1167_1191.out _; (with_reducible repeat (first | refine blk_drewN ?_ _ | refine blk_drew ?_ | refine blk_alloc ?_ _)); exact BK1167.out) hb); replace BK1184 := Aside0.mk (blk_below (g := gb1184) (o := .cells #[.int .i64 t1181, .int .i64 t1182] 37 (0, 0)) (by (with_reducible repeat (first | refine blk_drewN ?_ _ | refine blk_drew ?_ | refine blk_alloc ?_ _)); refine blk_far ?_ NB1184_1191.out _; (with_reducible repeat (first | refine blk_drewN ?_ _ | refine blk_drew ?_ | refine blk_alloc ?_ _)); refine blk_far ?_ NB1184_1191.out _; (with_reducible repeat (first | refine blk_drewN ?_ _ | refine blk_drew ?_ | refine blk_alloc ?_ _)); refine blk_far ?_ NB1184_1191.out _; (with_reducible repeat (first | refine blk_drewN ?_ _ | refine blk_drew ?_ | refine blk_alloc ?_ _)); exact BK1184.out) hb); replace BK1189 := Aside0.mk (blk_below (g := gb1189) (o := .cells #[.int .i64 t1186, .int .i64 t1187] 37 (0, 0)) (by (with_reducible repeat (first | refine blk_drewN ?_ _ | refine blk_drew ?_ | refine blk_alloc ?_ _)); refine blk_far ?_ NB1189_1191.out _; (with_reducible repeat (first | refine blk_drewN ?_ _ | refine blk_drew ?_ | refine blk_alloc ?_ _)); refine blk_far ?_ NB1189_1191.out _; (with_reducible repeat (first | refine blk_drewN ?_ _ | refine blk_drew ?_ | refine blk_alloc ?_ _)); refine blk_far ?_ NB1189_1191.out _; (with_reducible repeat (first | refine blk_drewN ?_ _ | refine blk_drew ?_ | refine blk_alloc ?_ _)); exact BK1189.out) hb); replace BK1191 := Aside0.mk (blk_below (g := gb1191) (o := .cells #[.slice Ao59 t1172.length co59, .int .i64 a0_1, .int .i64 a0_2] 24 (0, 0)) (by (with_reducible repeat (first | refine blk_drewN ?_ _ | refine blk_drew ?_ | refine blk_alloc ?_ _)); refine blk_put (cs := #[.slice Ao59 t1172.length co59, .int .i64 a0_1, .int .i64 0]) ?_ 2 _ rfl; (with_reducible repeat (first | refine blk_drewN ?_ _ | refine blk_drew ?_ | refine blk_alloc ?_ _)); refine blk_put (cs := #[.slice Ao59 t1172.length co59, .int .i64 0, .int .i64 0]) ?_ 1 _ rfl; (with_reducible repeat (first | refine blk_drewN ?_ _ | refine blk_drew ?_ | refine blk_alloc ?_ _)); refine blk_put (cs := #[.slice none 0 0, .int .i64 0, .int .i64 0]) ?_ 0 _ rfl; (with_reducible repeat (first | refine blk_drewN ?_ _ | refine blk_drew ?_ | refine blk_alloc ?_ _)); exact BK1191.out) hb); replace HB := bp hb; clear hb))
          go_meet
          case rel => exact ⟨_, (!t1192), jz, H', ⟨by have := HJ3.out; first | omega | exact Nat.le_refl _⟩, ⟨rz HO1179⟩, ⟨rz HO1175⟩, ⟨kz⟩, ⟨kz⟩, ⟨kz⟩, ⟨kz⟩, ⟨kz⟩, ⟨bz⟩⟩
         ·rw [if_neg c66] at H; have c66b0 : decide (t1186 < 0) = false := decide_eq_false c66; clear c66
          (first | rw [c66b0] | (simp only [i64_w, i32_w]; rw [c66b0]) | skip)
          have H' := Aside0.mk H; clear H; have hnb83 := NB1189_1166.out; have hnc83 := NB1166_1189.out; have hnb84 := NB1189_1167.out; have hnc84 := NB1167_1189.out; have hnb85 := NB1189_1184.out; have hnc85 := NB1184_1189.out; have hnb86 := NB1189_1191.out; have hnc86 := NB1191_1189.out; obtain ⟨hcz87_0, hcz87_1, hfz87_0, hfz87_1⟩ := xc2 BK1189
          go_wp2
          go_meet
          case rel => exact ⟨_, (false), jz, H', ⟨by have := HJ3.out; first | omega | exact Nat.le_refl _⟩, ⟨by (with_reducible repeat (first | apply Kd.R_alloc | apply Kd.R_drewN | apply Kd.R_drew)); exact Kd.R_mono (Kd.R_far (p := ⟨gb1191, 2, none⟩) (Kd.R_far (p := ⟨gb1191, 1, none⟩) (Kd.R_far (p := ⟨gb1191, 0, none⟩) (Kd.R_types HO1179.out BK1191.out (by decide)) (fun _ hk => hk.2) (.slice Ao59 t1172.length co59)) (fun _ hk => hk.2) (.int .i64 a0_1)) (fun _ hk => hk.2) (.int .i64 a0_2)) (fun _ hk => hk.1)⟩, ⟨by (with_reducible repeat (first | apply Kd.R_alloc | apply Kd.R_drewN | apply Kd.R_drew)); exact Kd.R_mono (Kd.R_far (p := ⟨gb1191, 2, none⟩) (Kd.R_far (p := ⟨gb1191, 1, none⟩) (Kd.R_far (p := ⟨gb1191, 0, none⟩) (Kd.R_types HO1175.out BK1191.out (by decide)) (fun _ hk => hk.2) (.slice Ao59 t1172.length co59)) (fun _ hk => hk.2) (.int .i64 a0_1)) (fun _ hk => hk.2) (.int .i64 a0_2)) (fun _ hk => hk.1)⟩, ⟨by (with_reducible repeat (first | refine blk_drewN ?_ _ | refine blk_drew ?_ | refine blk_alloc ?_ _)); refine blk_far ?_ NB1166_1191.out _; (with_reducible repeat (first | refine blk_drewN ?_ _ | refine blk_drew ?_ | refine blk_alloc ?_ _)); refine blk_far ?_ NB1166_1191.out _; (with_reducible repeat (first | refine blk_drewN ?_ _ | refine blk_drew ?_ | refine blk_alloc ?_ _)); refine blk_far ?_ NB1166_1191.out _; (with_reducible repeat (first | refine blk_drewN ?_ _ | refine blk_drew ?_ | refine blk_alloc ?_ _)); exact BK1166.out⟩, ⟨by (with_reducible repeat (first | refine blk_drewN ?_ _ | refine blk_drew ?_ | refine blk_alloc ?_ _)); refine blk_far ?_ NB1167_1191.out _; (with_reducible repeat (first | refine blk_drewN ?_ _ | refine blk_drew ?_ | refine blk_alloc ?_ _)); refine blk_far ?_ NB1167_1191.out _; (with_reducible repeat (first | refine blk_drewN ?_ _ | refine blk_drew ?_ | refine blk_alloc ?_ _)); refine blk_far ?_ NB1167_1191.out _; (with_reducible repeat (first | refine blk_drewN ?_ _ | refine blk_drew ?_ | refine blk_alloc ?_ _)); exact BK1167.out⟩, ⟨by (with_reducible repeat (first | refine blk_drewN ?_ _ | refine blk_drew ?_ | refine blk_alloc ?_ _)); refine blk_far ?_ NB1184_1191.out _; (with_reducible repeat (first | refine blk_drewN ?_ _ | refine blk_drew ?_ | refine blk_alloc ?_ _)); refine blk_far ?_ NB1184_1191.out _; (with_reducible repeat (first | refine blk_drewN ?_ _ | refine blk_drew ?_ | refine blk_alloc ?_ _)); refine blk_far ?_ NB1184_1191.out _; (with_reducible repeat (first | refine blk_drewN ?_ _ | refine blk_drew ?_ | refine blk_alloc ?_ _)); exact BK1184.out⟩, ⟨by (with_reducible repeat (first | refine blk_drewN ?_ _ | refine blk_drew ?_ | refine blk_alloc ?_ _)); refine blk_far ?_ NB1189_1191.out _; (with_reducible repeat (first | refine blk_drewN ?_ _ | refine blk_drew ?_ | refine blk_alloc ?_ _)); refine blk_far ?_ NB1189_1191.out _; (with_reducible repeat (first | refine blk_drewN ?_ _ | refine blk_drew ?_ | refine blk_alloc ?_ _)); refine blk_far ?_ NB1189_1191.out _; (with_reducible repeat (first | refine blk_drewN ?_ _ | refine blk_drew ?_ | refine blk_alloc ?_ _)); exact BK1189.out⟩, ⟨by (with_reducible repeat (first | refine blk_drewN ?_ _ | refine blk_drew ?_ | refine blk_alloc ?_ _)); refine blk_put (cs := #[.slice Ao59 t1172.length co59, .int .i64 a0_1, .int .i64 0]) ?_ 2 _ rfl; (with_reducible repeat (first | refine blk_drewN ?_ _ | refine blk_drew ?_ | refine blk_alloc ?_ _)); refine blk_put (cs := #[.slice Ao59 t1172.length co59, .int .i64 0, .int .i64 0]) ?_ 1 _ rfl; (with_reducible repeat (first | refine blk_drewN ?_ _ | refine blk_drew ?_ | refine blk_alloc ?_ _)); refine blk_put (cs := #[.slice none 0 0, .int .i64 0, .int .i64 0]) ?_ 0 _ rfl; (with_reducible repeat (first | refine blk_drewN ?_ _ | refine blk_drew ?_ | refine blk_alloc ?_ _)); exact BK1191.out⟩, ⟨bz⟩⟩
        case rest =>
         clear HC54
         try clear c2
         try clear p2
         try clear c4
         try clear c5
         try clear c6
         try clear c7
         try clear c8
         try clear c26
         try clear c43
         try clear c45
         try clear c49
         try clear c50
         try clear c51
         try clear c53
         try clear c53b0
         try clear c53b1
         try clear c55
         try clear c56
         try clear c57
         try clear c61
         try clear c62
         try clear c63
         try clear c64
         try clear c66
         try clear c66b0
         try clear c68
         try clear c69
         try clear c70
         try clear c71
         try clear c73
         try clear c74
         try clear c75
         try clear c77
         try clear c78
         try clear c80
         try clear c83
         try clear c84
         try clear c85
         try clear c86
         try clear hcz44_0
         try clear hcz44_1
         try clear hcz46_0
         try clear hcz46_1
         try clear hcz52_0
         try clear hcz52_1
         try clear hcz58_0
         try clear hcz58_1
         try clear hcz58_2
         try clear hcz65_0
         try clear hcz65_1
         try clear hcz65_2
         try clear hcz72_0
         try clear hcz72_1
         try clear hcz76_0
         try clear hcz76_1
         try clear hcz76_2
         try clear hcz79_0
         try clear hcz79_1
         try clear hcz81_0
         try clear hcz81_1
         try clear hcz81_2
         try clear hcz87_0
         try clear hcz87_1
         try clear hfz44_0
         try clear hfz44_1
         try clear hfz46_0
         try clear hfz46_1
         try clear hfz52_0
         try clear hfz52_1
         try clear hfz58_0
         try clear hfz58_1
         try clear hfz58_2
         try clear hfz65_0
         try clear hfz65_1
         try clear hfz65_2
         try clear hfz72_0
         try clear hfz72_1
         try clear hfz76_0
         try clear hfz76_1
         try clear hfz76_2
         try clear hfz79_0
         try clear hfz79_1
         try clear hfz81_0
         try clear hfz81_1
         try clear hfz81_2
         try clear hfz87_0
         try clear hfz87_1
         obtain ⟨kq, x92_53, rfl, HA, HJ53, HO_9, HO_1192000, BK1166, BK1167, BK1184, BK1189, BK1191, HB⟩ := hcut
         cases kq with
         | zero => exact absurd HA.out (by simp [dioramalaw10_EditChains.j1])
         | succ kj53 =>
          have H := HA.out; clear HA; simp only [dioramalaw10_EditChains.j1] at H
          by_cases c88 : x92_53 = true
          ·subst c88; rw [if_pos rfl] at H; obtain rfl := Option.some.inj H
           go_wp2
           go_ret
           exact ⟨ez, bz⟩
          ·obtain rfl := bf c88; rw [if_neg (show ¬ (false = true) by decide)] at H
           by_cases c89 : t1186 ≥ 0
           ·rw [if_pos c89] at H; have c89b0 : decide (0 ≤ t1186) = true := decide_eq_true c89; clear c89; obtain ⟨t1193, A90, H⟩ := ob H
            by_cases c91 : t1193 = true
            ·subst c91; rw [if_pos rfl] at H; have H' := Aside0.mk H; clear H; have hnb92 := NB1189_1166.out; have hnc92 := NB1166_1189.out; have hnb93 := NB1189_1167.out; have hnc93 := NB1167_1189.out; have hnb94 := NB1189_1184.out; have hnc94 := NB1184_1189.out; have hnb95 := NB1189_1191.out; have hnc95 := NB1191_1189.out; obtain ⟨hcz96_0, hcz96_1, hfz96_0, hfz96_1⟩ := xc2 BK1189; have hnb97 := NB1191_1166.out; have hnc97 := NB1166_1191.out; have hnb98 := NB1191_1167.out; have hnc98 := NB1167_1191.out; have hnb99 := NB1191_1184.out; have hnc99 := NB1184_1191.out; obtain ⟨hcz100_0, hcz100_1, hcz100_2, hfz100_0, hfz100_1, hfz100_2⟩ := xc3 BK1191; have hnb101 := NB1167_1166.out; have hnc101 := NB1166_1167.out; have hnb102 := NB1167_1184.out; have hnc102 := NB1184_1167.out; obtain ⟨hcz103_0, hcz103_1, hfz103_0, hfz103_1⟩ := xc2 BK1167; have hnb104 := NB1166_1184.out; have hnc104 := NB1184_1166.out; obtain ⟨hcz105_0, hcz105_1, hcz105_2, hfz105_0, hfz105_1, hfz105_2⟩ := xc3 BK1166
             go_wp2_with (first | (go_at_call 37; (with_reducible refine (dioramalaw10_shows.calls _ _ t1172 a0_1 a0_2 a2_0 a2_1 _ _ l1 a0_1 a0_2 t1186 t1187 true _ ?side1 ?side2 ?side3 ?side4 A90.out).mono ?_); (case side1 => exact cr HO_1192000); (case side2 => exact (Kd.R_reads' HO_1192000.out).2.1); (case side3 => exact cz HR1); (case side4 => exact HC1.out); rintro e w106 ⟨rfl, hb⟩; replace HO_9 := Aside0.mk (Kd.R_below (rz HO_9) hb); replace HO_1192000 := Aside0.mk (Kd.R_below (rz HO_1192000) hb); replace BK1166 := kb BK1166 hb; replace BK1167 := kb BK1167 hb; replace BK1184 := kb BK1184 hb; replace BK1189 := kb BK1189 hb; replace BK1191 := kb BK1191 hb; replace HB := bp hb; clear hb))
             go_meet
             case rel => exact ⟨_, H', ⟨by have := HJ3.out; have := HJ53.out; first | omega | exact Nat.le_refl _⟩, ⟨by (with_reducible repeat (first | apply Kd.R_alloc | apply Kd.R_drewN | apply Kd.R_drew)); exact Kd.R_mono HO_9.out (fun _ hk => trivial)⟩, ⟨kz⟩, ⟨kz⟩, ⟨kz⟩, ⟨kz⟩, ⟨bz⟩⟩
            ·obtain rfl := bf c91; rw [if_neg (show ¬ (false = true) by decide)] at H; obtain rfl := Option.some.inj H; have hnb107 := NB1189_1166.out; have hnc107 := NB1166_1189.out; have hnb108 := NB1189_1167.out; have hnc108 := NB1167_1189.out; have hnb109 := NB1189_1184.out; have hnc109 := NB1184_1189.out; have hnb110 := NB1189_1191.out; have hnc110 := NB1191_1189.out; obtain ⟨hcz111_0, hcz111_1, hfz111_0, hfz111_1⟩ := xc2 BK1189; have hnb112 := NB1191_1166.out; have hnc112 := NB1166_1191.out; have hnb113 := NB1191_1167.out; have hnc113 := NB1167_1191.out; have hnb114 := NB1191_1184.out; have hnc114 := NB1184_1191.out; obtain ⟨hcz115_0, hcz115_1, hcz115_2, hfz115_0, hfz115_1, hfz115_2⟩ := xc3 BK1191; have hnb116 := NB1167_1166.out; have hnc116 := NB1166_1167.out; have hnb117 := NB1167_1184.out; have hnc117 := NB1184_1167.out; obtain ⟨hcz118_0, hcz118_1, hfz118_0, hfz118_1⟩ := xc2 BK1167; have hnb119 := NB1166_1184.out; have hnc119 := NB1184_1166.out; obtain ⟨hcz120_0, hcz120_1, hcz120_2, hfz120_0, hfz120_1, hfz120_2⟩ := xc3 BK1166
             go_wp2_with (first | (go_at_call 37; (with_reducible refine (dioramalaw10_shows.calls _ _ t1172 a0_1 a0_2 a2_0 a2_1 _ _ l1 a0_1 a0_2 t1186 t1187 false _ ?side1 ?side2 ?side3 ?side4 A90.out).mono ?_); (case side1 => exact cr HO_1192000); (case side2 => exact (Kd.R_reads' HO_1192000.out).2.1); (case side3 => exact cz HR1); (case side4 => exact HC1.out); rintro e w121 ⟨rfl, hb⟩; replace HO_9 := Aside0.mk (Kd.R_below (rz HO_9) hb); replace HO_1192000 := Aside0.mk (Kd.R_below (rz HO_1192000) hb); replace BK1166 := kb BK1166 hb; replace BK1167 := kb BK1167 hb; replace BK1184 := kb BK1184 hb; replace BK1189 := kb BK1189 hb; replace BK1191 := kb BK1191 hb; replace HB := bp hb; clear hb))
             go_ret
             exact ⟨ez, bz⟩
           ·rw [if_neg c89] at H; have c89b0 : decide (0 ≤ t1186) = false := decide_eq_false c89; clear c89; have H' := Aside0.mk H; clear H; have hnb122 := NB1189_1166.out; have hnc122 := NB1166_1189.out; have hnb123 := NB1189_1167.out; have hnc123 := NB1167_1189.out; have hnb124 := NB1189_1184.out; have hnc124 := NB1184_1189.out; have hnb125 := NB1189_1191.out; have hnc125 := NB1191_1189.out; obtain ⟨hcz126_0, hcz126_1, hfz126_0, hfz126_1⟩ := xc2 BK1189
            go_wp2
            go_meet
            case rel => exact ⟨_, H', ⟨by have := HJ3.out; have := HJ53.out; first | omega | exact Nat.le_refl _⟩, ⟨by (with_reducible repeat (first | apply Kd.R_alloc | apply Kd.R_drewN | apply Kd.R_drew)); exact Kd.R_mono HO_9.out (fun _ hk => trivial)⟩, ⟨kz⟩, ⟨kz⟩, ⟨kz⟩, ⟨kz⟩, ⟨bz⟩⟩
       ·rw [if_neg c53] at H; have c53b0 : (t1173 == 0) = false := beq_eq_false_iff_ne.mpr c53; have c53b1 : (t1173 != 0) = true := bne_iff_ne.mpr c53
        (first | rw [c53b0] | (simp only [i64_w, i32_w]; rw [c53b0]) | skip)
        have H' := Aside0.mk H; clear H
        go_wp2
        go_meet
        case rel => exact ⟨_, H', ⟨by have := HJ3.out; first | omega | exact Nat.le_refl _⟩, ⟨by (with_reducible repeat (first | apply Kd.R_alloc | apply Kd.R_drewN | apply Kd.R_drew)); exact Kd.R_mono (Kd.R_far (p := ⟨gb1189, 1, none⟩) (Kd.R_far (p := ⟨gb1189, 0, none⟩) (Kd.R_types HO1179.out BK1189.out (by decide)) (fun _ hk => hk.2) (.int .i64 t1186)) (fun _ hk => hk.2) (.int .i64 t1187)) (fun _ hk => trivial)⟩, ⟨by (with_reducible repeat (first | refine blk_drewN ?_ _ | refine blk_drew ?_ | refine blk_alloc ?_ _)); refine blk_far ?_ NB1166_1189.out _; (with_reducible repeat (first | refine blk_drewN ?_ _ | refine blk_drew ?_ | refine blk_alloc ?_ _)); refine blk_far ?_ NB1166_1189.out _; (with_reducible repeat (first | refine blk_drewN ?_ _ | refine blk_drew ?_ | refine blk_alloc ?_ _)); exact BK1166.out⟩, ⟨by (with_reducible repeat (first | refine blk_drewN ?_ _ | refine blk_drew ?_ | refine blk_alloc ?_ _)); refine blk_far ?_ NB1167_1189.out _; (with_reducible repeat (first | refine blk_drewN ?_ _ | refine blk_drew ?_ | refine blk_alloc ?_ _)); refine blk_far ?_ NB1167_1189.out _; (with_reducible repeat (first | refine blk_drewN ?_ _ | refine blk_drew ?_ | refine blk_alloc ?_ _)); exact BK1167.out⟩, ⟨by (with_reducible repeat (first | refine blk_drewN ?_ _ | refine blk_drew ?_ | refine blk_alloc ?_ _)); refine blk_far ?_ NB1184_1189.out _; (with_reducible repeat (first | refine blk_drewN ?_ _ | refine blk_drew ?_ | refine blk_alloc ?_ _)); refine blk_far ?_ NB1184_1189.out _; (with_reducible repeat (first | refine blk_drewN ?_ _ | refine blk_drew ?_ | refine blk_alloc ?_ _)); exact BK1184.out⟩, ⟨by (with_reducible repeat (first | refine blk_drewN ?_ _ | refine blk_drew ?_ | refine blk_alloc ?_ _)); refine blk_put (cs := #[.int .i64 t1186, .int .i64 0]) ?_ 1 _ rfl; (with_reducible repeat (first | refine blk_drewN ?_ _ | refine blk_drew ?_ | refine blk_alloc ?_ _)); refine blk_put (cs := #[.int .i64 0, .int .i64 0]) ?_ 0 _ rfl; (with_reducible repeat (first | refine blk_drewN ?_ _ | refine blk_drew ?_ | refine blk_alloc ?_ _)); exact BK1189.out⟩, ⟨bz⟩⟩
      case rest =>
       clear HC30
       try clear c1
       try clear c2
       try clear p2
       try clear c4
       try clear c5
       try clear c6
       try clear c7
       try clear c8
       try clear c9
       try clear c10
       try clear c11
       try clear c12
       try clear c26
       try clear c43
       try clear c45
       try clear c49
       try clear c50
       try clear c51
       try clear c53
       try clear c53b0
       try clear c53b1
       try clear c55
       try clear c56
       try clear c57
       try clear c61
       try clear c62
       try clear c63
       try clear c64
       try clear c66
       try clear c66b0
       try clear c68
       try clear c69
       try clear c70
       try clear c71
       try clear c73
       try clear c74
       try clear c75
       try clear c77
       try clear c78
       try clear c80
       try clear c83
       try clear c84
       try clear c85
       try clear c86
       try clear c88
       try clear c89
       try clear c89b0
       try clear c91
       try clear c92
       try clear c93
       try clear c94
       try clear c95
       try clear c97
       try clear c98
       try clear c99
       try clear c101
       try clear c102
       try clear c104
       try clear c107
       try clear c108
       try clear c109
       try clear c110
       try clear c112
       try clear c113
       try clear c114
       try clear c116
       try clear c117
       try clear c119
       try clear c122
       try clear c123
       try clear c124
       try clear c125
       try clear hcz100_0
       try clear hcz100_1
       try clear hcz100_2
       try clear hcz103_0
       try clear hcz103_1
       try clear hcz105_0
       try clear hcz105_1
       try clear hcz105_2
       try clear hcz111_0
       try clear hcz111_1
       try clear hcz115_0
       try clear hcz115_1
       try clear hcz115_2
       try clear hcz118_0
       try clear hcz118_1
       try clear hcz120_0
       try clear hcz120_1
       try clear hcz120_2
       try clear hcz126_0
       try clear hcz126_1
       try clear hcz44_0
       try clear hcz44_1
       try clear hcz46_0
       try clear hcz46_1
       try clear hcz52_0
       try clear hcz52_1
       try clear hcz58_0
       try clear hcz58_1
       try clear hcz58_2
       try clear hcz65_0
       try clear hcz65_1
       try clear hcz65_2
       try clear hcz72_0
       try clear hcz72_1
       try clear hcz76_0
       try clear hcz76_1
       try clear hcz76_2
       try clear hcz79_0
       try clear hcz79_1
       try clear hcz81_0
       try clear hcz81_1
       try clear hcz81_2
       try clear hcz87_0
       try clear hcz87_1
       try clear hcz96_0
       try clear hcz96_1
       try clear hfz100_0
       try clear hfz100_1
       try clear hfz100_2
       try clear hfz103_0
       try clear hfz103_1
       try clear hfz105_0
       try clear hfz105_1
       try clear hfz105_2
       try clear hfz111_0
       try clear hfz111_1
       try clear hfz115_0
       try clear hfz115_1
       try clear hfz115_2
       try clear hfz118_0
       try clear hfz118_1
       try clear hfz120_0
       try clear hfz120_1
       try clear hfz120_2
       try clear hfz126_0
       try clear hfz126_1
       try clear hfz44_0
       try clear hfz44_1
       try clear hfz46_0
       try clear hfz46_1
       try clear hfz52_0
       try clear hfz52_1
       try clear hfz58_0
       try clear hfz58_1
       try clear hfz58_2
       try clear hfz65_0
       try clear hfz65_1
       try clear hfz65_2
       try clear hfz72_0
       try clear hfz72_1
       try clear hfz76_0
       try clear hfz76_1
       try clear hfz76_2
       try clear hfz79_0
       try clear hfz79_1
       try clear hfz81_0
       try clear hfz81_1
       try clear hfz81_2
       try clear hfz87_0
       try clear hfz87_1
       try clear hfz96_0
       try clear hfz96_1
       try clear p2
       obtain ⟨kq, HA, HJ29, HO_9, BK1166, BK1167, BK1184, BK1189, HB⟩ := hcut
       cases kq with
       | zero => exact absurd HA.out (by simp [dioramalaw10_EditChains.j2])
       | succ kj29 =>
        have H := HA.out; clear HA; simp only [dioramalaw10_EditChains.j2] at H
        by_cases c127 : t1177 = 0
        ·rw [if_pos c127] at H; have c127b0 : (t1177 == 0) = true := beq_iff_eq.mpr c127; have c127b1 : (t1177 != 0) = false := bne_eq_false_iff_eq.mpr c127; clear c127; have HC128 := Aside0.mk H; clear H; have hnb129 := NB1166_1167.out; have hnc129 := NB1167_1166.out; have hnb130 := NB1166_1184.out; have hnc130 := NB1184_1166.out; have hnb131 := NB1166_1189.out; have hnc131 := NB1189_1166.out; obtain ⟨hcz132_0, hcz132_1, hcz132_2, hfz132_0, hfz132_1, hfz132_2⟩ := xc3 BK1166; obtain ⟨Ao133, co133, eo133⟩ := Kd.R_slice HO_9.out; subst eo133
         go_upto_region 19 with (first | ((with_reducible refine gate_dst (N := 16) rfl ?_); refine zB 16 24 #[.slice none 0 0, .int .i64 0, .int .i64 0] ?_; intro gb1194 hg w134 hbox hb; replace HO_9 := Aside0.mk (Kd.R_below (rz HO_9) hb); have BK1194 := Aside0.mk hbox; have GW1194 := gz hg; have GE1194 := gz hg; replace HB := bp hb; have NB1166_1194 := Aside0.mk ((by rw [hg]; exact Nat.ne_of_lt (bl BK1166) : gb1166 ≠ gb1194)); have NB1194_1166 := Aside0.mk ((by rw [hg]; exact Nat.ne_of_gt (bl BK1166) : gb1194 ≠ gb1166)); replace BK1166 := kb BK1166 hb; have NB1167_1194 := Aside0.mk ((by rw [hg]; exact Nat.ne_of_lt (bl BK1167) : gb1167 ≠ gb1194)); have NB1194_1167 := Aside0.mk ((by rw [hg]; exact Nat.ne_of_gt (bl BK1167) : gb1194 ≠ gb1167)); replace BK1167 := kb BK1167 hb; have NB1184_1194 := Aside0.mk ((by rw [hg]; exact Nat.ne_of_lt (bl BK1184) : gb1184 ≠ gb1194)); have NB1194_1184 := Aside0.mk ((by rw [hg]; exact Nat.ne_of_gt (bl BK1184) : gb1194 ≠ gb1184)); replace BK1184 := kb BK1184 hb; have NB1189_1194 := Aside0.mk ((by rw [hg]; exact Nat.ne_of_lt (bl BK1189) : gb1189 ≠ gb1194)); have NB1194_1189 := Aside0.mk ((by rw [hg]; exact Nat.ne_of_gt (bl BK1189) : gb1194 ≠ gb1189)); replace BK1189 := kb BK1189 hb; clear hb hbox hg; have hnb135 := NB1194_1166.out; have hnc135 := NB1166_1194.out; have hnb136 := NB1194_1167.out; have hnc136 := NB1167_1194.out; have hnb137 := NB1194_1184.out; have hnc137 := NB1184_1194.out; have hnb138 := NB1194_1189.out; have hnc138 := NB1189_1194.out; obtain ⟨hcz139_0, hcz139_1, hcz139_2, hfz139_0, hfz139_1, hfz139_2⟩ := xc3 BK1194))
         (try simp only [Act.put, List.setIfInBounds_toArray, List.set_cons_zero, List.set_cons_succ])
         go_cut [127] (fun v127 wc => ∃ (kq : Nat) (x127_127 : Bool), v127 = .bool x127_127 ∧ Aside0 (dioramalaw10_EditChains.j3 kq t1176 x127_127 l0_0 a0_1 a0_2 a2_0 a2_1 t1186 t1187 t1176 a0_1 a0_2 = some r) ∧ Aside0 (kq ≤ kj29) ∧ Aside0 (Kd.R k77 77 wc w.heap.size (fun _ => True) (.slice Ao133 t1176.length co133) t1176) ∧ Aside0 (Kd.R k77 77 wc w.heap.size (fun _ => True) (.slice Ao133 t1176.length co133) t1176) ∧ Aside0 (wc.heap[gb1166]? = some (.cells #[(.slice A0_0 l0_0.length c0_0), .int .i64 a0_1, .int .i64 a0_2] 24 (0, 0))) ∧ Aside0 (wc.heap[gb1167]? = some (.cells #[.int .i64 a2_0, .int .i64 a2_1] 37 (0, 0))) ∧ Aside0 (wc.heap[gb1184]? = some (.cells #[.int .i64 t1181, .int .i64 t1182] 37 (0, 0))) ∧ Aside0 (wc.heap[gb1189]? = some (.cells #[.int .i64 t1186, .int .i64 t1187] 37 (0, 0))) ∧ Aside0 (wc.heap[gb1194]? = some (.cells #[(.slice Ao133 t1176.length co133), .int .i64 a0_1, .int .i64 a0_2] 24 (0, 0))) ∧ Aside0 (Below w.heap.size w wc))
         case first =>
          have H := HC128.out; clear HC128
          by_cases c140 : t1186 < 0
          ·rw [if_pos c140] at H; have c140b0 : decide (t1186 < 0) = true := decide_eq_true c140; clear c140
           (first | rw [c140b0] | (simp only [i64_w, i32_w]; rw [c140b0]) | skip)
           obtain ⟨t1195, A141, H⟩ := ob H; have H' := Aside0.mk H; clear H; have hnb142 := NB1189_1166.out; have hnc142 := NB1166_1189.out; have hnb143 := NB1189_1167.out; have hnc143 := NB1167_1189.out; have hnb144 := NB1189_1184.out; have hnc144 := NB1184_1189.out; have hnb145 := NB1189_1194.out; have hnc145 := NB1194_1189.out; obtain ⟨hcz146_0, hcz146_1, hfz146_0, hfz146_1⟩ := xc2 BK1189; have hnb147 := NB1194_1166.out; have hnc147 := NB1166_1194.out; have hnb148 := NB1194_1167.out; have hnc148 := NB1167_1194.out; have hnb149 := NB1194_1184.out; have hnc149 := NB1184_1194.out; obtain ⟨hcz150_0, hcz150_1, hcz150_2, hfz150_0, hfz150_1, hfz150_2⟩ := xc3 BK1194; have hnb151 := NB1167_1166.out; have hnc151 := NB1166_1167.out; have hnb152 := NB1167_1184.out; have hnc152 := NB1184_1167.out; obtain ⟨hcz153_0, hcz153_1, hfz153_0, hfz153_1⟩ := xc2 BK1167; have hnb154 := NB1166_1184.out; have hnc154 := NB1184_1166.out; obtain ⟨hcz155_0, hcz155_1, hcz155_2, hfz155_0, hfz155_1, hfz155_2⟩ := xc3 BK1166
           go_wp2_with (first | (go_at_call 37; (with_reducible refine (dioramalaw10_shows.calls _ _ t1176 a0_1 a0_2 a2_0 a2_1 _ _ l0_0 a0_1 a0_2 a2_0 a2_1 t1195 _ ?side1 ?side2 ?side3 ?side4 A141.out).mono ?_); (case side1 => refine (Kd.R_reads' (e := 77) (base := w.heap.size) (ok := fun k_ => True) (n := t1176.length) (c := co133) ?_).2.2; exact (by (with_reducible repeat (first | apply Kd.R_alloc | apply Kd.R_drewN | apply Kd.R_drew)); exact (Kd.R_mono (Kd.R_far (p := ⟨gb1194, 2, none⟩) (Kd.R_far (p := ⟨gb1194, 1, none⟩) (Kd.R_far (p := ⟨gb1194, 0, none⟩) (Kd.R_types HO_9.out BK1194.out (by decide)) (fun _ hk => hk.2) (.slice Ao133 t1176.length co133)) (fun _ hk => hk.2) (.int .i64 a0_1)) (fun _ hk => hk.2) (.int .i64 a0_2)) (fun _ h_ => h_.1)))); (case side2 => exact (Kd.R_reads' HO_9.out).2.1); (case side3 => exact Kd.C_below HR0_0.out bz); (case side4 => exact HC0_0.out); rintro e w156 ⟨rfl, hb⟩; replace HO_9 := Aside0.mk (Kd.R_below (by (with_reducible repeat (first | apply Kd.R_alloc | apply Kd.R_drewN | apply Kd.R_drew)); exact (Kd.R_mono (Kd.R_far (p := ⟨gb1194, 2, none⟩) (Kd.R_far (p := ⟨gb1194, 1, none⟩) (Kd.R_far (p := ⟨gb1194, 0, none⟩) (Kd.R_types HO_9.out BK1194.out (by decide)) (fun _ hk => hk.2) (.slice Ao133 t1176.length co133)) (fun _ hk => hk.2) (.int .i64 a0_1)) (fun _ hk => hk.2) (.int .i64 a0_2)) (fun _ h_ => h_.1))) hb); replace BK1166 := Aside0.mk (blk_below (g := gb1166) (o := .cells #[.slice A0_0 l0_0.length c0_0, .int .i64 a0_1, .int .i64 a0_2] 24 (0, 0)) (by (with_reducible repeat (first | refine blk_drewN ?_ _ | refine blk_drew ?_ | refine blk_alloc ?_ _)); refine blk_far ?_ NB1166_1194.out _; (with_reducible repeat (first | refine blk_drewN ?_ _ | refine blk_drew ?_ | refine blk_alloc ?_ _)); refine blk_far ?_ NB1166_1194.out _; (with_reducible repeat (first | refine blk_drewN ?_ _ | refine blk_drew ?_ | refine blk_alloc ?_ _)); refine blk_far ?_ NB1166_1194.out _; (with_reducible repeat (first | refine blk_drewN ?_ _ | refine blk_drew ?_ | refine blk_alloc ?_ _)); exact BK1166.out) hb); replace BK1167 := Aside0.mk (blk_below (g := gb1167) (o := .cells #[.int .i64 a2_0, .int .i64 a2_1] 37 (0, 0)) (by (with_reducible repeat (first | refine blk_drewN ?_ _ | refine blk_drew ?_ | refine blk_alloc ?_ _)); refine blk_far ?_ NB1167_1194.out _; (with_reducible repeat (first | refine blk_drewN ?_ _ | refine blk_drew ?_ | refine blk_alloc ?_ _)); refine blk_far ?_ NB1167_1194.out _; (with_reducible repeat (first | refine blk_drewN ?_ _ | refine blk_drew ?_ | refine blk_alloc ?_ _)); refine blk_far ?_ NB1167_1194.out _; (with_reducible repeat (first | refine blk_drewN ?_ _ | refine blk_drew ?_ | refine blk_alloc ?_ _)); exact BK1167.out) hb); replace BK1184 := Aside0.mk (blk_below (g := gb1184) (o := .cells #[.int .i64 t1181, .int .i64 t1182] 37 (0, 0)) (by (with_reducible repeat (first | refine blk_drewN ?_ _ | refine blk_drew ?_ | refine blk_alloc ?_ _)); refine blk_far ?_ NB1184_1194.out _; (with_reducible repeat (first | refine blk_drewN ?_ _ | refine blk_drew ?_ | refine blk_alloc ?_ _)); refine blk_far ?_ NB1184_1194.out _; (with_reducible repeat (first | refine blk_drewN ?_ _ | refine blk_drew ?_ | refine blk_alloc ?_ _)); refine blk_far ?_ NB1184_1194.out _; (with_reducible repeat (first | refine blk_drewN ?_ _ | refine blk_drew ?_ | refine blk_alloc ?_ _)); exact BK1184.out) hb); replace BK1189 := Aside0.mk (blk_below (g := gb1189) (o := .cells #[.int .i64 t1186, .int .i64 t1187] 37 (0, 0)) (by (with_reducible repeat (first | refine blk_drewN ?_ _ | refine blk_drew ?_ | refine blk_alloc ?_ _)); refine blk_far ?_ NB1189_1194.out _; (with_reducible repeat (first | refine blk_drewN ?_ _ | refine blk_drew ?_ | refine blk_alloc ?_ _)); refine blk_far ?_ NB1189_1194.out _; (with_reducible repeat (first | refine blk_drewN ?_ _ | refine blk_drew ?_ | refine blk_alloc ?_ _)); refine blk_far ?_ NB1189_1194.out _; (with_reducible repeat (first | refine blk_drewN ?_ _ | refine blk_drew ?_ | refine blk_alloc ?_ _)); exact BK1189.out) hb); replace BK1194 := Aside0.mk (blk_below (g := gb1194) (o := .cells #[.slice Ao133 t1176.length co133, .int .i64 a0_1, .int .i64 a0_2] 24 (0, 0)) (by (with_reducible repeat (first | refine blk_drewN ?_ _ | refine blk_drew ?_ | refine blk_alloc ?_ _)); refine blk_put (cs := #[.slice Ao133 t1176.length co133, .int .i64 a0_1, .int .i64 0]) ?_ 2 _ rfl; (with_reducible repeat (first | refine blk_drewN ?_ _ | refine blk_drew ?_ | refine blk_alloc ?_ _)); refine blk_put (cs := #[.slice Ao133 t1176.length co133, .int .i64 0, .int .i64 0]) ?_ 1 _ rfl; (with_reducible repeat (first | refine blk_drewN ?_ _ | refine blk_drew ?_ | refine blk_alloc ?_ _)); refine blk_put (cs := #[.slice none 0 0, .int .i64 0, .int .i64 0]) ?_ 0 _ rfl; (with_reducible repeat (first | refine blk_drewN ?_ _ | refine blk_drew ?_ | refine blk_alloc ?_ _)); exact BK1194.out) hb); replace HB := bp hb; clear hb))
           go_meet
           case rel => exact ⟨_, (!t1195), jz, H', ⟨by have := HJ3.out; have := HJ29.out; first | omega | exact Nat.le_refl _⟩, ⟨rz HO_9⟩, ⟨rz HO_9⟩, ⟨kz⟩, ⟨kz⟩, ⟨kz⟩, ⟨kz⟩, ⟨kz⟩, ⟨bz⟩⟩
          ·rw [if_neg c140] at H; have c140b0 : decide (t1186 < 0) = false := decide_eq_false c140; clear c140
           (first | rw [c140b0] | (simp only [i64_w, i32_w]; rw [c140b0]) | skip)
           have H' := Aside0.mk H; clear H; have hnb157 := NB1189_1166.out; have hnc157 := NB1166_1189.out; have hnb158 := NB1189_1167.out; have hnc158 := NB1167_1189.out; have hnb159 := NB1189_1184.out; have hnc159 := NB1184_1189.out; have hnb160 := NB1189_1194.out; have hnc160 := NB1194_1189.out; obtain ⟨hcz161_0, hcz161_1, hfz161_0, hfz161_1⟩ := xc2 BK1189
           go_wp2
           go_meet
           case rel => exact ⟨_, (false), jz, H', ⟨by have := HJ3.out; have := HJ29.out; first | omega | exact Nat.le_refl _⟩, ⟨by (with_reducible repeat (first | apply Kd.R_alloc | apply Kd.R_drewN | apply Kd.R_drew)); exact Kd.R_mono (Kd.R_far (p := ⟨gb1194, 2, none⟩) (Kd.R_far (p := ⟨gb1194, 1, none⟩) (Kd.R_far (p := ⟨gb1194, 0, none⟩) (Kd.R_types HO_9.out BK1194.out (by decide)) (fun _ hk => hk.2) (.slice Ao133 t1176.length co133)) (fun _ hk => hk.2) (.int .i64 a0_1)) (fun _ hk => hk.2) (.int .i64 a0_2)) (fun _ hk => trivial)⟩, ⟨by (with_reducible repeat (first | apply Kd.R_alloc | apply Kd.R_drewN | apply Kd.R_drew)); exact Kd.R_mono (Kd.R_far (p := ⟨gb1194, 2, none⟩) (Kd.R_far (p := ⟨gb1194, 1, none⟩) (Kd.R_far (p := ⟨gb1194, 0, none⟩) (Kd.R_types HO_9.out BK1194.out (by decide)) (fun _ hk => hk.2) (.slice Ao133 t1176.length co133)) (fun _ hk => hk.2) (.int .i64 a0_1)) (fun _ hk => hk.2) (.int .i64 a0_2)) (fun _ hk => trivial)⟩, ⟨by (with_reducible repeat (first | refine blk_drewN ?_ _ | refine blk_drew ?_ | refine blk_alloc ?_ _)); refine blk_far ?_ NB1166_1194.out _; (with_reducible repeat (first | refine blk_drewN ?_ _ | refine blk_drew ?_ | refine blk_alloc ?_ _)); refine blk_far ?_ NB1166_1194.out _; (with_reducible repeat (first | refine blk_drewN ?_ _ | refine blk_drew ?_ | refine blk_alloc ?_ _)); refine blk_far ?_ NB1166_1194.out _; (with_reducible repeat (first | refine blk_drewN ?_ _ | refine blk_drew ?_ | refine blk_alloc ?_ _)); exact BK1166.out⟩, ⟨by (with_reducible repeat (first | refine blk_drewN ?_ _ | refine blk_drew ?_ | refine blk_alloc ?_ _)); refine blk_far ?_ NB1167_1194.out _; (with_reducible repeat (first | refine blk_drewN ?_ _ | refine blk_drew ?_ | refine blk_alloc ?_ _)); refine blk_far ?_ NB1167_1194.out _; (with_reducible repeat (first | refine blk_drewN ?_ _ | refine blk_drew ?_ | refine blk_alloc ?_ _)); refine blk_far ?_ NB1167_1194.out _; (with_reducible repeat (first | refine blk_drewN ?_ _ | refine blk_drew ?_ | refine blk_alloc ?_ _)); exact BK1167.out⟩, ⟨by (with_reducible repeat (first | refine blk_drewN ?_ _ | refine blk_drew ?_ | refine blk_alloc ?_ _)); refine blk_far ?_ NB1184_1194.out _; (with_reducible repeat (first | refine blk_drewN ?_ _ | refine blk_drew ?_ | refine blk_alloc ?_ _)); refine blk_far ?_ NB1184_1194.out _; (with_reducible repeat (first | refine blk_drewN ?_ _ | refine blk_drew ?_ | refine blk_alloc ?_ _)); refine blk_far ?_ NB1184_1194.out _; (with_reducible repeat (first | refine blk_drewN ?_ _ | refine blk_drew ?_ | refine blk_alloc ?_ _)); exact BK1184.out⟩, ⟨by (with_reducible repeat (first | refine blk_drewN ?_ _ | refine blk_drew ?_ | refine blk_alloc ?_ _)); refine blk_far ?_ NB1189_1194.out _; (with_reducible repeat (first | refine blk_drewN ?_ _ | refine blk_drew ?_ | refine blk_alloc ?_ _)); refine blk_far ?_ NB1189_1194.out _; (with_reducible repeat (first | refine blk_drewN ?_ _ | refine blk_drew ?_ | refine blk_alloc ?_ _)); refine blk_far ?_ NB1189_1194.out _; (with_reducible repeat (first | refine blk_drewN ?_ _ | refine blk_drew ?_ | refine blk_alloc ?_ _)); exact BK1189.out⟩, ⟨by (with_reducible repeat (first | refine blk_drewN ?_ _ | refine blk_drew ?_ | refine blk_alloc ?_ _)); refine blk_put (cs := #[.slice Ao133 t1176.length co133, .int .i64 a0_1, .int .i64 0]) ?_ 2 _ rfl; (with_reducible repeat (first | refine blk_drewN ?_ _ | refine blk_drew ?_ | refine blk_alloc ?_ _)); refine blk_put (cs := #[.slice Ao133 t1176.length co133, .int .i64 0, .int .i64 0]) ?_ 1 _ rfl; (with_reducible repeat (first | refine blk_drewN ?_ _ | refine blk_drew ?_ | refine blk_alloc ?_ _)); refine blk_put (cs := #[.slice none 0 0, .int .i64 0, .int .i64 0]) ?_ 0 _ rfl; (with_reducible repeat (first | refine blk_drewN ?_ _ | refine blk_drew ?_ | refine blk_alloc ?_ _)); exact BK1194.out⟩, ⟨bz⟩⟩
         case rest =>
          clear HC128
          try clear c1
          try clear c2
          try clear p2
          try clear c4
          try clear c5
          try clear c6
          try clear c7
          try clear c8
          try clear c9
          try clear c10
          try clear c11
          try clear c12
          try clear c13
          try clear c14
          try clear c15
          try clear c16
          try clear c26
          try clear c43
          try clear c45
          try clear c49
          try clear c50
          try clear c51
          try clear c53
          try clear c53b0
          try clear c53b1
          try clear c55
          try clear c56
          try clear c57
          try clear c61
          try clear c62
          try clear c63
          try clear c64
          try clear c66
          try clear c66b0
          try clear c68
          try clear c69
          try clear c70
          try clear c71
          try clear c73
          try clear c74
          try clear c75
          try clear c77
          try clear c78
          try clear c80
          try clear c83
          try clear c84
          try clear c85
          try clear c86
          try clear c88
          try clear c89
          try clear c89b0
          try clear c91
          try clear c92
          try clear c93
          try clear c94
          try clear c95
          try clear c97
          try clear c98
          try clear c99
          try clear c101
          try clear c102
          try clear c104
          try clear c107
          try clear c108
          try clear c109
          try clear c110
          try clear c112
          try clear c113
          try clear c114
          try clear c116
          try clear c117
          try clear c119
          try clear c122
          try clear c123
          try clear c124
          try clear c125
          try clear c127
          try clear c127b0
          try clear c127b1
          try clear c129
          try clear c130
          try clear c131
          try clear c135
          try clear c136
          try clear c137
          try clear c138
          try clear c140
          try clear c140b0
          try clear c142
          try clear c143
          try clear c144
          try clear c145
          try clear c147
          try clear c148
          try clear c149
          try clear c151
          try clear c152
          try clear c154
          try clear c157
          try clear c158
          try clear c159
          try clear c160
          try clear hcz100_0
          try clear hcz100_1
          try clear hcz100_2
          try clear hcz103_0
          try clear hcz103_1
          try clear hcz105_0
          try clear hcz105_1
          try clear hcz105_2
          try clear hcz111_0
          try clear hcz111_1
          try clear hcz115_0
          try clear hcz115_1
          try clear hcz115_2
          try clear hcz118_0
          try clear hcz118_1
          try clear hcz120_0
          try clear hcz120_1
          try clear hcz120_2
          try clear hcz126_0
          try clear hcz126_1
          try clear hcz132_0
          try clear hcz132_1
          try clear hcz132_2
          try clear hcz139_0
          try clear hcz139_1
          try clear hcz139_2
          try clear hcz146_0
          try clear hcz146_1
          try clear hcz150_0
          try clear hcz150_1
          try clear hcz150_2
          try clear hcz153_0
          try clear hcz153_1
          try clear hcz155_0
          try clear hcz155_1
          try clear hcz155_2
          try clear hcz161_0
          try clear hcz161_1
          try clear hcz44_0
          try clear hcz44_1
          try clear hcz46_0
          try clear hcz46_1
          try clear hcz52_0
          try clear hcz52_1
          try clear hcz58_0
          try clear hcz58_1
          try clear hcz58_2
          try clear hcz65_0
          try clear hcz65_1
          try clear hcz65_2
          try clear hcz72_0
          try clear hcz72_1
          try clear hcz76_0
          try clear hcz76_1
          try clear hcz76_2
          try clear hcz79_0
          try clear hcz79_1
          try clear hcz81_0
          try clear hcz81_1
          try clear hcz81_2
          try clear hcz87_0
          try clear hcz87_1
          try clear hcz96_0
          try clear hcz96_1
          try clear hfz100_0
          try clear hfz100_1
          try clear hfz100_2
          try clear hfz103_0
          try clear hfz103_1
          try clear hfz105_0
          try clear hfz105_1
          try clear hfz105_2
          try clear hfz111_0
          try clear hfz111_1
          try clear hfz115_0
          try clear hfz115_1
          try clear hfz115_2
          try clear hfz118_0
          try clear hfz118_1
          try clear hfz120_0
          try clear hfz120_1
          try clear hfz120_2
          try clear hfz126_0
          try clear hfz126_1
          try clear hfz132_0
          try clear hfz132_1
          try clear hfz132_2
          try clear hfz139_0
          try clear hfz139_1
          try clear hfz139_2
          try clear hfz146_0
          try clear hfz146_1
          try clear hfz150_0
          try clear hfz150_1
          try clear hfz150_2
          try clear hfz153_0
          try clear hfz153_1
          try clear hfz155_0
          try clear hfz155_1
          try clear hfz155_2
          try clear hfz161_0
          try clear hfz161_1
          try clear hfz44_0
          try clear hfz44_1
          try clear hfz46_0
          try clear hfz46_1
          try clear hfz52_0
          try clear hfz52_1
          try clear hfz58_0
          try clear hfz58_1
          try clear hfz58_2
          try clear hfz65_0
          try clear hfz65_1
          try clear hfz65_2
          try clear hfz72_0
          try clear hfz72_1
          try clear hfz76_0
          try clear hfz76_1
          try clear hfz76_2
          try clear hfz79_0
          try clear hfz79_1
          try clear hfz81_0
          try clear hfz81_1
          try clear hfz81_2
          try clear hfz87_0
          try clear hfz87_1
          try clear hfz96_0
          try clear hfz96_1
          try clear p2
          obtain ⟨kq, x127_127, rfl, HA, HJ127, HO_9, HO_1195000, BK1166, BK1167, BK1184, BK1189, BK1194, HB⟩ := hcut
          cases kq with
          | zero => exact absurd HA.out (by simp [dioramalaw10_EditChains.j3])
          | succ kj127 =>
           have H := HA.out; clear HA; simp only [dioramalaw10_EditChains.j3] at H
           by_cases c162 : x127_127 = true
           ·subst c162; rw [if_pos rfl] at H; obtain rfl := Option.some.inj H
            go_wp2
            go_ret
            exact ⟨ez, bz⟩
           ·obtain rfl := bf c162; rw [if_neg (show ¬ (false = true) by decide)] at H; have HC163 := Aside0.mk H; clear H
            go_upto_region 21 with (fail)
            go_cut [139] (fun v139 wc => ∃ (kq : Nat) (x139_162 : Bool), v139 = .bool x139_162 ∧ Aside0 (dioramalaw10_EditChains.j4 kq x139_162 l0_0 a0_1 a0_2 a2_0 a2_1 t1186 t1187 t1176 a0_1 a0_2 = some r) ∧ Aside0 (kq ≤ kj127) ∧ Aside0 (Kd.R k77 77 wc w.heap.size (fun _ => True) (.slice Ao133 t1176.length co133) t1176) ∧ Aside0 (wc.heap[gb1166]? = some (.cells #[(.slice A0_0 l0_0.length c0_0), .int .i64 a0_1, .int .i64 a0_2] 24 (0, 0))) ∧ Aside0 (wc.heap[gb1167]? = some (.cells #[.int .i64 a2_0, .int .i64 a2_1] 37 (0, 0))) ∧ Aside0 (wc.heap[gb1184]? = some (.cells #[.int .i64 t1181, .int .i64 t1182] 37 (0, 0))) ∧ Aside0 (wc.heap[gb1189]? = some (.cells #[.int .i64 t1186, .int .i64 t1187] 37 (0, 0))) ∧ Aside0 (wc.heap[gb1194]? = some (.cells #[(.slice Ao133 t1176.length co133), .int .i64 a0_1, .int .i64 a0_2] 24 (0, 0))) ∧ Aside0 (Below w.heap.size w wc))
            case first =>
             have H := HC163.out; clear HC163
             by_cases c164 : t1186 ≥ 0
             ·rw [if_pos c164] at H; have c164b0 : decide (0 ≤ t1186) = true := decide_eq_true c164; clear c164
              (first | rw [c164b0] | (simp only [i64_w, i32_w]; rw [c164b0]) | skip)
              obtain ⟨t1196, A165, H⟩ := ob H; obtain ⟨t1197, A166, H⟩ := ob H; have H' := Aside0.mk H; clear H
              try go_wp2
              replace HO_9 := Aside0.mk (Kd.R_drew HO_9.out); replace HO_1195000 := Aside0.mk (Kd.R_drew HO_1195000.out); replace BK1166 := Aside0.mk (blk_drew BK1166.out); replace BK1167 := Aside0.mk (blk_drew BK1167.out); replace BK1184 := Aside0.mk (blk_drew BK1184.out); replace BK1189 := Aside0.mk (blk_drew BK1189.out); replace BK1194 := Aside0.mk (blk_drew BK1194.out); replace HB := Aside0.mk (below_drew1 HB.out); refine start_ (n := 12) (S := fun w' => w'.cell? ⟨gb1189, 0, none⟩ = some (.int .i64 t1186) ∧ w'.cell? ⟨gb1189, 1, none⟩ = some (.int .i64 t1187) ∧ w'.cell? ⟨gb1166, 0, none⟩ = some (.slice A0_0 l0_0.length c0_0) ∧ w'.cell? ⟨gb1166, 1, none⟩ = some (.int .i64 a0_1) ∧ w'.cell? ⟨gb1166, 2, none⟩ = some (.int .i64 a0_2)) (ds := []) (bs 12 0) (by kernel_rfl) rfl rfl ⟨ct BK1189 0, ct BK1189 1, ct BK1166 0, ct BK1166 1, ct BK1166 2⟩ (fun hHeld => ?_)
              generalize wc.drew = w167 at HO_9 HO_1195000 BK1166 BK1167 BK1184 BK1189 BK1194 HB hHeld ⊢; refine zP 0 128 12 1 ?_; refine zT 1 129 12 3 hHeld ?_; refine zP 2 130 12 7 ?_; refine zP 3 131 12 15 ?_; refine zP 4 132 12 31 ?_; refine zP 6 134 12 95 ?_; refine zT 7 135 12 223 hHeld ?_; refine zN 5 (some 133) 12 255 (fun K hK => ?_); refine zG Try.func26 #[.slice Ao133 t1176.length co133] ?_
              with_reducible refine (edit_Length.calls _ _ t1176 t1196 _ ?side1 ?side2 A165.out).mono ?_
              (case side1 => exact cr HO_9)
              (case side2 => exact (Kd.R_reads' HO_9.out).2.1)
              rintro e w168 ⟨rfl, hb⟩; refine ⟨_, rfl, ?_⟩; replace HO_9 := Aside0.mk (Kd.R_below (rz HO_9) hb); replace HO_1195000 := Aside0.mk (Kd.R_below (rz HO_1195000) hb); replace BK1166 := kb BK1166 hb; replace BK1167 := kb BK1167 hb; replace BK1184 := kb BK1184 hb; replace BK1189 := kb BK1189 hb; replace BK1194 := kb BK1194 hb; replace HB := bp hb; clear hb; refine hK.out _ _ ⟨ct BK1189 0, ct BK1189 1, ct BK1166 0, ct BK1166 1, ct BK1166 2⟩ (fun hHeld => ?_); clear hK K; refine zM 133 ?_; refine zN 8 (some 136) 12 511 (fun K hK => ?_); refine zG Try.func26 #[.slice A0_0 l0_0.length c0_0] ?_
              with_reducible refine (edit_Length.calls _ _ l0_0 t1197 _ ?side1 ?side2 A166.out).mono ?_
              (case side1 => exact cz HR0_0)
              (case side2 => exact HC0_0.out)
              rintro e w169 ⟨rfl, hb⟩; refine ⟨_, rfl, ?_⟩; replace HO_9 := Aside0.mk (Kd.R_below (rz HO_9) hb); replace HO_1195000 := Aside0.mk (Kd.R_below (rz HO_1195000) hb); replace BK1166 := kb BK1166 hb; replace BK1167 := kb BK1167 hb; replace BK1184 := kb BK1184 hb; replace BK1189 := kb BK1189 hb; replace BK1194 := kb BK1194 hb; replace HB := bp hb; clear hb; refine hK.out _ _ ⟨ct BK1189 0, ct BK1189 1, ct BK1166 0, ct BK1166 1, ct BK1166 2⟩ (fun hHeld => ?_); clear hK K; refine zM 136 ?_; refine zP 9 137 12 1023 ?_; refine zP 10 138 12 2047 ?_; refine zP 11 139 12 4095 ?_; refine done_ (by kernel_rfl) ?_
              try go_wp2
              go_meet
              case rel => exact ⟨_, ((t1196 != (wrap64 (3 * t1197)))), jz, H', ⟨by have := HJ3.out; have := HJ29.out; have := HJ127.out; first | omega | exact Nat.le_refl _⟩, ⟨rz HO_1195000⟩, ⟨kz⟩, ⟨kz⟩, ⟨kz⟩, ⟨kz⟩, ⟨kz⟩, ⟨bz⟩⟩
             ·rw [if_neg c164] at H; have c164b0 : decide (0 ≤ t1186) = false := decide_eq_false c164; clear c164
              (first | rw [c164b0] | (simp only [i64_w, i32_w]; rw [c164b0]) | skip)
              have H' := Aside0.mk H; clear H
              try go_wp2
              replace HO_9 := Aside0.mk (Kd.R_drew HO_9.out); replace HO_1195000 := Aside0.mk (Kd.R_drew HO_1195000.out); replace BK1166 := Aside0.mk (blk_drew BK1166.out); replace BK1167 := Aside0.mk (blk_drew BK1167.out); replace BK1184 := Aside0.mk (blk_drew BK1184.out); replace BK1189 := Aside0.mk (blk_drew BK1189.out); replace BK1194 := Aside0.mk (blk_drew BK1194.out); replace HB := Aside0.mk (below_drew1 HB.out); refine start_ (n := 12) (S := fun w' => w'.cell? ⟨gb1189, 0, none⟩ = some (.int .i64 t1186) ∧ w'.cell? ⟨gb1189, 1, none⟩ = some (.int .i64 t1187)) (ds := []) (bs 12 0) (by kernel_rfl) rfl rfl ⟨ct BK1189 0, ct BK1189 1⟩ (fun hHeld => ?_)
              generalize wc.drew = w170 at HO_9 HO_1195000 BK1166 BK1167 BK1184 BK1189 BK1194 HB hHeld ⊢; refine zP 0 128 12 1 ?_; refine zT 1 129 12 3 hHeld ?_; refine zP 2 130 12 7 ?_; refine zP 3 131 12 15 ?_; refine zO 4 132 12 31 ?_; refine zO 5 133 12 63 ?_; refine zO 6 134 12 127 ?_; refine zO 7 135 12 255 ?_; refine zO 8 136 12 511 ?_; refine zO 9 137 12 1023 ?_; refine zO 10 138 12 2047 ?_; refine zP 11 139 12 4095 ?_; refine done_ (by kernel_rfl) ?_
              try go_wp2
              go_meet
              case rel => exact ⟨_, (false), jz, H', ⟨by have := HJ3.out; have := HJ29.out; have := HJ127.out; first | omega | exact Nat.le_refl _⟩, ⟨rz HO_1195000⟩, ⟨kz⟩, ⟨kz⟩, ⟨kz⟩, ⟨kz⟩, ⟨kz⟩, ⟨bz⟩⟩
            case rest =>
             clear HC163
             try clear c1
             try clear c2
             try clear p2
             try clear c4
             try clear c5
             try clear c6
             try clear p6
             try clear c7
             try clear c8
             try clear c9
             try clear c10
             try clear c11
             try clear c12
             try clear c13
             try clear c14
             try clear c15
             try clear c16
             try clear c26
             try clear c43
             try clear c45
             try clear c49
             try clear c50
             try clear c51
             try clear c53
             try clear c53b0
             try clear c53b1
             try clear c55
             try clear c56
             try clear c57
             try clear c61
             try clear c62
             try clear c63
             try clear c64
             try clear p64
             try clear c66
             try clear c66b0
             try clear c68
             try clear c69
             try clear c70
             try clear c71
             try clear c73
             try clear c74
             try clear c75
             try clear c77
             try clear c78
             try clear c80
             try clear c83
             try clear c84
             try clear c85
             try clear c86
             try clear c88
             try clear c89
             try clear c89b0
             try clear c91
             try clear c92
             try clear c93
             try clear c94
             try clear c95
             try clear c97
             try clear c98
             try clear c99
             try clear c101
             try clear c102
             try clear c104
             try clear c107
             try clear c108
             try clear c109
             try clear c110
             try clear c112
             try clear c113
             try clear c114
             try clear c116
             try clear c117
             try clear c119
             try clear c122
             try clear c123
             try clear c124
             try clear c125
             try clear c127
             try clear c127b0
             try clear c127b1
             try clear c129
             try clear c130
             try clear c131
             try clear c135
             try clear c136
             try clear c137
             try clear c138
             try clear c140
             try clear c140b0
             try clear c142
             try clear c143
             try clear c144
             try clear c145
             try clear c147
             try clear c148
             try clear c149
             try clear c151
             try clear c152
             try clear c154
             try clear c157
             try clear c158
             try clear c159
             try clear c160
             try clear c162
             try clear c164
             try clear c164b0
             try clear hcz100_0
             try clear hcz100_1
             try clear hcz100_2
             try clear hcz103_0
             try clear hcz103_1
             try clear hcz105_0
             try clear hcz105_1
             try clear hcz105_2
             try clear hcz111_0
             try clear hcz111_1
             try clear hcz115_0
             try clear hcz115_1
             try clear hcz115_2
             try clear hcz118_0
             try clear hcz118_1
             try clear hcz120_0
             try clear hcz120_1
             try clear hcz120_2
             try clear hcz126_0
             try clear hcz126_1
             try clear hcz132_0
             try clear hcz132_1
             try clear hcz132_2
             try clear hcz139_0
             try clear hcz139_1
             try clear hcz139_2
             try clear hcz146_0
             try clear hcz146_1
             try clear hcz150_0
             try clear hcz150_1
             try clear hcz150_2
             try clear hcz153_0
             try clear hcz153_1
             try clear hcz155_0
             try clear hcz155_1
             try clear hcz155_2
             try clear hcz161_0
             try clear hcz161_1
             try clear hcz44_0
             try clear hcz44_1
             try clear hcz46_0
             try clear hcz46_1
             try clear hcz52_0
             try clear hcz52_1
             try clear hcz58_0
             try clear hcz58_1
             try clear hcz58_2
             try clear hcz65_0
             try clear hcz65_1
             try clear hcz65_2
             try clear hcz72_0
             try clear hcz72_1
             try clear hcz76_0
             try clear hcz76_1
             try clear hcz76_2
             try clear hcz79_0
             try clear hcz79_1
             try clear hcz81_0
             try clear hcz81_1
             try clear hcz81_2
             try clear hcz87_0
             try clear hcz87_1
             try clear hcz96_0
             try clear hcz96_1
             try clear hfz100_0
             try clear hfz100_1
             try clear hfz100_2
             try clear hfz103_0
             try clear hfz103_1
             try clear hfz105_0
             try clear hfz105_1
             try clear hfz105_2
             try clear hfz111_0
             try clear hfz111_1
             try clear hfz115_0
             try clear hfz115_1
             try clear hfz115_2
             try clear hfz118_0
             try clear hfz118_1
             try clear hfz120_0
             try clear hfz120_1
             try clear hfz120_2
             try clear hfz126_0
             try clear hfz126_1
             try clear hfz132_0
             try clear hfz132_1
             try clear hfz132_2
             try clear hfz139_0
             try clear hfz139_1
             try clear hfz139_2
             try clear hfz146_0
             try clear hfz146_1
             try clear hfz150_0
             try clear hfz150_1
             try clear hfz150_2
             try clear hfz153_0
             try clear hfz153_1
             try clear hfz155_0
             try clear hfz155_1
             try clear hfz155_2
             try clear hfz161_0
             try clear hfz161_1
             try clear hfz44_0
             try clear hfz44_1
             try clear hfz46_0
             try clear hfz46_1
             try clear hfz52_0
             try clear hfz52_1
             try clear hfz58_0
             try clear hfz58_1
             try clear hfz58_2
             try clear hfz65_0
             try clear hfz65_1
             try clear hfz65_2
             try clear hfz72_0
             try clear hfz72_1
             try clear hfz76_0
             try clear hfz76_1
             try clear hfz76_2
             try clear hfz79_0
             try clear hfz79_1
             try clear hfz81_0
             try clear hfz81_1
             try clear hfz81_2
             try clear hfz87_0
             try clear hfz87_1
             try clear hfz96_0
             try clear hfz96_1
             try clear p2
             obtain ⟨kq, x139_162, rfl, HA, HJ162, HO_1195000, BK1166, BK1167, BK1184, BK1189, BK1194, HB⟩ := hcut
             cases kq with
             | zero => exact absurd HA.out (by simp [dioramalaw10_EditChains.j4])
             | succ kj162 =>
              have H := HA.out; clear HA; simp only [dioramalaw10_EditChains.j4] at H
              by_cases c171 : x139_162 = true
              ·subst c171; rw [if_pos rfl] at H; obtain rfl := Option.some.inj H
               go_wp2
               go_ret
               exact ⟨ez, bz⟩
              ·obtain rfl := bf c171; rw [if_neg (show ¬ (false = true) by decide)] at H; obtain ⟨⟨t1198, t1199⟩, A172, H⟩ := ob H
               (try dsimp only at H)
               by_cases c173 : t1186 ≥ 0
               ·rw [if_pos c173] at H; have c173b0 : decide (0 ≤ t1186) = true := decide_eq_true c173; clear c173
                by_cases c174 : t1199 = 0
                ·rw [if_pos c174] at H; have c174b0 : (t1199 == 0) = true := beq_iff_eq.mpr c174; have c174b1 : (t1199 != 0) = false := bne_eq_false_iff_eq.mpr c174; clear c174; obtain ⟨t1202, A175, H⟩ := ob H
                 by_cases c176 : t1202 = true
                 ·subst c176; rw [if_pos rfl] at H; obtain ⟨t1203, A177, H⟩ := ob H; obtain rfl := Option.some.inj H; have hnb178 := NB1166_1167.out; have hnc178 := NB1167_1166.out; have hnb179 := NB1166_1184.out; have hnc179 := NB1184_1166.out; have hnb180 := NB1166_1189.out; have hnc180 := NB1189_1166.out; have hnb181 := NB1166_1194.out; have hnc181 := NB1194_1166.out; obtain ⟨hcz182_0, hcz182_1, hcz182_2, hfz182_0, hfz182_1, hfz182_2⟩ := xc3 BK1166
                  go_wp2_with (first | ((with_reducible refine gate_callee (f := 50) rfl ?_); refine zC 147 Try.func50 #[.slice A0_0 l0_0.length c0_0, .int .i64 a0_1, .int .i64 a0_2, .int .i64 2] ?_; (with_reducible refine (edit_Repeat.calls _ _ l0_0 a0_1 a0_2 2 t1198 t1199 _ ?side1 ?side2 A172.out).mono ?_); (case side1 => exact cz HR0_0); (case side2 => exact HC0_0.out); rintro e w183 ⟨v1200, rfl, ho0, hb⟩; refine ⟨_, rfl, ?_⟩; have HO1201 := Aside0.mk (Kd.R_lower (Kd.R_new' ho0 (Kd.R_lt (rz HO_1195000))) sz); replace HO_1195000 := Aside0.mk (Kd.R_elder' (rz HO_1195000) (Kd.R_base ho0) hb); replace BK1166 := kb BK1166 hb; replace BK1167 := kb BK1167 hb; replace BK1184 := kb BK1184 hb; replace BK1189 := kb BK1189 hb; replace BK1194 := kb BK1194 hb; replace HB := bp hb; clear hb ho0; have hnb184 := NB1189_1167.out; have hnc184 := NB1167_1189.out; have hnb185 := NB1189_1184.out; have hnc185 := NB1184_1189.out; have hnb186 := NB1189_1194.out; have hnc186 := NB1194_1189.out; obtain ⟨hcz187_0, hcz187_1, hfz187_0, hfz187_1⟩ := xc2 BK1189; have hnb188 := NB1194_1167.out; have hnc188 := NB1167_1194.out; have hnb189 := NB1194_1184.out; have hnc189 := NB1184_1194.out; obtain ⟨hcz190_0, hcz190_1, hcz190_2, hfz190_0, hfz190_1, hfz190_2⟩ := xc3 BK1194; have hnb191 := NB1167_1184.out; have hnc191 := NB1184_1167.out; obtain ⟨hcz192_0, hcz192_1, hfz192_0, hfz192_1⟩ := xc2 BK1167; obtain ⟨hcz193_0, hcz193_1, hcz193_2, hfz193_0, hfz193_1, hfz193_2⟩ := xc3 BK1166; obtain ⟨Ao194, co194, eo194⟩ := Kd.R_slice HO1201.out; subst eo194) | (go_at_call 37; (with_reducible refine (dioramalaw10_shows.calls _ _ t1176 a0_1 a0_2 a2_0 a2_1 _ _ t1198 a0_1 a0_2 t1186 t1187 true _ ?side1 ?side2 ?side3 ?side4 A175.out).mono ?_); (case side1 => exact cr HO_1195000); (case side2 => exact (Kd.R_reads' HO_1195000.out).2.1); (case side3 => exact cr HO1201); (case side4 => exact (Kd.R_reads' HO1201.out).2.1); rintro e w195 ⟨rfl, hb⟩; replace HO_1195000 := Aside0.mk (Kd.R_below (rz HO_1195000) hb); replace HO1201 := Aside0.mk (Kd.R_below (rz HO1201) hb); replace BK1166 := kb BK1166 hb; replace BK1167 := kb BK1167 hb; replace BK1184 := kb BK1184 hb; replace BK1189 := kb BK1189 hb; replace BK1194 := kb BK1194 hb; replace HB := bp hb; clear hb) | ((with_reducible refine gate_callee (f := 20) rfl ?_); refine zC 170 Try.func20 #[] ?_; (with_reducible refine (dioramalaw10_awake.calls kj162  t1203 _ A177.out).mono ?_); rintro e w196 ⟨rfl, hb⟩; refine ⟨_, rfl, ?_⟩; replace HO_1195000 := Aside0.mk (Kd.R_below (rz HO_1195000) hb); replace HO1201 := Aside0.mk (Kd.R_below (rz HO1201) hb); replace BK1166 := kb BK1166 hb; replace BK1167 := kb BK1167 hb; replace BK1184 := kb BK1184 hb; replace BK1189 := kb BK1189 hb; replace BK1194 := kb BK1194 hb; replace HB := bp hb; clear hb))
                  go_ret
                  exact ⟨ez, bz⟩
                 ·obtain rfl := bf c176; rw [if_neg (show ¬ (false = true) by decide)] at H; obtain rfl := Option.some.inj H; have hnb197 := NB1166_1167.out; have hnc197 := NB1167_1166.out; have hnb198 := NB1166_1184.out; have hnc198 := NB1184_1166.out; have hnb199 := NB1166_1189.out; have hnc199 := NB1189_1166.out; have hnb200 := NB1166_1194.out; have hnc200 := NB1194_1166.out; obtain ⟨hcz201_0, hcz201_1, hcz201_2, hfz201_0, hfz201_1, hfz201_2⟩ := xc3 BK1166
                  go_wp2_with (first | ((with_reducible refine gate_callee (f := 50) rfl ?_); refine zC 147 Try.func50 #[.slice A0_0 l0_0.length c0_0, .int .i64 a0_1, .int .i64 a0_2, .int .i64 2] ?_; (with_reducible refine (edit_Repeat.calls _ _ l0_0 a0_1 a0_2 2 t1198 t1199 _ ?side1 ?side2 A172.out).mono ?_); (case side1 => exact cz HR0_0); (case side2 => exact HC0_0.out); rintro e w202 ⟨v1200, rfl, ho0, hb⟩; refine ⟨_, rfl, ?_⟩; have HO1201 := Aside0.mk (Kd.R_lower (Kd.R_new' ho0 (Kd.R_lt (rz HO_1195000))) sz); replace HO_1195000 := Aside0.mk (Kd.R_elder' (rz HO_1195000) (Kd.R_base ho0) hb); replace BK1166 := kb BK1166 hb; replace BK1167 := kb BK1167 hb; replace BK1184 := kb BK1184 hb; replace BK1189 := kb BK1189 hb; replace BK1194 := kb BK1194 hb; replace HB := bp hb; clear hb ho0; have hnb203 := NB1189_1167.out; have hnc203 := NB1167_1189.out; have hnb204 := NB1189_1184.out; have hnc204 := NB1184_1189.out; have hnb205 := NB1189_1194.out; have hnc205 := NB1194_1189.out; obtain ⟨hcz206_0, hcz206_1, hfz206_0, hfz206_1⟩ := xc2 BK1189; have hnb207 := NB1194_1167.out; have hnc207 := NB1167_1194.out; have hnb208 := NB1194_1184.out; have hnc208 := NB1184_1194.out; obtain ⟨hcz209_0, hcz209_1, hcz209_2, hfz209_0, hfz209_1, hfz209_2⟩ := xc3 BK1194; have hnb210 := NB1167_1184.out; have hnc210 := NB1184_1167.out; obtain ⟨hcz211_0, hcz211_1, hfz211_0, hfz211_1⟩ := xc2 BK1167; obtain ⟨hcz212_0, hcz212_1, hcz212_2, hfz212_0, hfz212_1, hfz212_2⟩ := xc3 BK1166; obtain ⟨Ao213, co213, eo213⟩ := Kd.R_slice HO1201.out; subst eo213) | (go_at_call 37; (with_reducible refine (dioramalaw10_shows.calls _ _ t1176 a0_1 a0_2 a2_0 a2_1 _ _ t1198 a0_1 a0_2 t1186 t1187 false _ ?side1 ?side2 ?side3 ?side4 A175.out).mono ?_); (case side1 => exact cr HO_1195000); (case side2 => exact (Kd.R_reads' HO_1195000.out).2.1); (case side3 => exact cr HO1201); (case side4 => exact (Kd.R_reads' HO1201.out).2.1); rintro e w214 ⟨rfl, hb⟩; replace HO_1195000 := Aside0.mk (Kd.R_below (rz HO_1195000) hb); replace HO1201 := Aside0.mk (Kd.R_below (rz HO1201) hb); replace BK1166 := kb BK1166 hb; replace BK1167 := kb BK1167 hb; replace BK1184 := kb BK1184 hb; replace BK1189 := kb BK1189 hb; replace BK1194 := kb BK1194 hb; replace HB := bp hb; clear hb))
                  go_ret
                  exact ⟨ez, bz⟩
                ·rw [if_neg c174] at H; have c174b0 : (t1199 == 0) = false := beq_eq_false_iff_ne.mpr c174; have c174b1 : (t1199 != 0) = true := bne_iff_ne.mpr c174; obtain ⟨t1204, A215, H⟩ := ob H; obtain rfl := Option.some.inj H; have hnb216 := NB1166_1167.out; have hnc216 := NB1167_1166.out; have hnb217 := NB1166_1184.out; have hnc217 := NB1184_1166.out; have hnb218 := NB1166_1189.out; have hnc218 := NB1189_1166.out; have hnb219 := NB1166_1194.out; have hnc219 := NB1194_1166.out; obtain ⟨hcz220_0, hcz220_1, hcz220_2, hfz220_0, hfz220_1, hfz220_2⟩ := xc3 BK1166
                 go_wp2_with (first | ((with_reducible refine gate_callee (f := 50) rfl ?_); refine zC 147 Try.func50 #[.slice A0_0 l0_0.length c0_0, .int .i64 a0_1, .int .i64 a0_2, .int .i64 2] ?_; (with_reducible refine (edit_Repeat.calls _ _ l0_0 a0_1 a0_2 2 t1198 t1199 _ ?side1 ?side2 A172.out).mono ?_); (case side1 => exact cz HR0_0); (case side2 => exact HC0_0.out); rintro e w221 ⟨v1200, rfl, ho0, hb⟩; refine ⟨_, rfl, ?_⟩; have HO1201 := Aside0.mk (Kd.R_lower (Kd.R_new' ho0 (Kd.R_lt (rz HO_1195000))) sz); replace HO_1195000 := Aside0.mk (Kd.R_elder' (rz HO_1195000) (Kd.R_base ho0) hb); replace BK1166 := kb BK1166 hb; replace BK1167 := kb BK1167 hb; replace BK1184 := kb BK1184 hb; replace BK1189 := kb BK1189 hb; replace BK1194 := kb BK1194 hb; replace HB := bp hb; clear hb ho0; have hnb222 := NB1189_1167.out; have hnc222 := NB1167_1189.out; have hnb223 := NB1189_1184.out; have hnc223 := NB1184_1189.out; have hnb224 := NB1189_1194.out; have hnc224 := NB1194_1189.out; obtain ⟨hcz225_0, hcz225_1, hfz225_0, hfz225_1⟩ := xc2 BK1189) | ((with_reducible refine gate_callee (f := 20) rfl ?_); refine zC 170 Try.func20 #[] ?_; (with_reducible refine (dioramalaw10_awake.calls kj162  t1204 _ A215.out).mono ?_); rintro e w226 ⟨rfl, hb⟩; refine ⟨_, rfl, ?_⟩; replace HO_1195000 := Aside0.mk (Kd.R_below (rz HO_1195000) hb); replace HO1201 := Aside0.mk (Kd.R_below (rz HO1201) hb); replace BK1166 := kb BK1166 hb; replace BK1167 := kb BK1167 hb; replace BK1184 := kb BK1184 hb; replace BK1189 := kb BK1189 hb; replace BK1194 := kb BK1194 hb; replace HB := bp hb; clear hb))
                 go_ret
                 exact ⟨ez, bz⟩
               ·rw [if_neg c173] at H; have c173b0 : decide (0 ≤ t1186) = false := decide_eq_false c173; clear c173; obtain ⟨t1205, A227, H⟩ := ob H; obtain rfl := Option.some.inj H; have hnb228 := NB1166_1167.out; have hnc228 := NB1167_1166.out; have hnb229 := NB1166_1184.out; have hnc229 := NB1184_1166.out; have hnb230 := NB1166_1189.out; have hnc230 := NB1189_1166.out; have hnb231 := NB1166_1194.out; have hnc231 := NB1194_1166.out; obtain ⟨hcz232_0, hcz232_1, hcz232_2, hfz232_0, hfz232_1, hfz232_2⟩ := xc3 BK1166
                go_wp2_with (first | ((with_reducible refine gate_callee (f := 50) rfl ?_); refine zC 147 Try.func50 #[.slice A0_0 l0_0.length c0_0, .int .i64 a0_1, .int .i64 a0_2, .int .i64 2] ?_; (with_reducible refine (edit_Repeat.calls _ _ l0_0 a0_1 a0_2 2 t1198 t1199 _ ?side1 ?side2 A172.out).mono ?_); (case side1 => exact cz HR0_0); (case side2 => exact HC0_0.out); rintro e w233 ⟨v1200, rfl, ho0, hb⟩; refine ⟨_, rfl, ?_⟩; have HO1201 := Aside0.mk (Kd.R_lower (Kd.R_new' ho0 (Kd.R_lt (rz HO_1195000))) sz); replace HO_1195000 := Aside0.mk (Kd.R_elder' (rz HO_1195000) (Kd.R_base ho0) hb); replace BK1166 := kb BK1166 hb; replace BK1167 := kb BK1167 hb; replace BK1184 := kb BK1184 hb; replace BK1189 := kb BK1189 hb; replace BK1194 := kb BK1194 hb; replace HB := bp hb; clear hb ho0; have hnb234 := NB1189_1167.out; have hnc234 := NB1167_1189.out; have hnb235 := NB1189_1184.out; have hnc235 := NB1184_1189.out; have hnb236 := NB1189_1194.out; have hnc236 := NB1194_1189.out; obtain ⟨hcz237_0, hcz237_1, hfz237_0, hfz237_1⟩ := xc2 BK1189) | ((with_reducible refine gate_callee (f := 20) rfl ?_); refine zC 170 Try.func20 #[] ?_; (with_reducible refine (dioramalaw10_awake.calls kj162  t1205 _ A227.out).mono ?_); rintro e w238 ⟨rfl, hb⟩; refine ⟨_, rfl, ?_⟩; replace HO_1195000 := Aside0.mk (Kd.R_below (rz HO_1195000) hb); replace HO1201 := Aside0.mk (Kd.R_below (rz HO1201) hb); replace BK1166 := kb BK1166 hb; replace BK1167 := kb BK1167 hb; replace BK1184 := kb BK1184 hb; replace BK1189 := kb BK1189 hb; replace BK1194 := kb BK1194 hb; replace HB := bp hb; clear hb))
                go_ret
                exact ⟨ez, bz⟩
        ·rw [if_neg c127] at H; have c127b0 : (t1177 == 0) = false := beq_eq_false_iff_ne.mpr c127; have c127b1 : (t1177 != 0) = true := bne_iff_ne.mpr c127; obtain ⟨t1206, A239, H⟩ := ob H; obtain rfl := Option.some.inj H
         go_wp2_with (first | ((with_reducible refine gate_callee (f := 20) rfl ?_); refine zC 170 Try.func20 #[] ?_; (with_reducible refine (dioramalaw10_awake.calls kj29  t1206 _ A239.out).mono ?_); rintro e w240 ⟨rfl, hb⟩; refine ⟨_, rfl, ?_⟩; replace HO_9 := Aside0.mk (Kd.R_below (rz HO_9) hb); replace BK1166 := kb BK1166 hb; replace BK1167 := kb BK1167 hb; replace BK1184 := kb BK1184 hb; replace BK1189 := kb BK1189 hb; replace HB := bp hb; clear hb))
         go_ret
         exact ⟨ez, bz⟩
     ·rw [if_neg c29] at H; have c29b0 : (t1188 == 0) = false := beq_eq_false_iff_ne.mpr c29; have c29b1 : (t1188 != 0) = true := bne_iff_ne.mpr c29; obtain ⟨t1190, A241, H⟩ := ob H; obtain rfl := Option.some.inj H; have hnb242 := NB1166_1167.out; have hnc242 := NB1167_1166.out; obtain ⟨hcz243_0, hcz243_1, hcz243_2, hfz243_0, hfz243_1, hfz243_2⟩ := xc3 BK1166
      try go_wp2_with (first | ((with_reducible refine gate_callee (f := 48) rfl ?_); refine zC 40 Try.func48 #[.slice A0_0 l0_0.length c0_0, .slice A1 l1.length c1, .int .i64 a0_1, .int .i64 a0_2] ?_; (with_reducible refine (edit_Join.calls _ _ l0_0 _ _ l1 a0_1 a0_2 t1172 t1173 _ ?side1 ?side2 ?side3 ?side4 A23.out).mono ?_); (case side1 => exact cz HR0_0); (case side2 => exact HC0_0.out); (case side3 => exact cz HR1); (case side4 => exact HC1.out); rintro e w244 ⟨v1174, rfl, ho0, hb⟩; refine ⟨_, rfl, ?_⟩; have HO1175 := Aside0.mk (Kd.R_lower ho0 sz); replace BK1166 := kb BK1166 hb; replace BK1167 := kb BK1167 hb; replace HB := bp hb; clear hb ho0; obtain ⟨hcz245_0, hcz245_1, hcz245_2, hfz245_0, hfz245_1, hfz245_2⟩ := xc3 BK1166) | ((with_reducible refine gate_callee (f := 50) rfl ?_); refine zC 50 Try.func50 #[.slice A0_0 l0_0.length c0_0, .int .i64 a0_1, .int .i64 a0_2, .int .i64 3] ?_; (with_reducible refine (edit_Repeat.calls _ _ l0_0 a0_1 a0_2 3 t1176 t1177 _ ?side1 ?side2 A24.out).mono ?_); (case side1 => exact cz HR0_0); (case side2 => exact HC0_0.out); rintro e w246 ⟨v1178, rfl, ho0, hb⟩; refine ⟨_, rfl, ?_⟩; have HO1179 := Aside0.mk (Kd.R_lower (Kd.R_new' ho0 (Kd.R_lt (rz HO1175))) sz); replace HO1175 := Aside0.mk (Kd.R_elder' (rz HO1175) (Kd.R_base ho0) hb); replace BK1166 := kb BK1166 hb; replace BK1167 := kb BK1167 hb; replace HB := bp hb; clear hb ho0))
      replace HO1175 := Aside0.mk (Kd.R_drew HO1175.out); replace HO1179 := Aside0.mk (Kd.R_drew HO1179.out); replace BK1166 := Aside0.mk (blk_drew BK1166.out); replace BK1167 := Aside0.mk (blk_drew BK1167.out); replace HB := Aside0.mk (below_drew1 HB.out); refine start_ (n := 12) (S := fun w' => w'.cell? ⟨gb1166, 0, none⟩ = some (.slice A0_0 l0_0.length c0_0) ∧ w'.cell? ⟨gb1166, 1, none⟩ = some (.int .i64 a0_1) ∧ w'.cell? ⟨gb1166, 2, none⟩ = some (.int .i64 a0_2)) (ds := []) (bs 12 0) (by kernel_rfl) rfl rfl ⟨ct BK1166 0, ct BK1166 1, ct BK1166 2⟩ (fun hHeld => ?_)
      generalize w246.drew = w247 at HO1175 HO1179 BK1166 BK1167 HB hHeld ⊢; refine zP 0 54 12 1 ?_; refine zP 3 57 12 9 ?_; refine zT 1 55 12 11 hHeld ?_; refine zT 4 58 12 27 hHeld ?_; refine join_ (σ := Nat) 2 (bs 12 1023) (fun s_ => [(56, .int .i64 t1180), (59, .tuple #[.agg #[.int .i64 t1181, .int .i64 t1182], .int .i64 t1183]), (11, .pointer (some ⟨s_, 0, none⟩)), (53, .tuple #[.agg #[.int .i64 t1181, .int .i64 t1182], .int .i64 t1183]), (60, .agg #[.int .i64 t1181, .int .i64 t1182]), (61, .int .i64 t1183)]) (fun s_ w' => (w'.cell? ⟨gb1166, 0, none⟩ = some (.slice A0_0 l0_0.length c0_0) ∧ w'.cell? ⟨gb1166, 1, none⟩ = some (.int .i64 a0_1) ∧ w'.cell? ⟨gb1166, 2, none⟩ = some (.int .i64 a0_2)) ∧ (Kd.R k77 77 w' w.heap.size (fun k_ => some k_ ≠ (v1178 : Value).ownBlock) v1174 t1172) ∧ (Kd.R k77 77 w' w.heap.size (fun k_ => some k_ ≠ (v1174 : Value).ownBlock) v1178 t1176) ∧ (w'.heap[gb1166]? = some (.cells #[.slice A0_0 l0_0.length c0_0, .int .i64 a0_1, .int .i64 a0_2] 24 (0, 0))) ∧ (w'.heap[gb1167]? = some (.cells #[.int .i64 a2_0, .int .i64 a2_1] 37 (0, 0))) ∧ (w'.heap[s_]? = some (.cells #[.int .i64 0, .int .i64 0] 37 (0, 0))) ∧ (w.heap.size ≤ s_) ∧ (w.heap.size ≤ s_) ∧ (gb1166 ≠ s_) ∧ (s_ ≠ gb1166) ∧ (gb1167 ≠ s_) ∧ (s_ ≠ gb1167) ∧ (Below w.heap.size w w')) ?_ ?_
      rotate_left
      ·intro hCont; refine two_ (i := 2) (j := 9) (Ni := some 56) (Nj := some 11) (bs 12 31) (bs 12 539) rfl rfl rfl rfl (by kernel_rfl) (by decide) (by decide) (fun K hK => ?_) (fun K hK => ?_)
       ·skip
        refine zG Try.func26 #[.slice A0_0 l0_0.length c0_0] ?_
        with_reducible refine (edit_Length.calls _ _ l0_0 t1180 _ ?side1 ?side2 A25.out).mono ?_
        (case side1 => exact cz HR0_0)
        (case side2 => exact HC0_0.out)
        rintro e w248 ⟨rfl, hb⟩; refine ⟨_, rfl, ?_⟩; replace HO1175 := Aside0.mk (Kd.R_below (rz HO1175) hb); replace HO1179 := Aside0.mk (Kd.R_below (rz HO1179) hb); replace BK1166 := kb BK1166 hb; replace BK1167 := kb BK1167 hb; replace HB := bp hb; clear hb; refine hK.out _ _ ⟨ct BK1166 0, ct BK1166 1, ct BK1166 2⟩ (fun hHeld => ?_); clear hK K; refine zM 56 ?_; refine two_ (i := 5) (j := 9) (Ni := some 59) (Nj := some 11) (bs 12 63) (bs 12 543) rfl rfl rfl rfl (by kernel_rfl) (by decide) (by decide) (fun K hK => ?_) (fun K hK => ?_)
        ·skip
         refine zG Try.func43 #[.int .i64 t1180, .int .i64 a0_1] ?_
         with_reducible refine (dioramaref02_From.calls kj3 t1180 a0_1 t1181 t1182 t1183 _ A26.out).mono ?_
         rintro e w249 ⟨rfl, hb⟩; refine ⟨_, rfl, ?_⟩; replace HO1175 := Aside0.mk (Kd.R_below (rz HO1175) hb); replace HO1179 := Aside0.mk (Kd.R_below (rz HO1179) hb); replace BK1166 := kb BK1166 hb; replace BK1167 := kb BK1167 hb; replace HB := bp hb; clear hb; refine hK.out _ _ ⟨ct BK1166 0, ct BK1166 1, ct BK1166 2⟩ (fun hHeld => ?_); clear hK K; refine zM 59 ?_; refine zP 6 53 12 127 ?_; refine zP 7 60 12 255 ?_; refine zP 8 61 12 511 ?_; refine zN 9 (some 11) 12 1023 (fun K hK => ?_); refine box_step ?hg (N := 11) ?hd (cs := #[.int .i64 0, .int .i64 0]) (t := 37) ?hr ?_; (case hd => rfl); (case hg => rfl); (case hr => first | (go_simp; done) | (go_simp; rfl))
         intro gb1184 hg w250 hbox hb; replace HO1175 := Aside0.mk (Kd.R_below (rz HO1175) hb); replace HO1179 := Aside0.mk (Kd.R_below (rz HO1179) hb); have BK1184 := Aside0.mk hbox; have GW1184 := gz hg; have GE1184 := gz hg; replace HB := bp hb; have NB1166_1184 := Aside0.mk ((by rw [hg]; exact Nat.ne_of_lt (bl BK1166) : gb1166 ≠ gb1184)); have NB1184_1166 := Aside0.mk ((by rw [hg]; exact Nat.ne_of_gt (bl BK1166) : gb1184 ≠ gb1166)); replace BK1166 := kb BK1166 hb; have NB1167_1184 := Aside0.mk ((by rw [hg]; exact Nat.ne_of_lt (bl BK1167) : gb1167 ≠ gb1184)); have NB1184_1167 := Aside0.mk ((by rw [hg]; exact Nat.ne_of_gt (bl BK1167) : gb1184 ≠ gb1167)); replace BK1167 := kb BK1167 hb; clear hb hbox hg; refine hK.out _ _ ⟨ct BK1166 0, ct BK1166 1, ct BK1166 2⟩ (fun hHeld => ?_); clear hK K; refine zM 11 ?_
         exact norm_ (by simp only [putAll, Act.put, List.setIfInBounds_toArray, List.set_cons_zero, List.set_cons_succ]) (hCont (gb1184) _ ⟨hHeld, (by (with_reducible repeat (first | apply Kd.R_alloc | apply Kd.R_drewN | apply Kd.R_drew)); exact Kd.R_mono HO1175.out (fun _ hk => hk.2)), (by (with_reducible repeat (first | apply Kd.R_alloc | apply Kd.R_drewN | apply Kd.R_drew)); exact Kd.R_mono HO1179.out (fun _ hk => hk.2)), kz, kz, kz, GW1184.out, GE1184.out, NB1166_1184.out, NB1184_1166.out, NB1167_1184.out, NB1184_1167.out, bz⟩)
        ·skip
         refine box_step ?hg (N := 11) ?hd (cs := #[.int .i64 0, .int .i64 0]) (t := 37) ?hr ?_; (case hd => rfl); (case hg => rfl); (case hr => first | (go_simp; done) | (go_simp; rfl))
         intro gb1184 hg w249 hbox hb; replace HO1175 := Aside0.mk (Kd.R_below (rz HO1175) hb); replace HO1179 := Aside0.mk (Kd.R_below (rz HO1179) hb); have BK1184 := Aside0.mk hbox; have GW1184 := gz hg; have GE1184 := gz hg; replace HB := bp hb; have NB1166_1184 := Aside0.mk ((by rw [hg]; exact Nat.ne_of_lt (bl BK1166) : gb1166 ≠ gb1184)); have NB1184_1166 := Aside0.mk ((by rw [hg]; exact Nat.ne_of_gt (bl BK1166) : gb1184 ≠ gb1166)); replace BK1166 := kb BK1166 hb; have NB1167_1184 := Aside0.mk ((by rw [hg]; exact Nat.ne_of_lt (bl BK1167) : gb1167 ≠ gb1184)); have NB1184_1167 := Aside0.mk ((by rw [hg]; exact Nat.ne_of_gt (bl BK1167) : gb1184 ≠ gb1167)); replace BK1167 := kb BK1167 hb; clear hb hbox hg; refine hK.out _ _ ⟨ct BK1166 0, ct BK1166 1, ct BK1166 2⟩ (fun hHeld => ?_); clear hK K; refine zM 11 ?_; refine zN 5 (some 59) 12 575 (fun K hK => ?_); refine zG Try.func43 #[.int .i64 t1180, .int .i64 a0_1] ?_
         with_reducible refine (dioramaref02_From.calls kj3 t1180 a0_1 t1181 t1182 t1183 _ A26.out).mono ?_
         rintro e w250 ⟨rfl, hb⟩; refine ⟨_, rfl, ?_⟩; replace HO1175 := Aside0.mk (Kd.R_below (rz HO1175) hb); replace HO1179 := Aside0.mk (Kd.R_below (rz HO1179) hb); replace BK1166 := kb BK1166 hb; replace BK1167 := kb BK1167 hb; replace BK1184 := kb BK1184 hb; replace HB := bp hb; clear hb; refine hK.out _ _ ⟨ct BK1166 0, ct BK1166 1, ct BK1166 2⟩ (fun hHeld => ?_); clear hK K; refine zM 59 ?_; refine zP 6 53 12 639 ?_; refine zP 7 60 12 767 ?_; refine zP 8 61 12 1023 ?_
         exact norm_ (by simp only [putAll, Act.put, List.setIfInBounds_toArray, List.set_cons_zero, List.set_cons_succ]) (hCont (gb1184) _ ⟨hHeld, (by (with_reducible repeat (first | apply Kd.R_alloc | apply Kd.R_drewN | apply Kd.R_drew)); exact Kd.R_mono HO1175.out (fun _ hk => hk.2)), (by (with_reducible repeat (first | apply Kd.R_alloc | apply Kd.R_drewN | apply Kd.R_drew)); exact Kd.R_mono HO1179.out (fun _ hk => hk.2)), kz, kz, kz, GW1184.out, GE1184.out, NB1166_1184.out, NB1184_1166.out, NB1167_1184.out, NB1184_1167.out, bz⟩)
       ·skip
        refine box_step ?hg (N := 11) ?hd (cs := #[.int .i64 0, .int .i64 0]) (t := 37) ?hr ?_; (case hd => rfl); (case hg => rfl); (case hr => first | (go_simp; done) | (go_simp; rfl))
        intro gb1184 hg w248 hbox hb; replace HO1175 := Aside0.mk (Kd.R_below (rz HO1175) hb); replace HO1179 := Aside0.mk (Kd.R_below (rz HO1179) hb); have BK1184 := Aside0.mk hbox; have GW1184 := gz hg; have GE1184 := gz hg; replace HB := bp hb; have NB1166_1184 := Aside0.mk ((by rw [hg]; exact Nat.ne_of_lt (bl BK1166) : gb1166 ≠ gb1184)); have NB1184_1166 := Aside0.mk ((by rw [hg]; exact Nat.ne_of_gt (bl BK1166) : gb1184 ≠ gb1166)); replace BK1166 := kb BK1166 hb; have NB1167_1184 := Aside0.mk ((by rw [hg]; exact Nat.ne_of_lt (bl BK1167) : gb1167 ≠ gb1184)); have NB1184_1167 := Aside0.mk ((by rw [hg]; exact Nat.ne_of_gt (bl BK1167) : gb1184 ≠ gb1167)); replace BK1167 := kb BK1167 hb; clear hb hbox hg; refine hK.out _ _ ⟨ct BK1166 0, ct BK1166 1, ct BK1166 2⟩ (fun hHeld => ?_); clear hK K; refine zM 11 ?_; refine zN 2 (some 56) 12 543 (fun K hK => ?_); refine zG Try.func26 #[.slice A0_0 l0_0.length c0_0] ?_
        with_reducible refine (edit_Length.calls _ _ l0_0 t1180 _ ?side1 ?side2 A25.out).mono ?_
        (case side1 => exact cz HR0_0)
        (case side2 => exact HC0_0.out)
        rintro e w249 ⟨rfl, hb⟩; refine ⟨_, rfl, ?_⟩; replace HO1175 := Aside0.mk (Kd.R_below (rz HO1175) hb); replace HO1179 := Aside0.mk (Kd.R_below (rz HO1179) hb); replace BK1166 := kb BK1166 hb; replace BK1167 := kb BK1167 hb; replace BK1184 := kb BK1184 hb; replace HB := bp hb; clear hb; refine hK.out _ _ ⟨ct BK1166 0, ct BK1166 1, ct BK1166 2⟩ (fun hHeld => ?_); clear hK K; refine zM 56 ?_; refine zN 5 (some 59) 12 575 (fun K hK => ?_); refine zG Try.func43 #[.int .i64 t1180, .int .i64 a0_1] ?_
        with_reducible refine (dioramaref02_From.calls kj3 t1180 a0_1 t1181 t1182 t1183 _ A26.out).mono ?_
        rintro e w250 ⟨rfl, hb⟩; refine ⟨_, rfl, ?_⟩; replace HO1175 := Aside0.mk (Kd.R_below (rz HO1175) hb); replace HO1179 := Aside0.mk (Kd.R_below (rz HO1179) hb); replace BK1166 := kb BK1166 hb; replace BK1167 := kb BK1167 hb; replace BK1184 := kb BK1184 hb; replace HB := bp hb; clear hb; refine hK.out _ _ ⟨ct BK1166 0, ct BK1166 1, ct BK1166 2⟩ (fun hHeld => ?_); clear hK K; refine zM 59 ?_; refine zP 6 53 12 639 ?_; refine zP 7 60 12 767 ?_; refine zP 8 61 12 1023 ?_
        exact norm_ (by simp only [putAll, Act.put, List.setIfInBounds_toArray, List.set_cons_zero, List.set_cons_succ]) (hCont (gb1184) _ ⟨hHeld, (by (with_reducible repeat (first | apply Kd.R_alloc | apply Kd.R_drewN | apply Kd.R_drew)); exact Kd.R_mono HO1175.out (fun _ hk => hk.2)), (by (with_reducible repeat (first | apply Kd.R_alloc | apply Kd.R_drewN | apply Kd.R_drew)); exact Kd.R_mono HO1179.out (fun _ hk => hk.2)), kz, kz, kz, GW1184.out, GE1184.out, NB1166_1184.out, NB1184_1166.out, NB1167_1184.out, NB1184_1167.out, bz⟩)
      rintro gb1184 w251 ⟨hS_, h0_, h1_, h2_, h3_, h4_, h5_, h6_, h7_, h8_, h9_, h10_, h11_⟩; have n0_ : Aside0 (Kd.R k77 77 w251 w.heap.size (fun k_ => some k_ ≠ (v1178 : Value).ownBlock) v1174 t1172) := ⟨h0_⟩
      have n1_ : Aside0 (Kd.R k77 77 w251 w.heap.size (fun k_ => some k_ ≠ (v1174 : Value).ownBlock) v1178 t1176) := ⟨h1_⟩
      have n2_ : Aside0 (w251.heap[gb1166]? = some (.cells #[.slice A0_0 l0_0.length c0_0, .int .i64 a0_1, .int .i64 a0_2] 24 (0, 0))) := ⟨h2_⟩; have n3_ : Aside0 (w251.heap[gb1167]? = some (.cells #[.int .i64 a2_0, .int .i64 a2_1] 37 (0, 0))) := ⟨h3_⟩; have n4_ : Aside0 (w251.heap[gb1184]? = some (.cells #[.int .i64 0, .int .i64 0] 37 (0, 0))) := ⟨h4_⟩; have n5_ : Aside0 (w.heap.size ≤ gb1184) := ⟨h5_⟩; have n6_ : Aside0 (w.heap.size ≤ gb1184) := ⟨h6_⟩; have n7_ : Aside0 (gb1166 ≠ gb1184) := ⟨h7_⟩; have n8_ : Aside0 (gb1184 ≠ gb1166) := ⟨h8_⟩; have n9_ : Aside0 (gb1167 ≠ gb1184) := ⟨h9_⟩; have n10_ : Aside0 (gb1184 ≠ gb1167) := ⟨h10_⟩; have n11_ : Aside0 (Below w.heap.size w w251) := ⟨h11_⟩; clear HO1175; clear HO1179; clear BK1166; clear BK1167; clear HB; clear h0_ h1_ h2_ h3_ h4_ h5_ h6_ h7_ h8_ h9_ h10_ h11_; have HO1175 := n0_; have HO1179 := n1_; have BK1166 := n2_; have BK1167 := n3_; have BK1184 := n4_; have GW1184 := n5_; have GE1184 := n6_; have NB1166_1184 := n7_; have NB1184_1166 := n8_; have NB1167_1184 := n9_; have NB1184_1167 := n10_; have HB := n11_; clear n0_ n1_ n2_ n3_ n4_ n5_ n6_ n7_ n8_ n9_ n10_ n11_; have hHeld : w251.cell? ⟨gb1166, 0, none⟩ = some (.slice A0_0 l0_0.length c0_0) ∧ w251.cell? ⟨gb1166, 1, none⟩ = some (.int .i64 a0_1) ∧ w251.cell? ⟨gb1166, 2, none⟩ = some (.int .i64 a0_2) := hS_; refine norm_ (a' := ?_) ?_ ?_
      rotate_left
      ·simp only [putAll, Act.put, List.setIfInBounds_toArray, List.set_cons_zero, List.set_cons_succ]
       rfl
      refine zN 10 none 12 2047 (fun K hK => ?_); have hs252 : w251.cell? ⟨gb1184, 0, none⟩ = some (.int .i64 0) := ct BK1184 0; have hfs252 := blk_frozen BK1184.out 0; have hns252_0 := NB1166_1184.out; have hns252_1 := NB1167_1184.out; have hms252_0 := NB1184_1166.out; have hms252_1 := NB1184_1167.out; have hs253 : w251.cell? ⟨gb1184, 1, none⟩ = some (.int .i64 0) := ct BK1184 1; have hfs253 := blk_frozen BK1184.out 1; have hns253_0 := NB1166_1184.out; have hns253_1 := NB1167_1184.out; have hms253_0 := NB1184_1166.out; have hms253_1 := NB1184_1167.out; refine skip_ (w1 := ?_) (by rfl) rfl ?_ ?_
      rotate_left
      ·go_simp
       rfl
      refine hK.out _ _ ⟨((cell_far (p := ⟨gb1184, _, none⟩) NB1166_1184.out _).trans (((cell_far (p := ⟨gb1184, _, none⟩) NB1166_1184.out _).trans (hHeld.1)))), ((cell_far (p := ⟨gb1184, _, none⟩) NB1166_1184.out _).trans (((cell_far (p := ⟨gb1184, _, none⟩) NB1166_1184.out _).trans (hHeld.2.1)))), ((cell_far (p := ⟨gb1184, _, none⟩) NB1166_1184.out _).trans (((cell_far (p := ⟨gb1184, _, none⟩) NB1166_1184.out _).trans (hHeld.2.2))))⟩ (fun hHeld => ?_); clear hK K; refine zP 11 12 12 4095 ?_; refine done_ (by kernel_rfl) ?_; have hnb254 := NB1167_1184.out; have hnc254 := NB1184_1167.out; obtain ⟨hcz255_0, hcz255_1, hfz255_0, hfz255_1⟩ := xc2 BK1167; have hnb256 := NB1184_1166.out; have hnc256 := NB1166_1184.out; obtain ⟨hcz257_0, hcz257_1, hfz257_0, hfz257_1⟩ := xc2 BK1184
      try go_wp2_with (first | ((with_reducible refine gate_callee (f := 56) rfl ?_); refine zC 68 Try.func56 #[.agg #[.int .i64 a2_0, .int .i64 a2_1], .agg #[.int .i64 t1181, .int .i64 t1182]] ?_; (with_reducible refine (dioramaref02_Sub.calls kj3 a2_0 a2_1 t1181 t1182 t1186 t1187 t1188 _ A28.out).mono ?_); rintro e w258 ⟨rfl, hb⟩; refine ⟨_, rfl, ?_⟩; replace HO1175 := Aside0.mk (Kd.R_below (by (with_reducible repeat (first | apply Kd.R_alloc | apply Kd.R_drewN | apply Kd.R_drew)); exact (Kd.R_mono (Kd.R_far (p := ⟨gb1184, 1, none⟩) (Kd.R_far (p := ⟨gb1184, 0, none⟩) (Kd.R_types HO1175.out BK1184.out (by decide)) (fun _ hk => hk.2) (.int .i64 t1181)) (fun _ hk => hk.2) (.int .i64 t1182)) (fun _ h_ => h_.1))) hb); replace HO1179 := Aside0.mk (Kd.R_below (by (with_reducible repeat (first | apply Kd.R_alloc | apply Kd.R_drewN | apply Kd.R_drew)); exact (Kd.R_mono (Kd.R_far (p := ⟨gb1184, 1, none⟩) (Kd.R_far (p := ⟨gb1184, 0, none⟩) (Kd.R_types HO1179.out BK1184.out (by decide)) (fun _ hk => hk.2) (.int .i64 t1181)) (fun _ hk => hk.2) (.int .i64 t1182)) (fun _ h_ => h_.1))) hb); replace BK1166 := Aside0.mk (blk_below (g := gb1166) (o := .cells #[.slice A0_0 l0_0.length c0_0, .int .i64 a0_1, .int .i64 a0_2] 24 (0, 0)) (by (with_reducible repeat (first | refine blk_drewN ?_ _ | refine blk_drew ?_ | refine blk_alloc ?_ _)); refine blk_far ?_ NB1166_1184.out _; (with_reducible repeat (first | refine blk_drewN ?_ _ | refine blk_drew ?_ | refine blk_alloc ?_ _)); refine blk_far ?_ NB1166_1184.out _; (with_reducible repeat (first | refine blk_drewN ?_ _ | refine blk_drew ?_ | refine blk_alloc ?_ _)); exact BK1166.out) hb); replace BK1167 := Aside0.mk (blk_below (g := gb1167) (o := .cells #[.int .i64 a2_0, .int .i64 a2_1] 37 (0, 0)) (by (with_reducible repeat (first | refine blk_drewN ?_ _ | refine blk_drew ?_ | refine blk_alloc ?_ _)); refine blk_far ?_ NB1167_1184.out _; (with_reducible repeat (first | refine blk_drewN ?_ _ | refine blk_drew ?_ | refine blk_alloc ?_ _)); refine blk_far ?_ NB1167_1184.out _; (with_reducible repeat (first | refine blk_drewN ?_ _ | refine blk_drew ?_ | refine blk_alloc ?_ _)); exact BK1167.out) hb); replace BK1184 := Aside0.mk (blk_below (g := gb1184) (o := .cells #[.int .i64 t1181, .int .i64 t1182] 37 (0, 0)) (by (with_reducible repeat (first | refine blk_drewN ?_ _ | refine blk_drew ?_ | refine blk_alloc ?_ _)); refine blk_put (cs := #[.int .i64 t1181, .int .i64 0]) ?_ 1 _ rfl; (with_reducible repeat (first | refine blk_drewN ?_ _ | refine blk_drew ?_ | refine blk_alloc ?_ _)); refine blk_put (cs := #[.int .i64 0, .int .i64 0]) ?_ 0 _ rfl; (with_reducible repeat (first | refine blk_drewN ?_ _ | refine blk_drew ?_ | refine blk_alloc ?_ _)); exact BK1184.out) hb); replace HB := bp hb; clear hb) | ((with_reducible refine gate_dst (N := 13) rfl ?_); refine zB 13 37 #[.int .i64 0, .int .i64 0] ?_; intro gb1189 hg w259 hbox hb; replace HO1175 := Aside0.mk (Kd.R_below (rz HO1175) hb); replace HO1179 := Aside0.mk (Kd.R_below (rz HO1179) hb); have BK1189 := Aside0.mk hbox; have GW1189 := gz hg; have GE1189 := gz hg; replace HB := bp hb; have NB1166_1189 := Aside0.mk ((by rw [hg]; exact Nat.ne_of_lt (bl BK1166) : gb1166 ≠ gb1189)); have NB1189_1166 := Aside0.mk ((by rw [hg]; exact Nat.ne_of_gt (bl BK1166) : gb1189 ≠ gb1166)); replace BK1166 := kb BK1166 hb; have NB1167_1189 := Aside0.mk ((by rw [hg]; exact Nat.ne_of_lt (bl BK1167) : gb1167 ≠ gb1189)); have NB1189_1167 := Aside0.mk ((by rw [hg]; exact Nat.ne_of_gt (bl BK1167) : gb1189 ≠ gb1167)); replace BK1167 := kb BK1167 hb; have NB1184_1189 := Aside0.mk ((by rw [hg]; exact Nat.ne_of_lt (bl BK1184) : gb1184 ≠ gb1189)); have NB1189_1184 := Aside0.mk ((by rw [hg]; exact Nat.ne_of_gt (bl BK1184) : gb1189 ≠ gb1184)); replace BK1184 := kb BK1184 hb; clear hb hbox hg; have hnb260 := NB1189_1166.out; have hnc260 := NB1166_1189.out; have hnb261 := NB1189_1167.out; have hnc261 := NB1167_1189.out; have hnb262 := NB1189_1184.out; have hnc262 := NB1184_1189.out; obtain ⟨hcz263_0, hcz263_1, hfz263_0, hfz263_1⟩ := xc2 BK1189) | ((with_reducible refine gate_callee (f := 20) rfl ?_); refine zC 73 Try.func20 #[] ?_; (with_reducible refine (dioramalaw10_awake.calls kj3  t1190 _ A241.out).mono ?_); rintro e w264 ⟨rfl, hb⟩; refine ⟨_, rfl, ?_⟩; replace HO1175 := Aside0.mk (Kd.R_below (by (with_reducible repeat (first | apply Kd.R_alloc | apply Kd.R_drewN | apply Kd.R_drew)); exact (Kd.R_mono (Kd.R_far (p := ⟨gb1189, 1, none⟩) (Kd.R_far (p := ⟨gb1189, 0, none⟩) (Kd.R_types HO1175.out BK1189.out (by decide)) (fun _ hk => hk.2) (.int .i64 t1186)) (fun _ hk => hk.2) (.int .i64 t1187)) (fun _ h_ => h_.1))) hb); replace HO1179 := Aside0.mk (Kd.R_below (by (with_reducible repeat (first | apply Kd.R_alloc | apply Kd.R_drewN | apply Kd.R_drew)); exact (Kd.R_mono (Kd.R_far (p := ⟨gb1189, 1, none⟩) (Kd.R_far (p := ⟨gb1189, 0, none⟩) (Kd.R_types HO1179.out BK1189.out (by decide)) (fun _ hk => hk.2) (.int .i64 t1186)) (fun _ hk => hk.2) (.int .i64 t1187)) (fun _ h_ => h_.1))) hb); replace BK1166 := Aside0.mk (blk_below (g := gb1166) (o := .cells #[.slice A0_0 l0_0.length c0_0, .int .i64 a0_1, .int .i64 a0_2] 24 (0, 0)) (by (with_reducible repeat (first | refine blk_drewN ?_ _ | refine blk_drew ?_ | refine blk_alloc ?_ _)); refine blk_far ?_ NB1166_1189.out _; (with_reducible repeat (first | refine blk_drewN ?_ _ | refine blk_drew ?_ | refine blk_alloc ?_ _)); refine blk_far ?_ NB1166_1189.out _; (with_reducible repeat (first | refine blk_drewN ?_ _ | refine blk_drew ?_ | refine blk_alloc ?_ _)); exact BK1166.out) hb); replace BK1167 := Aside0.mk (blk_below (g := gb1167) (o := .cells #[.int .i64 a2_0, .int .i64 a2_1] 37 (0, 0)) (by (with_reducible repeat (first | refine blk_drewN ?_ _ | refine blk_drew ?_ | refine blk_alloc ?_ _)); refine blk_far ?_ NB1167_1189.out _; (with_reducible repeat (first | refine blk_drewN ?_ _ | refine blk_drew ?_ | refine blk_alloc ?_ _)); refine blk_far ?_ NB1167_1189.out _; (with_reducible repeat (first | refine blk_drewN ?_ _ | refine blk_drew ?_ | refine blk_alloc ?_ _)); exact BK1167.out) hb); replace BK1184 := Aside0.mk (blk_below (g := gb1184) (o := .cells #[.int .i64 t1181, .int .i64 t1182] 37 (0, 0)) (by (with_reducible repeat (first | refine blk_drewN ?_ _ | refine blk_drew ?_ | refine blk_alloc ?_ _)); refine blk_far ?_ NB1184_1189.out _; (with_reducible repeat (first | refine blk_drewN ?_ _ | refine blk_drew ?_ | refine blk_alloc ?_ _)); refine blk_far ?_ NB1184_1189.out _; (with_reducible repeat (first | refine blk_drewN ?_ _ | refine blk_drew ?_ | refine blk_alloc ?_ _)); exact BK1184.out) hb); replace BK1189 := Aside0.mk (blk_below (g := gb1189) (o := .cells #[.int .i64 t1186, .int .i64 t1187] 37 (0, 0)) (by (with_reducible repeat (first | refine blk_drewN ?_ _ | refine blk_drew ?_ | refine blk_alloc ?_ _)); refine blk_put (cs := #[.int .i64 t1186, .int .i64 0]) ?_ 1 _ rfl; (with_reducible repeat (first | refine blk_drewN ?_ _ | refine blk_drew ?_ | refine blk_alloc ?_ _)); refine blk_put (cs := #[.int .i64 0, .int .i64 0]) ?_ 0 _ rfl; (with_reducible repeat (first | refine blk_drewN ?_ _ | refine blk_drew ?_ | refine blk_alloc ?_ _)); exact BK1189.out) hb); replace HB := bp hb; clear hb))
      go_ret
      exact ⟨ez, bz⟩
    ·rw [if_neg c27] at H; have c27b0 : (t1183 == 0) = false := beq_eq_false_iff_ne.mpr c27; have c27b1 : (t1183 != 0) = true := bne_iff_ne.mpr c27; obtain ⟨t1185, A265, H⟩ := ob H; obtain rfl := Option.some.inj H; have hnb266 := NB1166_1167.out; have hnc266 := NB1167_1166.out; obtain ⟨hcz267_0, hcz267_1, hcz267_2, hfz267_0, hfz267_1, hfz267_2⟩ := xc3 BK1166
     try go_wp2_with (first | ((with_reducible refine gate_callee (f := 48) rfl ?_); refine zC 40 Try.func48 #[.slice A0_0 l0_0.length c0_0, .slice A1 l1.length c1, .int .i64 a0_1, .int .i64 a0_2] ?_; (with_reducible refine (edit_Join.calls _ _ l0_0 _ _ l1 a0_1 a0_2 t1172 t1173 _ ?side1 ?side2 ?side3 ?side4 A23.out).mono ?_); (case side1 => exact cz HR0_0); (case side2 => exact HC0_0.out); (case side3 => exact cz HR1); (case side4 => exact HC1.out); rintro e w268 ⟨v1174, rfl, ho0, hb⟩; refine ⟨_, rfl, ?_⟩; have HO1175 := Aside0.mk (Kd.R_lower ho0 sz); replace BK1166 := kb BK1166 hb; replace BK1167 := kb BK1167 hb; replace HB := bp hb; clear hb ho0; obtain ⟨hcz269_0, hcz269_1, hcz269_2, hfz269_0, hfz269_1, hfz269_2⟩ := xc3 BK1166) | ((with_reducible refine gate_callee (f := 50) rfl ?_); refine zC 50 Try.func50 #[.slice A0_0 l0_0.length c0_0, .int .i64 a0_1, .int .i64 a0_2, .int .i64 3] ?_; (with_reducible refine (edit_Repeat.calls _ _ l0_0 a0_1 a0_2 3 t1176 t1177 _ ?side1 ?side2 A24.out).mono ?_); (case side1 => exact cz HR0_0); (case side2 => exact HC0_0.out); rintro e w270 ⟨v1178, rfl, ho0, hb⟩; refine ⟨_, rfl, ?_⟩; have HO1179 := Aside0.mk (Kd.R_lower (Kd.R_new' ho0 (Kd.R_lt (rz HO1175))) sz); replace HO1175 := Aside0.mk (Kd.R_elder' (rz HO1175) (Kd.R_base ho0) hb); replace BK1166 := kb BK1166 hb; replace BK1167 := kb BK1167 hb; replace HB := bp hb; clear hb ho0))
     replace HO1175 := Aside0.mk (Kd.R_drew HO1175.out); replace HO1179 := Aside0.mk (Kd.R_drew HO1179.out); replace BK1166 := Aside0.mk (blk_drew BK1166.out); replace BK1167 := Aside0.mk (blk_drew BK1167.out); replace HB := Aside0.mk (below_drew1 HB.out); refine start_ (n := 12) (S := fun w' => w'.cell? ⟨gb1166, 0, none⟩ = some (.slice A0_0 l0_0.length c0_0) ∧ w'.cell? ⟨gb1166, 1, none⟩ = some (.int .i64 a0_1) ∧ w'.cell? ⟨gb1166, 2, none⟩ = some (.int .i64 a0_2)) (ds := []) (bs 12 0) (by kernel_rfl) rfl rfl ⟨ct BK1166 0, ct BK1166 1, ct BK1166 2⟩ (fun hHeld => ?_)
     generalize w270.drew = w271 at HO1175 HO1179 BK1166 BK1167 HB hHeld ⊢; refine zP 0 54 12 1 ?_; refine zP 3 57 12 9 ?_; refine zT 1 55 12 11 hHeld ?_; refine zT 4 58 12 27 hHeld ?_; refine join_ (σ := Nat) 2 (bs 12 1023) (fun s_ => [(56, .int .i64 t1180), (59, .tuple #[.agg #[.int .i64 t1181, .int .i64 t1182], .int .i64 t1183]), (11, .pointer (some ⟨s_, 0, none⟩)), (53, .tuple #[.agg #[.int .i64 t1181, .int .i64 t1182], .int .i64 t1183]), (60, .agg #[.int .i64 t1181, .int .i64 t1182]), (61, .int .i64 t1183)]) (fun s_ w' => (w'.cell? ⟨gb1166, 0, none⟩ = some (.slice A0_0 l0_0.length c0_0) ∧ w'.cell? ⟨gb1166, 1, none⟩ = some (.int .i64 a0_1) ∧ w'.cell? ⟨gb1166, 2, none⟩ = some (.int .i64 a0_2)) ∧ (Kd.R k77 77 w' w.heap.size (fun k_ => some k_ ≠ (v1178 : Value).ownBlock) v1174 t1172) ∧ (Kd.R k77 77 w' w.heap.size (fun k_ => some k_ ≠ (v1174 : Value).ownBlock) v1178 t1176) ∧ (w'.heap[gb1166]? = some (.cells #[.slice A0_0 l0_0.length c0_0, .int .i64 a0_1, .int .i64 a0_2] 24 (0, 0))) ∧ (w'.heap[gb1167]? = some (.cells #[.int .i64 a2_0, .int .i64 a2_1] 37 (0, 0))) ∧ (w'.heap[s_]? = some (.cells #[.int .i64 0, .int .i64 0] 37 (0, 0))) ∧ (w.heap.size ≤ s_) ∧ (w.heap.size ≤ s_) ∧ (gb1166 ≠ s_) ∧ (s_ ≠ gb1166) ∧ (gb1167 ≠ s_) ∧ (s_ ≠ gb1167) ∧ (Below w.heap.size w w')) ?_ ?_
     rotate_left
     ·intro hCont; refine two_ (i := 2) (j := 9) (Ni := some 56) (Nj := some 11) (bs 12 31) (bs 12 539) rfl rfl rfl rfl (by kernel_rfl) (by decide) (by decide) (fun K hK => ?_) (fun K hK => ?_)
      ·skip
       refine zG Try.func26 #[.slice A0_0 l0_0.length c0_0] ?_
       with_reducible refine (edit_Length.calls _ _ l0_0 t1180 _ ?side1 ?side2 A25.out).mono ?_
       (case side1 => exact cz HR0_0)
       (case side2 => exact HC0_0.out)
       rintro e w272 ⟨rfl, hb⟩; refine ⟨_, rfl, ?_⟩; replace HO1175 := Aside0.mk (Kd.R_below (rz HO1175) hb); replace HO1179 := Aside0.mk (Kd.R_below (rz HO1179) hb); replace BK1166 := kb BK1166 hb; replace BK1167 := kb BK1167 hb; replace HB := bp hb; clear hb; refine hK.out _ _ ⟨ct BK1166 0, ct BK1166 1, ct BK1166 2⟩ (fun hHeld => ?_); clear hK K; refine zM 56 ?_; refine two_ (i := 5) (j := 9) (Ni := some 59) (Nj := some 11) (bs 12 63) (bs 12 543) rfl rfl rfl rfl (by kernel_rfl) (by decide) (by decide) (fun K hK => ?_) (fun K hK => ?_)
       ·skip
        refine zG Try.func43 #[.int .i64 t1180, .int .i64 a0_1] ?_
        with_reducible refine (dioramaref02_From.calls kj3 t1180 a0_1 t1181 t1182 t1183 _ A26.out).mono ?_
        rintro e w273 ⟨rfl, hb⟩; refine ⟨_, rfl, ?_⟩; replace HO1175 := Aside0.mk (Kd.R_below (rz HO1175) hb); replace HO1179 := Aside0.mk (Kd.R_below (rz HO1179) hb); replace BK1166 := kb BK1166 hb; replace BK1167 := kb BK1167 hb; replace HB := bp hb; clear hb; refine hK.out _ _ ⟨ct BK1166 0, ct BK1166 1, ct BK1166 2⟩ (fun hHeld => ?_); clear hK K; refine zM 59 ?_; refine zP 6 53 12 127 ?_; refine zP 7 60 12 255 ?_; refine zP 8 61 12 511 ?_; refine zN 9 (some 11) 12 1023 (fun K hK => ?_); refine box_step ?hg (N := 11) ?hd (cs := #[.int .i64 0, .int .i64 0]) (t := 37) ?hr ?_; (case hd => rfl); (case hg => rfl); (case hr => first | (go_simp; done) | (go_simp; rfl))
        intro gb1184 hg w274 hbox hb; replace HO1175 := Aside0.mk (Kd.R_below (rz HO1175) hb); replace HO1179 := Aside0.mk (Kd.R_below (rz HO1179) hb); have BK1184 := Aside0.mk hbox; have GW1184 := gz hg; have GE1184 := gz hg; replace HB := bp hb; have NB1166_1184 := Aside0.mk ((by rw [hg]; exact Nat.ne_of_lt (bl BK1166) : gb1166 ≠ gb1184)); have NB1184_1166 := Aside0.mk ((by rw [hg]; exact Nat.ne_of_gt (bl BK1166) : gb1184 ≠ gb1166)); replace BK1166 := kb BK1166 hb; have NB1167_1184 := Aside0.mk ((by rw [hg]; exact Nat.ne_of_lt (bl BK1167) : gb1167 ≠ gb1184)); have NB1184_1167 := Aside0.mk ((by rw [hg]; exact Nat.ne_of_gt (bl BK1167) : gb1184 ≠ gb1167)); replace BK1167 := kb BK1167 hb; clear hb hbox hg; refine hK.out _ _ ⟨ct BK1166 0, ct BK1166 1, ct BK1166 2⟩ (fun hHeld => ?_); clear hK K; refine zM 11 ?_
        exact norm_ (by simp only [putAll, Act.put, List.setIfInBounds_toArray, List.set_cons_zero, List.set_cons_succ]) (hCont (gb1184) _ ⟨hHeld, (by (with_reducible repeat (first | apply Kd.R_alloc | apply Kd.R_drewN | apply Kd.R_drew)); exact Kd.R_mono HO1175.out (fun _ hk => hk.2)), (by (with_reducible repeat (first | apply Kd.R_alloc | apply Kd.R_drewN | apply Kd.R_drew)); exact Kd.R_mono HO1179.out (fun _ hk => hk.2)), kz, kz, kz, GW1184.out, GE1184.out, NB1166_1184.out, NB1184_1166.out, NB1167_1184.out, NB1184_1167.out, bz⟩)
       ·skip
        refine box_step ?hg (N := 11) ?hd (cs := #[.int .i64 0, .int .i64 0]) (t := 37) ?hr ?_; (case hd => rfl); (case hg => rfl); (case hr => first | (go_simp; done) | (go_simp; rfl))
        intro gb1184 hg w273 hbox hb; replace HO1175 := Aside0.mk (Kd.R_below (rz HO1175) hb); replace HO1179 := Aside0.mk (Kd.R_below (rz HO1179) hb); have BK1184 := Aside0.mk hbox; have GW1184 := gz hg; have GE1184 := gz hg; replace HB := bp hb; have NB1166_1184 := Aside0.mk ((by rw [hg]; exact Nat.ne_of_lt (bl BK1166) : gb1166 ≠ gb1184)); have NB1184_1166 := Aside0.mk ((by rw [hg]; exact Nat.ne_of_gt (bl BK1166) : gb1184 ≠ gb1166)); replace BK1166 := kb BK1166 hb; have NB1167_1184 := Aside0.mk ((by rw [hg]; exact Nat.ne_of_lt (bl BK1167) : gb1167 ≠ gb1184)); have NB1184_1167 := Aside0.mk ((by rw [hg]; exact Nat.ne_of_gt (bl BK1167) : gb1184 ≠ gb1167)); replace BK1167 := kb BK1167 hb; clear hb hbox hg; refine hK.out _ _ ⟨ct BK1166 0, ct BK1166 1, ct BK1166 2⟩ (fun hHeld => ?_); clear hK K; refine zM 11 ?_; refine zN 5 (some 59) 12 575 (fun K hK => ?_); refine zG Try.func43 #[.int .i64 t1180, .int .i64 a0_1] ?_
        with_reducible refine (dioramaref02_From.calls kj3 t1180 a0_1 t1181 t1182 t1183 _ A26.out).mono ?_
        rintro e w274 ⟨rfl, hb⟩; refine ⟨_, rfl, ?_⟩; replace HO1175 := Aside0.mk (Kd.R_below (rz HO1175) hb); replace HO1179 := Aside0.mk (Kd.R_below (rz HO1179) hb); replace BK1166 := kb BK1166 hb; replace BK1167 := kb BK1167 hb; replace BK1184 := kb BK1184 hb; replace HB := bp hb; clear hb; refine hK.out _ _ ⟨ct BK1166 0, ct BK1166 1, ct BK1166 2⟩ (fun hHeld => ?_); clear hK K; refine zM 59 ?_; refine zP 6 53 12 639 ?_; refine zP 7 60 12 767 ?_; refine zP 8 61 12 1023 ?_
        exact norm_ (by simp only [putAll, Act.put, List.setIfInBounds_toArray, List.set_cons_zero, List.set_cons_succ]) (hCont (gb1184) _ ⟨hHeld, (by (with_reducible repeat (first | apply Kd.R_alloc | apply Kd.R_drewN | apply Kd.R_drew)); exact Kd.R_mono HO1175.out (fun _ hk => hk.2)), (by (with_reducible repeat (first | apply Kd.R_alloc | apply Kd.R_drewN | apply Kd.R_drew)); exact Kd.R_mono HO1179.out (fun _ hk => hk.2)), kz, kz, kz, GW1184.out, GE1184.out, NB1166_1184.out, NB1184_1166.out, NB1167_1184.out, NB1184_1167.out, bz⟩)
      ·skip
       refine box_step ?hg (N := 11) ?hd (cs := #[.int .i64 0, .int .i64 0]) (t := 37) ?hr ?_; (case hd => rfl); (case hg => rfl); (case hr => first | (go_simp; done) | (go_simp; rfl))
       intro gb1184 hg w272 hbox hb; replace HO1175 := Aside0.mk (Kd.R_below (rz HO1175) hb); replace HO1179 := Aside0.mk (Kd.R_below (rz HO1179) hb); have BK1184 := Aside0.mk hbox; have GW1184 := gz hg; have GE1184 := gz hg; replace HB := bp hb; have NB1166_1184 := Aside0.mk ((by rw [hg]; exact Nat.ne_of_lt (bl BK1166) : gb1166 ≠ gb1184)); have NB1184_1166 := Aside0.mk ((by rw [hg]; exact Nat.ne_of_gt (bl BK1166) : gb1184 ≠ gb1166)); replace BK1166 := kb BK1166 hb; have NB1167_1184 := Aside0.mk ((by rw [hg]; exact Nat.ne_of_lt (bl BK1167) : gb1167 ≠ gb1184)); have NB1184_1167 := Aside0.mk ((by rw [hg]; exact Nat.ne_of_gt (bl BK1167) : gb1184 ≠ gb1167)); replace BK1167 := kb BK1167 hb; clear hb hbox hg; refine hK.out _ _ ⟨ct BK1166 0, ct BK1166 1, ct BK1166 2⟩ (fun hHeld => ?_); clear hK K; refine zM 11 ?_; refine zN 2 (some 56) 12 543 (fun K hK => ?_); refine zG Try.func26 #[.slice A0_0 l0_0.length c0_0] ?_
       with_reducible refine (edit_Length.calls _ _ l0_0 t1180 _ ?side1 ?side2 A25.out).mono ?_
       (case side1 => exact cz HR0_0)
       (case side2 => exact HC0_0.out)
       rintro e w273 ⟨rfl, hb⟩; refine ⟨_, rfl, ?_⟩; replace HO1175 := Aside0.mk (Kd.R_below (rz HO1175) hb); replace HO1179 := Aside0.mk (Kd.R_below (rz HO1179) hb); replace BK1166 := kb BK1166 hb; replace BK1167 := kb BK1167 hb; replace BK1184 := kb BK1184 hb; replace HB := bp hb; clear hb; refine hK.out _ _ ⟨ct BK1166 0, ct BK1166 1, ct BK1166 2⟩ (fun hHeld => ?_); clear hK K; refine zM 56 ?_; refine zN 5 (some 59) 12 575 (fun K hK => ?_); refine zG Try.func43 #[.int .i64 t1180, .int .i64 a0_1] ?_
       with_reducible refine (dioramaref02_From.calls kj3 t1180 a0_1 t1181 t1182 t1183 _ A26.out).mono ?_
       rintro e w274 ⟨rfl, hb⟩; refine ⟨_, rfl, ?_⟩; replace HO1175 := Aside0.mk (Kd.R_below (rz HO1175) hb); replace HO1179 := Aside0.mk (Kd.R_below (rz HO1179) hb); replace BK1166 := kb BK1166 hb; replace BK1167 := kb BK1167 hb; replace BK1184 := kb BK1184 hb; replace HB := bp hb; clear hb; refine hK.out _ _ ⟨ct BK1166 0, ct BK1166 1, ct BK1166 2⟩ (fun hHeld => ?_); clear hK K; refine zM 59 ?_; refine zP 6 53 12 639 ?_; refine zP 7 60 12 767 ?_; refine zP 8 61 12 1023 ?_
       exact norm_ (by simp only [putAll, Act.put, List.setIfInBounds_toArray, List.set_cons_zero, List.set_cons_succ]) (hCont (gb1184) _ ⟨hHeld, (by (with_reducible repeat (first | apply Kd.R_alloc | apply Kd.R_drewN | apply Kd.R_drew)); exact Kd.R_mono HO1175.out (fun _ hk => hk.2)), (by (with_reducible repeat (first | apply Kd.R_alloc | apply Kd.R_drewN | apply Kd.R_drew)); exact Kd.R_mono HO1179.out (fun _ hk => hk.2)), kz, kz, kz, GW1184.out, GE1184.out, NB1166_1184.out, NB1184_1166.out, NB1167_1184.out, NB1184_1167.out, bz⟩)
     rintro gb1184 w275 ⟨hS_, h0_, h1_, h2_, h3_, h4_, h5_, h6_, h7_, h8_, h9_, h10_, h11_⟩; have n0_ : Aside0 (Kd.R k77 77 w275 w.heap.size (fun k_ => some k_ ≠ (v1178 : Value).ownBlock) v1174 t1172) := ⟨h0_⟩
     have n1_ : Aside0 (Kd.R k77 77 w275 w.heap.size (fun k_ => some k_ ≠ (v1174 : Value).ownBlock) v1178 t1176) := ⟨h1_⟩
     have n2_ : Aside0 (w275.heap[gb1166]? = some (.cells #[.slice A0_0 l0_0.length c0_0, .int .i64 a0_1, .int .i64 a0_2] 24 (0, 0))) := ⟨h2_⟩; have n3_ : Aside0 (w275.heap[gb1167]? = some (.cells #[.int .i64 a2_0, .int .i64 a2_1] 37 (0, 0))) := ⟨h3_⟩; have n4_ : Aside0 (w275.heap[gb1184]? = some (.cells #[.int .i64 0, .int .i64 0] 37 (0, 0))) := ⟨h4_⟩; have n5_ : Aside0 (w.heap.size ≤ gb1184) := ⟨h5_⟩; have n6_ : Aside0 (w.heap.size ≤ gb1184) := ⟨h6_⟩; have n7_ : Aside0 (gb1166 ≠ gb1184) := ⟨h7_⟩; have n8_ : Aside0 (gb1184 ≠ gb1166) := ⟨h8_⟩; have n9_ : Aside0 (gb1167 ≠ gb1184) := ⟨h9_⟩; have n10_ : Aside0 (gb1184 ≠ gb1167) := ⟨h10_⟩; have n11_ : Aside0 (Below w.heap.size w w275) := ⟨h11_⟩; clear HO1175; clear HO1179; clear BK1166; clear BK1167; clear HB; clear h0_ h1_ h2_ h3_ h4_ h5_ h6_ h7_ h8_ h9_ h10_ h11_; have HO1175 := n0_; have HO1179 := n1_; have BK1166 := n2_; have BK1167 := n3_; have BK1184 := n4_; have GW1184 := n5_; have GE1184 := n6_; have NB1166_1184 := n7_; have NB1184_1166 := n8_; have NB1167_1184 := n9_; have NB1184_1167 := n10_; have HB := n11_; clear n0_ n1_ n2_ n3_ n4_ n5_ n6_ n7_ n8_ n9_ n10_ n11_; have hHeld : w275.cell? ⟨gb1166, 0, none⟩ = some (.slice A0_0 l0_0.length c0_0) ∧ w275.cell? ⟨gb1166, 1, none⟩ = some (.int .i64 a0_1) ∧ w275.cell? ⟨gb1166, 2, none⟩ = some (.int .i64 a0_2) := hS_; refine norm_ (a' := ?_) ?_ ?_
     rotate_left
     ·simp only [putAll, Act.put, List.setIfInBounds_toArray, List.set_cons_zero, List.set_cons_succ]
      rfl
     refine zN 10 none 12 2047 (fun K hK => ?_); have hs276 : w275.cell? ⟨gb1184, 0, none⟩ = some (.int .i64 0) := ct BK1184 0; have hfs276 := blk_frozen BK1184.out 0; have hns276_0 := NB1166_1184.out; have hns276_1 := NB1167_1184.out; have hms276_0 := NB1184_1166.out; have hms276_1 := NB1184_1167.out; have hs277 : w275.cell? ⟨gb1184, 1, none⟩ = some (.int .i64 0) := ct BK1184 1; have hfs277 := blk_frozen BK1184.out 1; have hns277_0 := NB1166_1184.out; have hns277_1 := NB1167_1184.out; have hms277_0 := NB1184_1166.out; have hms277_1 := NB1184_1167.out; refine skip_ (w1 := ?_) (by rfl) rfl ?_ ?_
     rotate_left
     ·go_simp
      rfl
     refine hK.out _ _ ⟨((cell_far (p := ⟨gb1184, _, none⟩) NB1166_1184.out _).trans (((cell_far (p := ⟨gb1184, _, none⟩) NB1166_1184.out _).trans (hHeld.1)))), ((cell_far (p := ⟨gb1184, _, none⟩) NB1166_1184.out _).trans (((cell_far (p := ⟨gb1184, _, none⟩) NB1166_1184.out _).trans (hHeld.2.1)))), ((cell_far (p := ⟨gb1184, _, none⟩) NB1166_1184.out _).trans (((cell_far (p := ⟨gb1184, _, none⟩) NB1166_1184.out _).trans (hHeld.2.2))))⟩ (fun hHeld => ?_); clear hK K; refine zP 11 12 12 4095 ?_; refine done_ (by kernel_rfl) ?_
     try go_wp2_with (first | ((with_reducible refine gate_callee (f := 20) rfl ?_); refine zC 64 Try.func20 #[] ?_; (with_reducible refine (dioramalaw10_awake.calls kj3  t1185 _ A265.out).mono ?_); rintro e w278 ⟨rfl, hb⟩; refine ⟨_, rfl, ?_⟩; replace HO1175 := Aside0.mk (Kd.R_below (by (with_reducible repeat (first | apply Kd.R_alloc | apply Kd.R_drewN | apply Kd.R_drew)); exact (Kd.R_mono (Kd.R_far (p := ⟨gb1184, 1, none⟩) (Kd.R_far (p := ⟨gb1184, 0, none⟩) (Kd.R_types HO1175.out BK1184.out (by decide)) (fun _ hk => hk.2) (.int .i64 t1181)) (fun _ hk => hk.2) (.int .i64 t1182)) (fun _ h_ => h_.1))) hb); replace HO1179 := Aside0.mk (Kd.R_below (by (with_reducible repeat (first | apply Kd.R_alloc | apply Kd.R_drewN | apply Kd.R_drew)); exact (Kd.R_mono (Kd.R_far (p := ⟨gb1184, 1, none⟩) (Kd.R_far (p := ⟨gb1184, 0, none⟩) (Kd.R_types HO1179.out BK1184.out (by decide)) (fun _ hk => hk.2) (.int .i64 t1181)) (fun _ hk => hk.2) (.int .i64 t1182)) (fun _ h_ => h_.1))) hb); replace BK1166 := Aside0.mk (blk_below (g := gb1166) (o := .cells #[.slice A0_0 l0_0.length c0_0, .int .i64 a0_1, .int .i64 a0_2] 24 (0, 0)) (by (with_reducible repeat (first | refine blk_drewN ?_ _ | refine blk_drew ?_ | refine blk_alloc ?_ _)); refine blk_far ?_ NB1166_1184.out _; (with_reducible repeat (first | refine blk_drewN ?_ _ | refine blk_drew ?_ | refine blk_alloc ?_ _)); refine blk_far ?_ NB1166_1184.out _; (with_reducible repeat (first | refine blk_drewN ?_ _ | refine blk_drew ?_ | refine blk_alloc ?_ _)); exact BK1166.out) hb); replace BK1167 := Aside0.mk (blk_below (g := gb1167) (o := .cells #[.int .i64 a2_0, .int .i64 a2_1] 37 (0, 0)) (by (with_reducible repeat (first | refine blk_drewN ?_ _ | refine blk_drew ?_ | refine blk_alloc ?_ _)); refine blk_far ?_ NB1167_1184.out _; (with_reducible repeat (first | refine blk_drewN ?_ _ | refine blk_drew ?_ | refine blk_alloc ?_ _)); refine blk_far ?_ NB1167_1184.out _; (with_reducible repeat (first | refine blk_drewN ?_ _ | refine blk_drew ?_ | refine blk_alloc ?_ _)); exact BK1167.out) hb); replace BK1184 := Aside0.mk (blk_below (g := gb1184) (o := .cells #[.int .i64 t1181, .int .i64 t1182] 37 (0, 0)) (by (with_reducible repeat (first | refine blk_drewN ?_ _ | refine blk_drew ?_ | refine blk_alloc ?_ _)); refine blk_put (cs := #[.int .i64 t1181, .int .i64 0]) ?_ 1 _ rfl; (with_reducible repeat (first | refine blk_drewN ?_ _ | refine blk_drew ?_ | refine blk_alloc ?_ _)); refine blk_put (cs := #[.int .i64 0, .int .i64 0]) ?_ 0 _ rfl; (with_reducible repeat (first | refine blk_drewN ?_ _ | refine blk_drew ?_ | refine blk_alloc ?_ _)); exact BK1184.out) hb); replace HB := bp hb; clear hb))
     go_ret
     exact ⟨ez, bz⟩
end Go.Proofs.Ytpbhepdgamoiaaa.E

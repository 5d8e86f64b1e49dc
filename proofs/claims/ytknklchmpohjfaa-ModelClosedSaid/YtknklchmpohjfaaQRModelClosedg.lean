/-
  What the reference's needs computes: plain. What Needs and Start tell of a track, the code's and the reference's. ModelClosed: what a member of a sample's needs needs is among them; a sample that can begin is its own start.
-/
import Derived.Test.YtknklchmpohjfaaQRModelCloseda
import Derived.Test.YtknklchmpohjfaaQRModelClosedd
import Derived.Test.YtknklchmpohjfaaQRModelClosedb
import Derived.Test.YtknklchmpohjfaaQRModelClosedf
import Derived.Test.YtknklchmpohjfaaQRModelClosedc
namespace Go.Proofs.Ytknklchmpohjfaa.E
open Go.Proofs.Ytknklchmpohjfaa.Z Go.RowKit Go.Proofs.YtknklchmpohjfaaW.PrintWords Go.Proofs.YtknklchmpohjfaaW.PrintLast Go.Proofs.YtknklchmpohjfaaW.PrintMore
attribute [local go_sem] max2_int min2_int max_two min_two max_three min_three max_four min_four
set_option linter.unusedVariables false
set_option linter.unusedSimpArgs false
mutual
def dioramalaw03_ModelClosed.j0 : Nat → Bool → Int → Int → ByteArray → Int → List Int → ByteArray → ByteArray → Int → List (S86) → List (S68) → List (S51) → Option (Bool)
  | 0, _, _, _, _, _, _, _, _, _, _, _, _ => none
  | k + 1, x21, x198000, x198001, x198002, x198003, x198004, x198005, x198006, x198007, x198008, x198009, x198010 => if x21 = true then ((dioramalaw03_awake.f).bind fun t200 => (some t200)) else (dioramalaw03_ModelClosed.l0 k 0 x198000 x198001 x198002 x198003 x198004 x198005 x198006 x198007 x198008 x198009 x198010)
def dioramalaw03_ModelClosed.l0 : Nat → Int → Int → Int → ByteArray → Int → List Int → ByteArray → ByteArray → Int → List (S86) → List (S68) → List (S51) → Option (Bool)
  | 0, _, _, _, _, _, _, _, _, _, _, _, _ => none
  | k + 1, x3, x198000, x198001, x198002, x198003, x198004, x198005, x198006, x198007, x198008, x198009, x198010 => if x3 < (x198010.length : Int) then ((model_Needs.f x198000 x198001 x198002 x198003 x198004 x198005 x198006 x198007 x198008 x198009 x198010 x3).bind fun bt202 => (if bt202.2 = 0 then ((dioramaref00_HasInt.f k bt202.1 x3).bind fun t206 => (dioramalaw03_ModelClosed.j2 k x3 bt202.1 (decide (t206 < 0)) x198000 x198001 x198002 x198003 x198004 x198005 x198006 x198007 x198008 x198009 x198010)) else (dioramalaw03_ModelClosed.j2 k x3 bt202.1 true x198000 x198001 x198002 x198003 x198004 x198005 x198006 x198007 x198008 x198009 x198010))) else ((dioramalaw03_awake.f).bind fun t201 => (some t201))
def dioramalaw03_ModelClosed.j2 : Nat → Int → List Int → Bool → Int → Int → ByteArray → Int → List Int → ByteArray → ByteArray → Int → List (S86) → List (S68) → List (S51) → Option (Bool)
  | 0, _, _, _, _, _, _, _, _, _, _, _, _, _, _ => none
  | k + 1, x3, x4, x43, x198000, x198001, x198002, x198003, x198004, x198005, x198006, x198007, x198008, x198009, x198010 => if x43 = true then (some false) else ((model_Start.f k x198000 x198001 x198002 x198003 x198004 x198005 x198006 x198007 x198008 x198009 x198010 x3).bind fun bt207 => (if 0 ≤ x3 then (if x3 < (x198010.length : Int) then (if (rd_T51 x198010 x3).f3 = true then (if bt207.2 = 0 then (dioramalaw03_ModelClosed.j3 k x3 x4 bt207.1 bt207.2 (bt207.1 != x3) x198000 x198001 x198002 x198003 x198004 x198005 x198006 x198007 x198008 x198009 x198010) else (dioramalaw03_ModelClosed.j3 k x3 x4 bt207.1 bt207.2 true x198000 x198001 x198002 x198003 x198004 x198005 x198006 x198007 x198008 x198009 x198010)) else (dioramalaw03_ModelClosed.j3 k x3 x4 bt207.1 bt207.2 false x198000 x198001 x198002 x198003 x198004 x198005 x198006 x198007 x198008 x198009 x198010)) else (none)) else (none)))
def dioramalaw03_ModelClosed.j3 : Nat → Int → List Int → Int → Int → Bool → Int → Int → ByteArray → Int → List Int → ByteArray → ByteArray → Int → List (S86) → List (S68) → List (S51) → Option (Bool)
  | 0, _, _, _, _, _, _, _, _, _, _, _, _, _, _, _, _ => none
  | k + 1, x3, x4, x6, x7, x64, x198000, x198001, x198002, x198003, x198004, x198005, x198006, x198007, x198008, x198009, x198010 => if x64 = true then (some false) else (if x7 = 0 then (if 0 < (x4.length : Int) then (if x6 > (rd x4 0) then (dioramalaw03_ModelClosed.j4 k x3 x4 true x198000 x198001 x198002 x198003 x198004 x198005 x198006 x198007 x198008 x198009 x198010) else (if 0 ≤ x6 then (if x6 < (x198010.length : Int) then (dioramalaw03_ModelClosed.j4 k x3 x4 (!((rd_T51 x198010 x6).f3)) x198000 x198001 x198002 x198003 x198004 x198005 x198006 x198007 x198008 x198009 x198010) else (none)) else (none))) else (none)) else (dioramalaw03_ModelClosed.j4 k x3 x4 false x198000 x198001 x198002 x198003 x198004 x198005 x198006 x198007 x198008 x198009 x198010))
def dioramalaw03_ModelClosed.j4 : Nat → Int → List Int → Bool → Int → Int → ByteArray → Int → List Int → ByteArray → ByteArray → Int → List (S86) → List (S68) → List (S51) → Option (Bool)
  | 0, _, _, _, _, _, _, _, _, _, _, _, _, _, _ => none
  | k + 1, x3, x4, x82, x198000, x198001, x198002, x198003, x198004, x198005, x198006, x198007, x198008, x198009, x198010 => if x82 = true then (some false) else (dioramalaw03_ModelClosed.l1 k x3 x4 0 x198000 x198001 x198002 x198003 x198004 x198005 x198006 x198007 x198008 x198009 x198010)
def dioramalaw03_ModelClosed.l1 : Nat → Int → List Int → Int → Int → Int → ByteArray → Int → List Int → ByteArray → ByteArray → Int → List (S86) → List (S68) → List (S51) → Option (Bool)
  | 0, _, _, _, _, _, _, _, _, _, _, _, _, _, _ => none
  | k + 1, x3, x4, x8, x198000, x198001, x198002, x198003, x198004, x198005, x198006, x198007, x198008, x198009, x198010 => if x8 < (x4.length : Int) then (if 0 ≤ x8 then ((model_Needs.f x198000 x198001 x198002 x198003 x198004 x198005 x198006 x198007 x198008 x198009 x198010 (rd x4 x8)).bind fun bt213 => (if bt213.2 = 0 then (dioramalaw03_ModelClosed.l2 k x3 x4 x8 bt213.1 0 x198000 x198001 x198002 x198003 x198004 x198005 x198006 x198007 x198008 x198009 x198010) else (some false))) else (none)) else (dioramalaw03_ModelClosed.l0 k (wrap64 (x3 + 1)) x198000 x198001 x198002 x198003 x198004 x198005 x198006 x198007 x198008 x198009 x198010)
def dioramalaw03_ModelClosed.l2 : Nat → Int → List Int → Int → List Int → Int → Int → Int → ByteArray → Int → List Int → ByteArray → ByteArray → Int → List (S86) → List (S68) → List (S51) → Option (Bool)
  | 0, _, _, _, _, _, _, _, _, _, _, _, _, _, _, _, _ => none
  | k + 1, x3, x4, x8, x9, x11, x198000, x198001, x198002, x198003, x198004, x198005, x198006, x198007, x198008, x198009, x198010 => if x11 < (x9.length : Int) then (if 0 ≤ x11 then ((dioramaref00_HasInt.f k x4 (rd x9 x11)).bind fun t218 => (if t218 < 0 then (some false) else (dioramalaw03_ModelClosed.l2 k x3 x4 x8 x9 (wrap64 (x11 + 1)) x198000 x198001 x198002 x198003 x198004 x198005 x198006 x198007 x198008 x198009 x198010))) else (none)) else (dioramalaw03_ModelClosed.l1 k x3 x4 (wrap64 (x8 + 1)) x198000 x198001 x198002 x198003 x198004 x198005 x198006 x198007 x198008 x198009 x198010)
end
def dioramalaw03_ModelClosed.f (k : Nat) (a0_0 : Int) (a0_1 : Int) (a0_2 : ByteArray) (a0_3 : Int) (l0_4 : List Int) (a0_5 : ByteArray) (a0_6 : ByteArray) (a0_7 : Int) (l0_8 : List (S86)) (l0_9 : List (S68)) (l0_10 : List (S51)) : Option (Bool) := (model_Order.f a0_0 a0_1 a0_2 a0_3 l0_4 a0_5 a0_6 a0_7 l0_8 l0_9 l0_10 120).bind fun t198 => (if t198 = true then ((dioramaref03_CheckTrack.f k a0_0 a0_1 a0_2 a0_3 l0_4 a0_5 a0_6 a0_7 l0_8 l0_9 l0_10).bind fun t199 => (dioramalaw03_ModelClosed.j0 k (t199 != 0) a0_0 a0_1 a0_2 a0_3 l0_4 a0_5 a0_6 a0_7 l0_8 l0_9 l0_10)) else (dioramalaw03_ModelClosed.j0 k true a0_0 a0_1 a0_2 a0_3 l0_4 a0_5 a0_6 a0_7 l0_8 l0_9 l0_10))
set_option maxHeartbeats 8000000 in
set_option maxRecDepth 100000 in
theorem dioramalaw03_ModelClosed.calls (k : Nat) (a0_0 : Int) (a0_1 : Int) (a0_2 : ByteArray) (a0_3 : Int) (A0_4 : Option Addr) (c0_4 : Nat) (l0_4 : List Int) (a0_5 : ByteArray) (a0_6 : ByteArray) (a0_7 : Int) (A0_8 : Option Addr) (c0_8 : Nat) (l0_8 : List (S86)) (A0_9 : Option Addr) (c0_9 : Nat) (l0_9 : List (S68)) (A0_10 : Option Addr) (c0_10 : Nat) (l0_10 : List (S51)) (r : Bool) (w : World) (hr0_4 : Kd.C (Kd.int .u8) w A0_4 l0_4.length l0_4) (hc0_4 : l0_4.length ≤ c0_4) (hr0_8 : Kd.C k86 w A0_8 l0_8.length l0_8) (hc0_8 : l0_8.length ≤ c0_8) (hr0_9 : Kd.C k68 w A0_9 l0_9.length l0_9) (hc0_9 : l0_9.length ≤ c0_9) (hr0_10 : Kd.C k51 w A0_10 l0_10.length l0_10) (hc0_10 : l0_10.length ≤ c0_10) (h : dioramalaw03_ModelClosed.f k a0_0 a0_1 a0_2 a0_3 l0_4 a0_5 a0_6 a0_7 l0_8 l0_9 l0_10 = some r) :
  Calls Try.prog 5 #[.agg #[.int .i64 a0_0, .int .i64 a0_1, .string a0_2, .int .i64 a0_3, .slice A0_4 l0_4.length c0_4, .string a0_5, .string a0_6, .int .i64 a0_7, .slice A0_8 l0_8.length c0_8, .slice A0_9 l0_9.length c0_9, .slice A0_10 l0_10.length c0_10]] w fun e w' => e = .returned (.bool r) ∧ Below w.heap.size w w' := by
 have hu40 := Try.underlying40; have huM_ := Try.underlying27; have huS_ := Try.underlying22; have HR0_4 := Aside0.mk hr0_4; have HC0_4 := Aside0.mk hc0_4; clear hr0_4 hc0_4; have HR0_8 := Aside0.mk hr0_8; have HC0_8 := Aside0.mk hc0_8; clear hr0_8 hc0_8; have HR0_9 := Aside0.mk hr0_9; have HC0_9 := Aside0.mk hc0_9; clear hr0_9 hc0_9; have HR0_10 := Aside0.mk hr0_10; have HC0_10 := Aside0.mk hc0_10; clear hr0_10 hc0_10; have HB := Aside0.mk (Below.refl w.heap.size w); have H : ((model_Order.f a0_0 a0_1 a0_2 a0_3 l0_4 a0_5 a0_6 a0_7 l0_8 l0_9 l0_10 120).bind fun t198 => (if t198 = true then ((dioramaref03_CheckTrack.f k a0_0 a0_1 a0_2 a0_3 l0_4 a0_5 a0_6 a0_7 l0_8 l0_9 l0_10).bind fun t199 => (dioramalaw03_ModelClosed.j0 k (t199 != 0) a0_0 a0_1 a0_2 a0_3 l0_4 a0_5 a0_6 a0_7 l0_8 l0_9 l0_10)) else (dioramalaw03_ModelClosed.j0 k true a0_0 a0_1 a0_2 a0_3 l0_4 a0_5 a0_6 a0_7 l0_8 l0_9 l0_10))) = some r := h
 clear h; have HC2 := Aside0.mk H; clear H
 go_enter Try.func5, Try.ntmps5
 go_upto_region 1 with (first | ((with_reducible refine gate_dst (N := 1) rfl ?_); refine zB 1 40 #[.int .i64 a0_0, .int .i64 a0_1, .string a0_2, .int .i64 a0_3, .slice A0_4 l0_4.length c0_4, .string a0_5, .string a0_6, .int .i64 a0_7, .slice A0_8 l0_8.length c0_8, .slice A0_9 l0_9.length c0_9, .slice A0_10 l0_10.length c0_10] ?_; intro gb197 hg w3 hbox hb; have BK197 := Aside0.mk hbox; have GW197 := gz hg; have GE197 := gz hg; replace HB := bp hb; clear hb hbox hg))
 (try simp only [Act.put, List.setIfInBounds_toArray, List.set_cons_zero, List.set_cons_succ])
 go_cut [21] (fun v21 wc => ∃ (kq : Nat) (x21_1 : Bool), v21 = .bool x21_1 ∧ Aside0 (dioramalaw03_ModelClosed.j0 kq x21_1 a0_0 a0_1 a0_2 a0_3 l0_4 a0_5 a0_6 a0_7 l0_8 l0_9 l0_10 = some r) ∧ Aside0 (kq ≤ k) ∧ Aside0 (wc.heap[gb197]? = some (.cells #[.int .i64 a0_0, .int .i64 a0_1, .string a0_2, .int .i64 a0_3, (.slice A0_4 l0_4.length c0_4), .string a0_5, .string a0_6, .int .i64 a0_7, (.slice A0_8 l0_8.length c0_8), (.slice A0_9 l0_9.length c0_9), (.slice A0_10 l0_10.length c0_10)] 40 (0, 0))) ∧ Aside0 (Below w.heap.size w wc))
 case first =>
  have H := HC2.out; clear HC2; obtain ⟨t198, A4, H⟩ := ob H
  by_cases c5 : t198 = true
  ·subst c5; rw [if_pos rfl] at H; obtain ⟨t199, A6, H⟩ := ob H; have H' := Aside0.mk H; clear H; have hcz7_0 : w3.cell? ⟨gb197, 0, none⟩ = some (.int .i64 a0_0) := ct BK197 0; have hcz7_1 : w3.cell? ⟨gb197, 1, none⟩ = some (.int .i64 a0_1) := ct BK197 1; have hcz7_2 : w3.cell? ⟨gb197, 2, none⟩ = some (.string a0_2) := ct BK197 2; have hcz7_3 : w3.cell? ⟨gb197, 3, none⟩ = some (.int .i64 a0_3) := ct BK197 3; have hcz7_4 : w3.cell? ⟨gb197, 4, none⟩ = some (.slice A0_4 l0_4.length c0_4) := ct BK197 4; have hcz7_5 : w3.cell? ⟨gb197, 5, none⟩ = some (.string a0_5) := ct BK197 5; have hcz7_6 : w3.cell? ⟨gb197, 6, none⟩ = some (.string a0_6) := ct BK197 6; have hcz7_7 : w3.cell? ⟨gb197, 7, none⟩ = some (.int .i64 a0_7) := ct BK197 7; have hcz7_8 : w3.cell? ⟨gb197, 8, none⟩ = some (.slice A0_8 l0_8.length c0_8) := ct BK197 8; have hcz7_9 : w3.cell? ⟨gb197, 9, none⟩ = some (.slice A0_9 l0_9.length c0_9) := ct BK197 9; have hcz7_10 : w3.cell? ⟨gb197, 10, none⟩ = some (.slice A0_10 l0_10.length c0_10) := ct BK197 10; have hfz7_0 := blk_frozen BK197.out 0; have hfz7_1 := blk_frozen BK197.out 1; have hfz7_2 := blk_frozen BK197.out 2; have hfz7_3 := blk_frozen BK197.out 3; have hfz7_4 := blk_frozen BK197.out 4; have hfz7_5 := blk_frozen BK197.out 5; have hfz7_6 := blk_frozen BK197.out 6; have hfz7_7 := blk_frozen BK197.out 7; have hfz7_8 := blk_frozen BK197.out 8; have hfz7_9 := blk_frozen BK197.out 9; have hfz7_10 := blk_frozen BK197.out 10
   go_wp2_with (first | ((with_reducible refine gate_dst (N := 13) rfl ?_); refine Gv.zS 13 40 #[.int .i64 a0_0, .int .i64 a0_1, .string a0_2, .int .i64 a0_3, .slice A0_4 l0_4.length c0_4, .string a0_5, .string a0_6, .int .i64 a0_7, .slice A0_8 l0_8.length c0_8, .slice A0_9 l0_9.length c0_9, .slice A0_10 l0_10.length c0_10] ?_; intro gs hgs w8s hsb hsl; replace BK197 := kb BK197 hsl; replace HB := bp hsl; have BSS := Aside0.mk hsb; clear hsb hsl hgs) | ((with_reducible refine gate_callee (f := 8) rfl ?_); refine zC 15 Try.func8 #[.agg #[.int .i64 0, .string (⟨#[]⟩ : ByteArray), .slice (some ⟨gs, 0, none⟩) 1 1, .slice none 0 0, .slice none 0 0, .slice none 0 0], .int .i64 120] ?_; (with_reducible refine (small_one a0_0 a0_1 a0_2 a0_3 _ _ l0_4 a0_5 a0_6 a0_7 _ _ l0_8 _ _ l0_9 _ _ l0_10 120 true gs _ ?side1 ?side2 ?side3 ?side4 ?side5 ?side6 ?side7 ?side8 BSS.out A4.out).mono ?_); (case side1 => exact cz HR0_4); (case side2 => exact HC0_4.out); (case side3 => exact cz HR0_8); (case side4 => exact HC0_8.out); (case side5 => exact cz HR0_9); (case side6 => exact HC0_9.out); (case side7 => exact cz HR0_10); (case side8 => exact HC0_10.out); rintro e w8 ⟨rfl, hb⟩; refine ⟨_, rfl, ?_⟩; clear BSS; replace BK197 := kb BK197 hb; replace HB := bp hb; clear hb; have hcz9_0 : w8.cell? ⟨gb197, 0, none⟩ = some (.int .i64 a0_0) := ct BK197 0; have hcz9_1 : w8.cell? ⟨gb197, 1, none⟩ = some (.int .i64 a0_1) := ct BK197 1; have hcz9_2 : w8.cell? ⟨gb197, 2, none⟩ = some (.string a0_2) := ct BK197 2; have hcz9_3 : w8.cell? ⟨gb197, 3, none⟩ = some (.int .i64 a0_3) := ct BK197 3; have hcz9_4 : w8.cell? ⟨gb197, 4, none⟩ = some (.slice A0_4 l0_4.length c0_4) := ct BK197 4; have hcz9_5 : w8.cell? ⟨gb197, 5, none⟩ = some (.string a0_5) := ct BK197 5; have hcz9_6 : w8.cell? ⟨gb197, 6, none⟩ = some (.string a0_6) := ct BK197 6; have hcz9_7 : w8.cell? ⟨gb197, 7, none⟩ = some (.int .i64 a0_7) := ct BK197 7; have hcz9_8 : w8.cell? ⟨gb197, 8, none⟩ = some (.slice A0_8 l0_8.length c0_8) := ct BK197 8; have hcz9_9 : w8.cell? ⟨gb197, 9, none⟩ = some (.slice A0_9 l0_9.length c0_9) := ct BK197 9; have hcz9_10 : w8.cell? ⟨gb197, 10, none⟩ = some (.slice A0_10 l0_10.length c0_10) := ct BK197 10; have hfz9_0 := blk_frozen BK197.out 0; have hfz9_1 := blk_frozen BK197.out 1; have hfz9_2 := blk_frozen BK197.out 2; have hfz9_3 := blk_frozen BK197.out 3; have hfz9_4 := blk_frozen BK197.out 4; have hfz9_5 := blk_frozen BK197.out 5; have hfz9_6 := blk_frozen BK197.out 6; have hfz9_7 := blk_frozen BK197.out 7; have hfz9_8 := blk_frozen BK197.out 8; have hfz9_9 := blk_frozen BK197.out 9; have hfz9_10 := blk_frozen BK197.out 10) | (go_at_call 21; (with_reducible refine (dioramaref03_CheckTrack.calls k a0_0 a0_1 a0_2 a0_3 _ _ l0_4 a0_5 a0_6 a0_7 _ _ l0_8 _ _ l0_9 _ _ l0_10 t199 _ ?side1 ?side2 ?side3 ?side4 ?side5 ?side6 ?side7 ?side8 A6.out).mono ?_); (case side1 => exact cz HR0_4); (case side2 => exact HC0_4.out); (case side3 => exact cz HR0_8); (case side4 => exact HC0_8.out); (case side5 => exact cz HR0_9); (case side6 => exact HC0_9.out); (case side7 => exact cz HR0_10); (case side8 => exact HC0_10.out); rintro e w10 ⟨rfl, hb⟩; replace BK197 := kb BK197 hb; replace HB := bp hb; clear hb))
   go_meet
   case rel => exact ⟨_, ((t199 != 0)), jz, H', ⟨by first | omega | exact Nat.le_refl _⟩, ⟨kz⟩, ⟨bz⟩⟩
  ·obtain rfl := bf c5; rw [if_neg (show ¬ (false = true) by decide)] at H; have H' := Aside0.mk H; clear H; have hcz11_0 : w3.cell? ⟨gb197, 0, none⟩ = some (.int .i64 a0_0) := ct BK197 0; have hcz11_1 : w3.cell? ⟨gb197, 1, none⟩ = some (.int .i64 a0_1) := ct BK197 1; have hcz11_2 : w3.cell? ⟨gb197, 2, none⟩ = some (.string a0_2) := ct BK197 2; have hcz11_3 : w3.cell? ⟨gb197, 3, none⟩ = some (.int .i64 a0_3) := ct BK197 3; have hcz11_4 : w3.cell? ⟨gb197, 4, none⟩ = some (.slice A0_4 l0_4.length c0_4) := ct BK197 4; have hcz11_5 : w3.cell? ⟨gb197, 5, none⟩ = some (.string a0_5) := ct BK197 5; have hcz11_6 : w3.cell? ⟨gb197, 6, none⟩ = some (.string a0_6) := ct BK197 6; have hcz11_7 : w3.cell? ⟨gb197, 7, none⟩ = some (.int .i64 a0_7) := ct BK197 7; have hcz11_8 : w3.cell? ⟨gb197, 8, none⟩ = some (.slice A0_8 l0_8.length c0_8) := ct BK197 8; have hcz11_9 : w3.cell? ⟨gb197, 9, none⟩ = some (.slice A0_9 l0_9.length c0_9) := ct BK197 9; have hcz11_10 : w3.cell? ⟨gb197, 10, none⟩ = some (.slice A0_10 l0_10.length c0_10) := ct BK197 10; have hfz11_0 := blk_frozen BK197.out 0; have hfz11_1 := blk_frozen BK197.out 1; have hfz11_2 := blk_frozen BK197.out 2; have hfz11_3 := blk_frozen BK197.out 3; have hfz11_4 := blk_frozen BK197.out 4; have hfz11_5 := blk_frozen BK197.out 5; have hfz11_6 := blk_frozen BK197.out 6; have hfz11_7 := blk_frozen BK197.out 7; have hfz11_8 := blk_frozen BK197.out 8; have hfz11_9 := blk_frozen BK197.out 9; have hfz11_10 := blk_frozen BK197.out 10
   go_wp2_with (first | ((with_reducible refine gate_dst (N := 13) rfl ?_); refine Gv.zS 13 40 #[.int .i64 a0_0, .int .i64 a0_1, .string a0_2, .int .i64 a0_3, .slice A0_4 l0_4.length c0_4, .string a0_5, .string a0_6, .int .i64 a0_7, .slice A0_8 l0_8.length c0_8, .slice A0_9 l0_9.length c0_9, .slice A0_10 l0_10.length c0_10] ?_; intro gs hgs w12s hsb hsl; replace BK197 := kb BK197 hsl; replace HB := bp hsl; have BSS := Aside0.mk hsb; clear hsb hsl hgs) | ((with_reducible refine gate_callee (f := 8) rfl ?_); refine zC 15 Try.func8 #[.agg #[.int .i64 0, .string (⟨#[]⟩ : ByteArray), .slice (some ⟨gs, 0, none⟩) 1 1, .slice none 0 0, .slice none 0 0, .slice none 0 0], .int .i64 120] ?_; (with_reducible refine (small_one a0_0 a0_1 a0_2 a0_3 _ _ l0_4 a0_5 a0_6 a0_7 _ _ l0_8 _ _ l0_9 _ _ l0_10 120 false gs _ ?side1 ?side2 ?side3 ?side4 ?side5 ?side6 ?side7 ?side8 BSS.out A4.out).mono ?_); (case side1 => exact cz HR0_4); (case side2 => exact HC0_4.out); (case side3 => exact cz HR0_8); (case side4 => exact HC0_8.out); (case side5 => exact cz HR0_9); (case side6 => exact HC0_9.out); (case side7 => exact cz HR0_10); (case side8 => exact HC0_10.out); rintro e w12 ⟨rfl, hb⟩; refine ⟨_, rfl, ?_⟩; clear BSS; replace BK197 := kb BK197 hb; replace HB := bp hb; clear hb))
   go_meet
   case rel => exact ⟨_, (true), jz, H', ⟨by first | omega | exact Nat.le_refl _⟩, ⟨kz⟩, ⟨bz⟩⟩
 case rest =>
  clear HC2
  try clear c2
  try clear p2
  try clear c5
  try clear hcz11_0
  try clear hcz11_1
  try clear hcz11_10
  try clear hcz11_2
  try clear hcz11_3
  try clear hcz11_4
  try clear hcz11_5
  try clear hcz11_6
  try clear hcz11_7
  try clear hcz11_8
  try clear hcz11_9
  try clear hcz7_0
  try clear hcz7_1
  try clear hcz7_10
  try clear hcz7_2
  try clear hcz7_3
  try clear hcz7_4
  try clear hcz7_5
  try clear hcz7_6
  try clear hcz7_7
  try clear hcz7_8
  try clear hcz7_9
  try clear hcz9_0
  try clear hcz9_1
  try clear hcz9_10
  try clear hcz9_2
  try clear hcz9_3
  try clear hcz9_4
  try clear hcz9_5
  try clear hcz9_6
  try clear hcz9_7
  try clear hcz9_8
  try clear hcz9_9
  try clear hfz11_0
  try clear hfz11_1
  try clear hfz11_10
  try clear hfz11_2
  try clear hfz11_3
  try clear hfz11_4
  try clear hfz11_5
  try clear hfz11_6
  try clear hfz11_7
  try clear hfz11_8
  try clear hfz11_9
  try clear hfz7_0
  try clear hfz7_1
  try clear hfz7_10
  try clear hfz7_2
  try clear hfz7_3
  try clear hfz7_4
  try clear hfz7_5
  try clear hfz7_6
  try clear hfz7_7
  try clear hfz7_8
  try clear hfz7_9
  try clear hfz9_0
  try clear hfz9_1
  try clear hfz9_10
  try clear hfz9_2
  try clear hfz9_3
  try clear hfz9_4
  try clear hfz9_5
  try clear hfz9_6
  try clear hfz9_7
  try clear hfz9_8
  try clear hfz9_9
  obtain ⟨kq, x21_1, rfl, HA, HJ1, BK197, HB⟩ := hcut
  cases kq with
  | zero => exact absurd HA.out (by simp [dioramalaw03_ModelClosed.j0])
  | succ kj1 =>
   have H := HA.out; clear HA; simp only [dioramalaw03_ModelClosed.j0] at H
   by_cases c13 : x21_1 = true
   ·subst c13; rw [if_pos rfl] at H; obtain ⟨t200, A14, H⟩ := ob H; obtain rfl := Option.some.inj H
    go_wp2_with (first | ((with_reducible refine gate_callee (f := 15) rfl ?_); refine zC 22 Try.func15 #[] ?_; (with_reducible refine (dioramalaw03_awake.calls  t200 _ A14.out).mono ?_); rintro e w15 ⟨rfl, hb⟩; refine ⟨_, rfl, ?_⟩; replace BK197 := kb BK197 hb; replace HB := bp hb; clear hb))
    go_ret
    exact ⟨ez, bz⟩
   ·obtain rfl := bf c13; rw [if_neg (show ¬ (false = true) by decide)] at H; have H' := Aside0.mk H; clear H
    go_wp2
    go_loopg [3] kj1 (fun kq v3 w' => ∃ (x3_2 : Int), v3 = .int .i64 x3_2 ∧ Aside0 (dioramalaw03_ModelClosed.l0 kq x3_2 a0_0 a0_1 a0_2 a0_3 l0_4 a0_5 a0_6 a0_7 l0_8 l0_9 l0_10 = some r) ∧ Aside0 (kq ≤ kj1) ∧ Aside0 (w'.heap[gb197]? = some (.cells #[.int .i64 a0_0, .int .i64 a0_1, .string a0_2, .int .i64 a0_3, (.slice A0_4 l0_4.length c0_4), .string a0_5, .string a0_6, .int .i64 a0_7, (.slice A0_8 l0_8.length c0_8), (.slice A0_9 l0_9.length c0_9), (.slice A0_10 l0_10.length c0_10)] 40 (0, 0))) ∧ Aside0 (Below w.heap.size w w'))
    case atStart => exact ⟨(0), jz, H', ⟨Nat.le_refl _⟩, ⟨kz⟩, ⟨bz⟩⟩
    case round =>
     clear H'
     try clear c1
     try clear c2
     try clear p2
     try clear c5
     try clear c13
     try clear c15
     try clear hcz11_0
     try clear hcz11_1
     try clear hcz11_10
     try clear hcz11_2
     try clear hcz11_3
     try clear hcz11_4
     try clear hcz11_5
     try clear hcz11_6
     try clear hcz11_7
     try clear hcz11_8
     try clear hcz11_9
     try clear hcz7_0
     try clear hcz7_1
     try clear hcz7_10
     try clear hcz7_2
     try clear hcz7_3
     try clear hcz7_4
     try clear hcz7_5
     try clear hcz7_6
     try clear hcz7_7
     try clear hcz7_8
     try clear hcz7_9
     try clear hcz9_0
     try clear hcz9_1
     try clear hcz9_10
     try clear hcz9_2
     try clear hcz9_3
     try clear hcz9_4
     try clear hcz9_5
     try clear hcz9_6
     try clear hcz9_7
     try clear hcz9_8
     try clear hcz9_9
     try clear hfz11_0
     try clear hfz11_1
     try clear hfz11_10
     try clear hfz11_2
     try clear hfz11_3
     try clear hfz11_4
     try clear hfz11_5
     try clear hfz11_6
     try clear hfz11_7
     try clear hfz11_8
     try clear hfz11_9
     try clear hfz7_0
     try clear hfz7_1
     try clear hfz7_10
     try clear hfz7_2
     try clear hfz7_3
     try clear hfz7_4
     try clear hfz7_5
     try clear hfz7_6
     try clear hfz7_7
     try clear hfz7_8
     try clear hfz7_9
     try clear hfz9_0
     try clear hfz9_1
     try clear hfz9_10
     try clear hfz9_2
     try clear hfz9_3
     try clear hfz9_4
     try clear hfz9_5
     try clear hfz9_6
     try clear hfz9_7
     try clear hfz9_8
     try clear hfz9_9
     try clear p2
     obtain ⟨x3_2, rfl, HA, HK2, BK197, HB⟩ := hrel
     cases gk with
     | zero => exact absurd HA.out (by simp [dioramalaw03_ModelClosed.l0])
     | succ k2 =>
      have H := HA.out; clear HA; simp only [dioramalaw03_ModelClosed.l0] at H
      by_cases c16 : x3_2 < (l0_10.length : Int)
      ·rw [if_pos c16] at H; have c16b0 : decide (x3_2 < (l0_10.length : Int)) = true := decide_eq_true c16; clear c16; obtain ⟨⟨t202, t205⟩, A17, H⟩ := ob H
       (try dsimp only at H)
       have HC18 := Aside0.mk H; clear H; have hcz19_0 : wr.cell? ⟨gb197, 0, none⟩ = some (.int .i64 a0_0) := ct BK197 0; have hcz19_1 : wr.cell? ⟨gb197, 1, none⟩ = some (.int .i64 a0_1) := ct BK197 1; have hcz19_2 : wr.cell? ⟨gb197, 2, none⟩ = some (.string a0_2) := ct BK197 2; have hcz19_3 : wr.cell? ⟨gb197, 3, none⟩ = some (.int .i64 a0_3) := ct BK197 3; have hcz19_4 : wr.cell? ⟨gb197, 4, none⟩ = some (.slice A0_4 l0_4.length c0_4) := ct BK197 4; have hcz19_5 : wr.cell? ⟨gb197, 5, none⟩ = some (.string a0_5) := ct BK197 5; have hcz19_6 : wr.cell? ⟨gb197, 6, none⟩ = some (.string a0_6) := ct BK197 6; have hcz19_7 : wr.cell? ⟨gb197, 7, none⟩ = some (.int .i64 a0_7) := ct BK197 7; have hcz19_8 : wr.cell? ⟨gb197, 8, none⟩ = some (.slice A0_8 l0_8.length c0_8) := ct BK197 8; have hcz19_9 : wr.cell? ⟨gb197, 9, none⟩ = some (.slice A0_9 l0_9.length c0_9) := ct BK197 9; have hcz19_10 : wr.cell? ⟨gb197, 10, none⟩ = some (.slice A0_10 l0_10.length c0_10) := ct BK197 10; have hfz19_0 := blk_frozen BK197.out 0; have hfz19_1 := blk_frozen BK197.out 1; have hfz19_2 := blk_frozen BK197.out 2; have hfz19_3 := blk_frozen BK197.out 3; have hfz19_4 := blk_frozen BK197.out 4; have hfz19_5 := blk_frozen BK197.out 5; have hfz19_6 := blk_frozen BK197.out 6; have hfz19_7 := blk_frozen BK197.out 7; have hfz19_8 := blk_frozen BK197.out 8; have hfz19_9 := blk_frozen BK197.out 9; have hfz19_10 := blk_frozen BK197.out 10
       go_upto_region 7 with (first | ((with_reducible refine gate_callee (f := 16) rfl ?_); refine zC 33 Try.func16 #[.agg #[.int .i64 a0_0, .int .i64 a0_1, .string a0_2, .int .i64 a0_3, .slice A0_4 l0_4.length c0_4, .string a0_5, .string a0_6, .int .i64 a0_7, .slice A0_8 l0_8.length c0_8, .slice A0_9 l0_9.length c0_9, .slice A0_10 l0_10.length c0_10], .int .i64 x3_2] ?_; (with_reducible refine (model_Needs.calls a0_0 a0_1 a0_2 a0_3 _ _ l0_4 a0_5 a0_6 a0_7 _ _ l0_8 _ _ l0_9 _ _ l0_10 x3_2 t202 t205 _ ?side1 ?side2 ?side3 ?side4 ?side5 ?side6 ?side7 ?side8 A17.out).mono ?_); (case side1 => exact cz HR0_4); (case side2 => exact HC0_4.out); (case side3 => exact cz HR0_8); (case side4 => exact HC0_8.out); (case side5 => exact cz HR0_9); (case side6 => exact HC0_9.out); (case side7 => exact cz HR0_10); (case side8 => exact HC0_10.out); rintro e w20 ⟨v203, rfl, ho0, hb⟩; refine ⟨_, rfl, ?_⟩; have HO204 := Aside0.mk (Kd.R_lower ho0 sz); replace BK197 := kb BK197 hb; replace HB := bp hb; clear hb ho0))
       (try simp only [Act.put, List.setIfInBounds_toArray, List.set_cons_zero, List.set_cons_succ])
       go_cut [43] (fun v43 wc => ∃ (kq : Nat) (x43_17 : Bool), v43 = .bool x43_17 ∧ Aside0 (dioramalaw03_ModelClosed.j2 kq x3_2 t202 x43_17 a0_0 a0_1 a0_2 a0_3 l0_4 a0_5 a0_6 a0_7 l0_8 l0_9 l0_10 = some r) ∧ Aside0 (kq ≤ k2) ∧ Aside0 (Kd.R (Kd.int .i64) 3 wc w.heap.size (fun _ => True) v203 t202) ∧ Aside0 (wc.heap[gb197]? = some (.cells #[.int .i64 a0_0, .int .i64 a0_1, .string a0_2, .int .i64 a0_3, (.slice A0_4 l0_4.length c0_4), .string a0_5, .string a0_6, .int .i64 a0_7, (.slice A0_8 l0_8.length c0_8), (.slice A0_9 l0_9.length c0_9), (.slice A0_10 l0_10.length c0_10)] 40 (0, 0))) ∧ Aside0 (Below w.heap.size w wc))
       case first =>
        have H := HC18.out; clear HC18
        by_cases c21 : t205 = 0
        ·rw [if_pos c21] at H; have c21b0 : (t205 == 0) = true := beq_iff_eq.mpr c21; have c21b1 : (t205 != 0) = false := bne_eq_false_iff_eq.mpr c21; clear c21
         (first | rw [c21b0] | (simp only [i64_w, i32_w]; rw [c21b0]) | skip)
         obtain ⟨t206, A22, H⟩ := ob H; have H' := Aside0.mk H; clear H; obtain ⟨Ao23, co23, eo23⟩ := Kd.R_slice HO204.out; subst eo23
         go_wp2_with (first | (go_at_call 22; (with_reducible refine (dioramaref00_HasInt.calls k2 _ _ t202 x3_2 t206 _ ?side1 ?side2 A22.out).mono ?_); (case side1 => exact cr HO204); (case side2 => exact (Kd.R_reads' HO204.out).2.1); rintro e w' ⟨rfl, ⟨nd, rfl⟩⟩))
         go_meet
         case rel => exact ⟨_, (decide (t206 < 0)), jz, H', ⟨by have := HJ1.out; have := HK2.out; first | omega | exact Nat.le_refl _⟩, ⟨rz HO204⟩, ⟨kz⟩, ⟨bz⟩⟩
        ·rw [if_neg c21] at H; have c21b0 : (t205 == 0) = false := beq_eq_false_iff_ne.mpr c21; have c21b1 : (t205 != 0) = true := bne_iff_ne.mpr c21
         (first | rw [c21b0] | (simp only [i64_w, i32_w]; rw [c21b0]) | skip)
         have H' := Aside0.mk H; clear H
         go_wp2
         go_meet
         case rel => exact ⟨_, (true), jz, H', ⟨by have := HJ1.out; have := HK2.out; first | omega | exact Nat.le_refl _⟩, ⟨rz HO204⟩, ⟨kz⟩, ⟨bz⟩⟩
       case rest =>
        clear HC18
        try clear c1
        try clear c2
        try clear p2
        try clear c5
        try clear c13
        try clear c15
        try clear c16
        try clear c16b0
        try clear c21
        try clear c21b0
        try clear c21b1
        try clear hcz11_0
        try clear hcz11_1
        try clear hcz11_10
        try clear hcz11_2
        try clear hcz11_3
        try clear hcz11_4
        try clear hcz11_5
        try clear hcz11_6
        try clear hcz11_7
        try clear hcz11_8
        try clear hcz11_9
        try clear hcz19_0
        try clear hcz19_1
        try clear hcz19_10
        try clear hcz19_2
        try clear hcz19_3
        try clear hcz19_4
        try clear hcz19_5
        try clear hcz19_6
        try clear hcz19_7
        try clear hcz19_8
        try clear hcz19_9
        try clear hcz7_0
        try clear hcz7_1
        try clear hcz7_10
        try clear hcz7_2
        try clear hcz7_3
        try clear hcz7_4
        try clear hcz7_5
        try clear hcz7_6
        try clear hcz7_7
        try clear hcz7_8
        try clear hcz7_9
        try clear hcz9_0
        try clear hcz9_1
        try clear hcz9_10
        try clear hcz9_2
        try clear hcz9_3
        try clear hcz9_4
        try clear hcz9_5
        try clear hcz9_6
        try clear hcz9_7
        try clear hcz9_8
        try clear hcz9_9
        try clear hfz11_0
        try clear hfz11_1
        try clear hfz11_10
        try clear hfz11_2
        try clear hfz11_3
        try clear hfz11_4
        try clear hfz11_5
        try clear hfz11_6
        try clear hfz11_7
        try clear hfz11_8
        try clear hfz11_9
        try clear hfz19_0
        try clear hfz19_1
        try clear hfz19_10
        try clear hfz19_2
        try clear hfz19_3
        try clear hfz19_4
        try clear hfz19_5
        try clear hfz19_6
        try clear hfz19_7
        try clear hfz19_8
        try clear hfz19_9
        try clear hfz7_0
        try clear hfz7_1
        try clear hfz7_10
        try clear hfz7_2
        try clear hfz7_3
        try clear hfz7_4
        try clear hfz7_5
        try clear hfz7_6
        try clear hfz7_7
        try clear hfz7_8
        try clear hfz7_9
        try clear hfz9_0
        try clear hfz9_1
        try clear hfz9_10
        try clear hfz9_2
        try clear hfz9_3
        try clear hfz9_4
        try clear hfz9_5
        try clear hfz9_6
        try clear hfz9_7
        try clear hfz9_8
        try clear hfz9_9
        try clear p2
        obtain ⟨kq, x43_17, rfl, HA, HJ17, HO_4, BK197, HB⟩ := hcut
        cases kq with
        | zero => exact absurd HA.out (by simp [dioramalaw03_ModelClosed.j2])
        | succ kj17 =>
         have H := HA.out; clear HA; simp only [dioramalaw03_ModelClosed.j2] at H
         by_cases c24 : x43_17 = true
         ·subst c24; rw [if_pos rfl] at H; obtain rfl := Option.some.inj H
          go_wp2
          go_ret
          exact ⟨ez, bz⟩
         ·obtain rfl := bf c24; rw [if_neg (show ¬ (false = true) by decide)] at H; obtain ⟨⟨t207, t208⟩, A25, H⟩ := ob H
          (try dsimp only at H)
          have HC26 := Aside0.mk H; clear H; have hcz27_0 : wc.cell? ⟨gb197, 0, none⟩ = some (.int .i64 a0_0) := ct BK197 0; have hcz27_1 : wc.cell? ⟨gb197, 1, none⟩ = some (.int .i64 a0_1) := ct BK197 1; have hcz27_2 : wc.cell? ⟨gb197, 2, none⟩ = some (.string a0_2) := ct BK197 2; have hcz27_3 : wc.cell? ⟨gb197, 3, none⟩ = some (.int .i64 a0_3) := ct BK197 3; have hcz27_4 : wc.cell? ⟨gb197, 4, none⟩ = some (.slice A0_4 l0_4.length c0_4) := ct BK197 4; have hcz27_5 : wc.cell? ⟨gb197, 5, none⟩ = some (.string a0_5) := ct BK197 5; have hcz27_6 : wc.cell? ⟨gb197, 6, none⟩ = some (.string a0_6) := ct BK197 6; have hcz27_7 : wc.cell? ⟨gb197, 7, none⟩ = some (.int .i64 a0_7) := ct BK197 7; have hcz27_8 : wc.cell? ⟨gb197, 8, none⟩ = some (.slice A0_8 l0_8.length c0_8) := ct BK197 8; have hcz27_9 : wc.cell? ⟨gb197, 9, none⟩ = some (.slice A0_9 l0_9.length c0_9) := ct BK197 9; have hcz27_10 : wc.cell? ⟨gb197, 10, none⟩ = some (.slice A0_10 l0_10.length c0_10) := ct BK197 10; have hfz27_0 := blk_frozen BK197.out 0; have hfz27_1 := blk_frozen BK197.out 1; have hfz27_2 := blk_frozen BK197.out 2; have hfz27_3 := blk_frozen BK197.out 3; have hfz27_4 := blk_frozen BK197.out 4; have hfz27_5 := blk_frozen BK197.out 5; have hfz27_6 := blk_frozen BK197.out 6; have hfz27_7 := blk_frozen BK197.out 7; have hfz27_8 := blk_frozen BK197.out 8; have hfz27_9 := blk_frozen BK197.out 9; have hfz27_10 := blk_frozen BK197.out 10
          go_upto_region 10 with (first | ((with_reducible refine gate_callee (f := 18) rfl ?_); refine zC 47 Try.func18 #[.agg #[.int .i64 a0_0, .int .i64 a0_1, .string a0_2, .int .i64 a0_3, .slice A0_4 l0_4.length c0_4, .string a0_5, .string a0_6, .int .i64 a0_7, .slice A0_8 l0_8.length c0_8, .slice A0_9 l0_9.length c0_9, .slice A0_10 l0_10.length c0_10], .int .i64 x3_2] ?_; (with_reducible refine (model_Start.calls kj17 a0_0 a0_1 a0_2 a0_3 _ _ l0_4 a0_5 a0_6 a0_7 _ _ l0_8 _ _ l0_9 _ _ l0_10 x3_2 t207 t208 _ ?side1 ?side2 ?side3 ?side4 ?side5 ?side6 ?side7 ?side8 A25.out).mono ?_); (case side1 => exact cz HR0_4); (case side2 => exact HC0_4.out); (case side3 => exact cz HR0_8); (case side4 => exact HC0_8.out); (case side5 => exact cz HR0_9); (case side6 => exact HC0_9.out); (case side7 => exact cz HR0_10); (case side8 => exact HC0_10.out); rintro e w28 ⟨rfl, hb⟩; refine ⟨_, rfl, ?_⟩; replace HO_4 := Aside0.mk (Kd.R_below (rz HO_4) hb); replace BK197 := kb BK197 hb; replace HB := bp hb; clear hb))
          (try simp only [Act.put, List.setIfInBounds_toArray, List.set_cons_zero, List.set_cons_succ])
          go_cut [64] (fun v64 wc => ∃ (kq : Nat) (x64_25 : Bool), v64 = .bool x64_25 ∧ Aside0 (dioramalaw03_ModelClosed.j3 kq x3_2 t202 t207 t208 x64_25 a0_0 a0_1 a0_2 a0_3 l0_4 a0_5 a0_6 a0_7 l0_8 l0_9 l0_10 = some r) ∧ Aside0 (kq ≤ kj17) ∧ Aside0 (Kd.R (Kd.int .i64) 3 wc w.heap.size (fun _ => True) v203 t202) ∧ Aside0 (wc.heap[gb197]? = some (.cells #[.int .i64 a0_0, .int .i64 a0_1, .string a0_2, .int .i64 a0_3, (.slice A0_4 l0_4.length c0_4), .string a0_5, .string a0_6, .int .i64 a0_7, (.slice A0_8 l0_8.length c0_8), (.slice A0_9 l0_9.length c0_9), (.slice A0_10 l0_10.length c0_10)] 40 (0, 0))) ∧ Aside0 (Below w.heap.size w wc))
          case first =>
           have H := HC26.out; clear HC26
           by_cases c29 : 0 ≤ x3_2
           ·rw [if_pos c29] at H; have c29b0 : decide (0 ≤ x3_2) = true := decide_eq_true c29; clear c29
            (first | rw [c29b0] | (simp only [i64_w, i32_w]; rw [c29b0]) | skip)
            by_cases c30 : x3_2 < (l0_10.length : Int)
            ·rw [if_pos c30] at H; have c30b0 : decide (x3_2 < (l0_10.length : Int)) = true := decide_eq_true c30; clear c30; obtain ⟨bq31, hbq31⟩ : ∃ b_ : Bool, b_ = ((rd_T51 l0_10 x3_2).f3) := ⟨_, rfl⟩; replace H : (if bq31 = true then (if t208 = 0 then (dioramalaw03_ModelClosed.j3 kj17 x3_2 t202 t207 t208 (t207 != x3_2) a0_0 a0_1 a0_2 a0_3 l0_4 a0_5 a0_6 a0_7 l0_8 l0_9 l0_10) else (dioramalaw03_ModelClosed.j3 kj17 x3_2 t202 t207 t208 true a0_0 a0_1 a0_2 a0_3 l0_4 a0_5 a0_6 a0_7 l0_8 l0_9 l0_10)) else (dioramalaw03_ModelClosed.j3 kj17 x3_2 t202 t207 t208 false a0_0 a0_1 a0_2 a0_3 l0_4 a0_5 a0_6 a0_7 l0_8 l0_9 l0_10)) = some r := by rw [← hbq31] at H; exact H
             have Nbq31 := Aside0.mk hbq31; clear hbq31
             by_cases c32 : bq31 = true
             ·subst c32; rw [if_pos rfl] at H
              by_cases c33 : t208 = 0
              ·rw [if_pos c33] at H; have c33b0 : (t208 == 0) = true := beq_iff_eq.mpr c33; have c33b1 : (t208 != 0) = false := bne_eq_false_iff_eq.mpr c33; clear c33; have H' := Aside0.mk H; clear H; have hcz34_0 : w28.cell? ⟨gb197, 0, none⟩ = some (.int .i64 a0_0) := ct BK197 0; have hcz34_1 : w28.cell? ⟨gb197, 1, none⟩ = some (.int .i64 a0_1) := ct BK197 1; have hcz34_2 : w28.cell? ⟨gb197, 2, none⟩ = some (.string a0_2) := ct BK197 2; have hcz34_3 : w28.cell? ⟨gb197, 3, none⟩ = some (.int .i64 a0_3) := ct BK197 3; have hcz34_4 : w28.cell? ⟨gb197, 4, none⟩ = some (.slice A0_4 l0_4.length c0_4) := ct BK197 4; have hcz34_5 : w28.cell? ⟨gb197, 5, none⟩ = some (.string a0_5) := ct BK197 5; have hcz34_6 : w28.cell? ⟨gb197, 6, none⟩ = some (.string a0_6) := ct BK197 6; have hcz34_7 : w28.cell? ⟨gb197, 7, none⟩ = some (.int .i64 a0_7) := ct BK197 7; have hcz34_8 : w28.cell? ⟨gb197, 8, none⟩ = some (.slice A0_8 l0_8.length c0_8) := ct BK197 8; have hcz34_9 : w28.cell? ⟨gb197, 9, none⟩ = some (.slice A0_9 l0_9.length c0_9) := ct BK197 9; have hcz34_10 : w28.cell? ⟨gb197, 10, none⟩ = some (.slice A0_10 l0_10.length c0_10) := ct BK197 10; have hfz34_0 := blk_frozen BK197.out 0; have hfz34_1 := blk_frozen BK197.out 1; have hfz34_2 := blk_frozen BK197.out 2; have hfz34_3 := blk_frozen BK197.out 3; have hfz34_4 := blk_frozen BK197.out 4; have hfz34_5 := blk_frozen BK197.out 5; have hfz34_6 := blk_frozen BK197.out 6; have hfz34_7 := blk_frozen BK197.out 7; have hfz34_8 := blk_frozen BK197.out 8; have hfz34_9 := blk_frozen BK197.out 9; have hfz34_10 := blk_frozen BK197.out 10; have p209 : 0 ≤ (x3_2 : Int) := od; have q209 : x3_2 < (l0_10.length : Int) := od; obtain ⟨ad209, A209_4, c209_4, A209_5, c209_5, e209, hx209_0, hx209_1, hx209_2, hx209_3, hx209_4, hx209_5, hl209_4, hi209_4, hl209_5, hi209_5⟩ := at_T51 HR0_10.out x3_2 p209 q209
               (try rw [← Nbq31.out] at hx209_3)
               cases e209
               replace hx209_0 := cl HB hx209_0; replace hx209_1 := cl HB hx209_1; replace hx209_2 := cl HB hx209_2; replace hx209_3 := cl HB hx209_3; replace hx209_4 := cl HB hx209_4; replace hx209_5 := cl HB hx209_5; have HR209_4 := Aside0.mk hi209_4; have HC209_4 := Aside0.mk hl209_4; clear hi209_4 hl209_4; have HR209_5 := Aside0.mk hi209_5; have HC209_5 := Aside0.mk hl209_5; clear hi209_5 hl209_5; replace p209 := eq_true p209; replace q209 := eq_true q209
               go_wp2
               go_meet
               case rel => exact ⟨_, ((t207 != x3_2)), jz, H', ⟨by have := HJ1.out; have := HK2.out; have := HJ17.out; first | omega | exact Nat.le_refl _⟩, ⟨rz HO_4⟩, ⟨kz⟩, ⟨bz⟩⟩
              ·rw [if_neg c33] at H; have c33b0 : (t208 == 0) = false := beq_eq_false_iff_ne.mpr c33; have c33b1 : (t208 != 0) = true := bne_iff_ne.mpr c33; have H' := Aside0.mk H; clear H; have hcz35_0 : w28.cell? ⟨gb197, 0, none⟩ = some (.int .i64 a0_0) := ct BK197 0; have hcz35_1 : w28.cell? ⟨gb197, 1, none⟩ = some (.int .i64 a0_1) := ct BK197 1; have hcz35_2 : w28.cell? ⟨gb197, 2, none⟩ = some (.string a0_2) := ct BK197 2; have hcz35_3 : w28.cell? ⟨gb197, 3, none⟩ = some (.int .i64 a0_3) := ct BK197 3; have hcz35_4 : w28.cell? ⟨gb197, 4, none⟩ = some (.slice A0_4 l0_4.length c0_4) := ct BK197 4; have hcz35_5 : w28.cell? ⟨gb197, 5, none⟩ = some (.string a0_5) := ct BK197 5; have hcz35_6 : w28.cell? ⟨gb197, 6, none⟩ = some (.string a0_6) := ct BK197 6; have hcz35_7 : w28.cell? ⟨gb197, 7, none⟩ = some (.int .i64 a0_7) := ct BK197 7; have hcz35_8 : w28.cell? ⟨gb197, 8, none⟩ = some (.slice A0_8 l0_8.length c0_8) := ct BK197 8; have hcz35_9 : w28.cell? ⟨gb197, 9, none⟩ = some (.slice A0_9 l0_9.length c0_9) := ct BK197 9; have hcz35_10 : w28.cell? ⟨gb197, 10, none⟩ = some (.slice A0_10 l0_10.length c0_10) := ct BK197 10; have hfz35_0 := blk_frozen BK197.out 0; have hfz35_1 := blk_frozen BK197.out 1; have hfz35_2 := blk_frozen BK197.out 2; have hfz35_3 := blk_frozen BK197.out 3; have hfz35_4 := blk_frozen BK197.out 4; have hfz35_5 := blk_frozen BK197.out 5; have hfz35_6 := blk_frozen BK197.out 6; have hfz35_7 := blk_frozen BK197.out 7; have hfz35_8 := blk_frozen BK197.out 8; have hfz35_9 := blk_frozen BK197.out 9; have hfz35_10 := blk_frozen BK197.out 10; have p209 : 0 ≤ (x3_2 : Int) := od; have q209 : x3_2 < (l0_10.length : Int) := od; obtain ⟨ad209, A209_4, c209_4, A209_5, c209_5, e209, hx209_0, hx209_1, hx209_2, hx209_3, hx209_4, hx209_5, hl209_4, hi209_4, hl209_5, hi209_5⟩ := at_T51 HR0_10.out x3_2 p209 q209
               (try rw [← Nbq31.out] at hx209_3)
               cases e209
               replace hx209_0 := cl HB hx209_0; replace hx209_1 := cl HB hx209_1; replace hx209_2 := cl HB hx209_2; replace hx209_3 := cl HB hx209_3; replace hx209_4 := cl HB hx209_4; replace hx209_5 := cl HB hx209_5; have HR209_4 := Aside0.mk hi209_4; have HC209_4 := Aside0.mk hl209_4; clear hi209_4 hl209_4; have HR209_5 := Aside0.mk hi209_5; have HC209_5 := Aside0.mk hl209_5; clear hi209_5 hl209_5; replace p209 := eq_true p209; replace q209 := eq_true q209
               go_wp2
               go_meet
               case rel => exact ⟨_, (true), jz, H', ⟨by have := HJ1.out; have := HK2.out; have := HJ17.out; first | omega | exact Nat.le_refl _⟩, ⟨rz HO_4⟩, ⟨kz⟩, ⟨bz⟩⟩
             ·obtain rfl := bf c32; rw [if_neg (show ¬ (false = true) by decide)] at H; have H' := Aside0.mk H; clear H; have hcz36_0 : w28.cell? ⟨gb197, 0, none⟩ = some (.int .i64 a0_0) := ct BK197 0; have hcz36_1 : w28.cell? ⟨gb197, 1, none⟩ = some (.int .i64 a0_1) := ct BK197 1; have hcz36_2 : w28.cell? ⟨gb197, 2, none⟩ = some (.string a0_2) := ct BK197 2; have hcz36_3 : w28.cell? ⟨gb197, 3, none⟩ = some (.int .i64 a0_3) := ct BK197 3; have hcz36_4 : w28.cell? ⟨gb197, 4, none⟩ = some (.slice A0_4 l0_4.length c0_4) := ct BK197 4; have hcz36_5 : w28.cell? ⟨gb197, 5, none⟩ = some (.string a0_5) := ct BK197 5; have hcz36_6 : w28.cell? ⟨gb197, 6, none⟩ = some (.string a0_6) := ct BK197 6; have hcz36_7 : w28.cell? ⟨gb197, 7, none⟩ = some (.int .i64 a0_7) := ct BK197 7; have hcz36_8 : w28.cell? ⟨gb197, 8, none⟩ = some (.slice A0_8 l0_8.length c0_8) := ct BK197 8; have hcz36_9 : w28.cell? ⟨gb197, 9, none⟩ = some (.slice A0_9 l0_9.length c0_9) := ct BK197 9; have hcz36_10 : w28.cell? ⟨gb197, 10, none⟩ = some (.slice A0_10 l0_10.length c0_10) := ct BK197 10; have hfz36_0 := blk_frozen BK197.out 0; have hfz36_1 := blk_frozen BK197.out 1; have hfz36_2 := blk_frozen BK197.out 2; have hfz36_3 := blk_frozen BK197.out 3; have hfz36_4 := blk_frozen BK197.out 4; have hfz36_5 := blk_frozen BK197.out 5; have hfz36_6 := blk_frozen BK197.out 6; have hfz36_7 := blk_frozen BK197.out 7; have hfz36_8 := blk_frozen BK197.out 8; have hfz36_9 := blk_frozen BK197.out 9; have hfz36_10 := blk_frozen BK197.out 10; have p209 : 0 ≤ (x3_2 : Int) := od; have q209 : x3_2 < (l0_10.length : Int) := od; obtain ⟨ad209, A209_4, c209_4, A209_5, c209_5, e209, hx209_0, hx209_1, hx209_2, hx209_3, hx209_4, hx209_5, hl209_4, hi209_4, hl209_5, hi209_5⟩ := at_T51 HR0_10.out x3_2 p209 q209
              (try rw [← Nbq31.out] at hx209_3)
              cases e209
              replace hx209_0 := cl HB hx209_0; replace hx209_1 := cl HB hx209_1; replace hx209_2 := cl HB hx209_2; replace hx209_3 := cl HB hx209_3; replace hx209_4 := cl HB hx209_4; replace hx209_5 := cl HB hx209_5; have HR209_4 := Aside0.mk hi209_4; have HC209_4 := Aside0.mk hl209_4; clear hi209_4 hl209_4; have HR209_5 := Aside0.mk hi209_5; have HC209_5 := Aside0.mk hl209_5; clear hi209_5 hl209_5; replace p209 := eq_true p209; replace q209 := eq_true q209
              go_wp2
              go_meet
              case rel => exact ⟨_, (false), jz, H', ⟨by have := HJ1.out; have := HK2.out; have := HJ17.out; first | omega | exact Nat.le_refl _⟩, ⟨rz HO_4⟩, ⟨kz⟩, ⟨bz⟩⟩
            ·rw [if_neg c30] at H
             exact absurd H (by simp)
           ·rw [if_neg c29] at H
            exact absurd H (by simp)
          case rest =>
           clear HC26
           try clear c1
           try clear c2
           try clear p2
           try clear q2
           try clear hx2
           try clear c3
           try clear q3
           try clear c5
           try clear c13
           try clear c15
           try clear c16
           try clear c16b0
           try clear c18
           try clear c20
           try clear p20
           try clear q20
           try clear hx20
           try clear c21
           try clear c21b0
           try clear c21b1
           try clear c24
           try clear c27
           try clear c29
           try clear c29b0
           try clear c30
           try clear c30b0
           try clear q31
           try clear c32
           try clear c33
           try clear c33b0
           try clear c33b1
           try clear hcz11_0
           try clear hcz11_1
           try clear hcz11_10
           try clear hcz11_2
           try clear hcz11_3
           try clear hcz11_4
           try clear hcz11_5
           try clear hcz11_6
           try clear hcz11_7
           try clear hcz11_8
           try clear hcz11_9
           try clear hcz19_0
           try clear hcz19_1
           try clear hcz19_10
           try clear hcz19_2
           try clear hcz19_3
           try clear hcz19_4
           try clear hcz19_5
           try clear hcz19_6
           try clear hcz19_7
           try clear hcz19_8
           try clear hcz19_9
           try clear hcz27_0
           try clear hcz27_1
           try clear hcz27_10
           try clear hcz27_2
           try clear hcz27_3
           try clear hcz27_4
           try clear hcz27_5
           try clear hcz27_6
           try clear hcz27_7
           try clear hcz27_8
           try clear hcz27_9
           try clear hcz34_0
           try clear hcz34_1
           try clear hcz34_10
           try clear hcz34_2
           try clear hcz34_3
           try clear hcz34_4
           try clear hcz34_5
           try clear hcz34_6
           try clear hcz34_7
           try clear hcz34_8
           try clear hcz34_9
           try clear hcz35_0
           try clear hcz35_1
           try clear hcz35_10
           try clear hcz35_2
           try clear hcz35_3
           try clear hcz35_4
           try clear hcz35_5
           try clear hcz35_6
           try clear hcz35_7
           try clear hcz35_8
           try clear hcz35_9
           try clear hcz36_0
           try clear hcz36_1
           try clear hcz36_10
           try clear hcz36_2
           try clear hcz36_3
           try clear hcz36_4
           try clear hcz36_5
           try clear hcz36_6
           try clear hcz36_7
           try clear hcz36_8
           try clear hcz36_9
           try clear hcz7_0
           try clear hcz7_1
           try clear hcz7_10
           try clear hcz7_2
           try clear hcz7_3
           try clear hcz7_4
           try clear hcz7_5
           try clear hcz7_6
           try clear hcz7_7
           try clear hcz7_8
           try clear hcz7_9
           try clear hcz9_0
           try clear hcz9_1
           try clear hcz9_10
           try clear hcz9_2
           try clear hcz9_3
           try clear hcz9_4
           try clear hcz9_5
           try clear hcz9_6
           try clear hcz9_7
           try clear hcz9_8
           try clear hcz9_9
           try clear hfz11_0
           try clear hfz11_1
           try clear hfz11_10
           try clear hfz11_2
           try clear hfz11_3
           try clear hfz11_4
           try clear hfz11_5
           try clear hfz11_6
           try clear hfz11_7
           try clear hfz11_8
           try clear hfz11_9
           try clear hfz19_0
           try clear hfz19_1
           try clear hfz19_10
           try clear hfz19_2
           try clear hfz19_3
           try clear hfz19_4
           try clear hfz19_5
           try clear hfz19_6
           try clear hfz19_7
           try clear hfz19_8
           try clear hfz19_9
           try clear hfz27_0
           try clear hfz27_1
           try clear hfz27_10
           try clear hfz27_2
           try clear hfz27_3
           try clear hfz27_4
           try clear hfz27_5
           try clear hfz27_6
           try clear hfz27_7
           try clear hfz27_8
           try clear hfz27_9
           try clear hfz34_0
           try clear hfz34_1
           try clear hfz34_10
           try clear hfz34_2
           try clear hfz34_3
           try clear hfz34_4
           try clear hfz34_5
           try clear hfz34_6
           try clear hfz34_7
           try clear hfz34_8
           try clear hfz34_9
           try clear hfz35_0
           try clear hfz35_1
           try clear hfz35_10
           try clear hfz35_2
           try clear hfz35_3
           try clear hfz35_4
           try clear hfz35_5
           try clear hfz35_6
           try clear hfz35_7
           try clear hfz35_8
           try clear hfz35_9
           try clear hfz36_0
           try clear hfz36_1
           try clear hfz36_10
           try clear hfz36_2
           try clear hfz36_3
           try clear hfz36_4
           try clear hfz36_5
           try clear hfz36_6
           try clear hfz36_7
           try clear hfz36_8
           try clear hfz36_9
           try clear hfz7_0
           try clear hfz7_1
           try clear hfz7_10
           try clear hfz7_2
           try clear hfz7_3
           try clear hfz7_4
           try clear hfz7_5
           try clear hfz7_6
           try clear hfz7_7
           try clear hfz7_8
           try clear hfz7_9
           try clear hfz9_0
           try clear hfz9_1
           try clear hfz9_10
           try clear hfz9_2
           try clear hfz9_3
           try clear hfz9_4
           try clear hfz9_5
           try clear hfz9_6
           try clear hfz9_7
           try clear hfz9_8
           try clear hfz9_9
           try clear hx209_0
           try clear hx209_1
           try clear hx209_2
           try clear hx209_3
           try clear hx209_4
           try clear hx209_5
           try clear p2
           try clear p209
           try clear q209
           obtain ⟨kq, x64_25, rfl, HA, HJ25, HO_4, BK197, HB⟩ := hcut
           cases kq with
           | zero => exact absurd HA.out (by simp [dioramalaw03_ModelClosed.j3])
           | succ kj25 =>
            have H := HA.out; clear HA; simp only [dioramalaw03_ModelClosed.j3] at H
            by_cases c37 : x64_25 = true
            ·subst c37; rw [if_pos rfl] at H; obtain rfl := Option.some.inj H
             go_wp2
             go_ret
             exact ⟨ez, bz⟩
            ·obtain rfl := bf c37; rw [if_neg (show ¬ (false = true) by decide)] at H; have HC38 := Aside0.mk H; clear H
             go_upto_region 12 with (fail)
             go_cut [82] (fun v82 wc => ∃ (kq : Nat) (x82_37 : Bool), v82 = .bool x82_37 ∧ Aside0 (dioramalaw03_ModelClosed.j4 kq x3_2 t202 x82_37 a0_0 a0_1 a0_2 a0_3 l0_4 a0_5 a0_6 a0_7 l0_8 l0_9 l0_10 = some r) ∧ Aside0 (kq ≤ kj25) ∧ Aside0 (Kd.R (Kd.int .i64) 3 wc w.heap.size (fun _ => True) v203 t202) ∧ Aside0 (wc.heap[gb197]? = some (.cells #[.int .i64 a0_0, .int .i64 a0_1, .string a0_2, .int .i64 a0_3, (.slice A0_4 l0_4.length c0_4), .string a0_5, .string a0_6, .int .i64 a0_7, (.slice A0_8 l0_8.length c0_8), (.slice A0_9 l0_9.length c0_9), (.slice A0_10 l0_10.length c0_10)] 40 (0, 0))) ∧ Aside0 (Below w.heap.size w wc))
             case first =>
              have H := HC38.out; clear HC38
              by_cases c39 : t208 = 0
              ·rw [if_pos c39] at H; have c39b0 : (t208 == 0) = true := beq_iff_eq.mpr c39; have c39b1 : (t208 != 0) = false := bne_eq_false_iff_eq.mpr c39; clear c39
               (first | rw [c39b0] | (simp only [i64_w, i32_w]; rw [c39b0]) | skip)
               by_cases c40 : 0 < (t202.length : Int)
               ·rw [if_pos c40] at H; have c40b0 : decide (0 < (t202.length : Int)) = true := decide_eq_true c40; have c40b1 : decide (0 < t202.length) = true := decide_eq_true (by omega); clear c40
                by_cases c41 : t207 > (rd t202 0)
                ·rw [if_pos c41] at H; have c41b0 : decide ((rd t202 0) < t207) = true := decide_eq_true c41; clear c41; have H' := Aside0.mk H; clear H; obtain ⟨Ao42, co42, eo42⟩ := Kd.R_slice HO_4.out; subst eo42; have p210 : 0 ≤ (0 : Int) := (by omega); have q210 : 0 < (t202.length : Int) := od; obtain ⟨ad210, e210, hx210_0⟩ := Kd.at_int (Kd.R_reads' HO_4.out).2.2 0 p210 q210
                 cases e210
                 have qi210 : (0 < t202.length) = True := eq_true (by omega)
                 (try rw [show ((0 : Int)).toNat = 0 from rfl] at hx210_0)
                 (try rw [Addr.add_zero'] at hx210_0)
                 replace p210 := eq_true p210; replace q210 := eq_true q210
                 go_wp2
                 go_meet
                 case rel => exact ⟨_, (true), jz, H', ⟨by have := HJ1.out; have := HK2.out; have := HJ17.out; have := HJ25.out; first | omega | exact Nat.le_refl _⟩, ⟨rz HO_4⟩, ⟨kz⟩, ⟨bz⟩⟩
                ·rw [if_neg c41] at H; have c41b0 : decide ((rd t202 0) < t207) = false := decide_eq_false c41; clear c41
                 by_cases c43 : 0 ≤ t207
                 ·rw [if_pos c43] at H; have c43b0 : decide (0 ≤ t207) = true := decide_eq_true c43; clear c43
                  by_cases c44 : t207 < (l0_10.length : Int)
                  ·rw [if_pos c44] at H; have c44b0 : decide (t207 < (l0_10.length : Int)) = true := decide_eq_true c44; clear c44; have H' := Aside0.mk H; clear H; obtain ⟨Ao45, co45, eo45⟩ := Kd.R_slice HO_4.out; subst eo45; have p210 : 0 ≤ (0 : Int) := (by omega); have q210 : 0 < (t202.length : Int) := od; obtain ⟨ad210, e210, hx210_0⟩ := Kd.at_int (Kd.R_reads' HO_4.out).2.2 0 p210 q210
                   cases e210
                   have qi210 : (0 < t202.length) = True := eq_true (by omega)
                   (try rw [show ((0 : Int)).toNat = 0 from rfl] at hx210_0)
                   (try rw [Addr.add_zero'] at hx210_0)
                   replace p210 := eq_true p210; replace q210 := eq_true q210; have hcz46_0 : wc.cell? ⟨gb197, 0, none⟩ = some (.int .i64 a0_0) := ct BK197 0; have hcz46_1 : wc.cell? ⟨gb197, 1, none⟩ = some (.int .i64 a0_1) := ct BK197 1; have hcz46_2 : wc.cell? ⟨gb197, 2, none⟩ = some (.string a0_2) := ct BK197 2; have hcz46_3 : wc.cell? ⟨gb197, 3, none⟩ = some (.int .i64 a0_3) := ct BK197 3; have hcz46_4 : wc.cell? ⟨gb197, 4, none⟩ = some (.slice A0_4 l0_4.length c0_4) := ct BK197 4; have hcz46_5 : wc.cell? ⟨gb197, 5, none⟩ = some (.string a0_5) := ct BK197 5; have hcz46_6 : wc.cell? ⟨gb197, 6, none⟩ = some (.string a0_6) := ct BK197 6; have hcz46_7 : wc.cell? ⟨gb197, 7, none⟩ = some (.int .i64 a0_7) := ct BK197 7; have hcz46_8 : wc.cell? ⟨gb197, 8, none⟩ = some (.slice A0_8 l0_8.length c0_8) := ct BK197 8; have hcz46_9 : wc.cell? ⟨gb197, 9, none⟩ = some (.slice A0_9 l0_9.length c0_9) := ct BK197 9; have hcz46_10 : wc.cell? ⟨gb197, 10, none⟩ = some (.slice A0_10 l0_10.length c0_10) := ct BK197 10; have hfz46_0 := blk_frozen BK197.out 0; have hfz46_1 := blk_frozen BK197.out 1; have hfz46_2 := blk_frozen BK197.out 2; have hfz46_3 := blk_frozen BK197.out 3; have hfz46_4 := blk_frozen BK197.out 4; have hfz46_5 := blk_frozen BK197.out 5; have hfz46_6 := blk_frozen BK197.out 6; have hfz46_7 := blk_frozen BK197.out 7; have hfz46_8 := blk_frozen BK197.out 8; have hfz46_9 := blk_frozen BK197.out 9; have hfz46_10 := blk_frozen BK197.out 10; have p211 : 0 ≤ (t207 : Int) := od; have q211 : t207 < (l0_10.length : Int) := od; obtain ⟨ad211, A211_4, c211_4, A211_5, c211_5, e211, hx211_0, hx211_1, hx211_2, hx211_3, hx211_4, hx211_5, hl211_4, hi211_4, hl211_5, hi211_5⟩ := at_T51 HR0_10.out t207 p211 q211
                   cases e211
                   replace hx211_0 := cl HB hx211_0; replace hx211_1 := cl HB hx211_1; replace hx211_2 := cl HB hx211_2; replace hx211_3 := cl HB hx211_3; replace hx211_4 := cl HB hx211_4; replace hx211_5 := cl HB hx211_5; have HR211_4 := Aside0.mk hi211_4; have HC211_4 := Aside0.mk hl211_4; clear hi211_4 hl211_4; have HR211_5 := Aside0.mk hi211_5; have HC211_5 := Aside0.mk hl211_5; clear hi211_5 hl211_5; replace p211 := eq_true p211; replace q211 := eq_true q211
                   go_wp2
                   go_meet
                   case rel => exact ⟨_, (!((rd_T51 l0_10 t207).f3)), jz, H', ⟨by have := HJ1.out; have := HK2.out; have := HJ17.out; have := HJ25.out; first | omega | exact Nat.le_refl _⟩, ⟨rz HO_4⟩, ⟨kz⟩, ⟨bz⟩⟩
                  ·rw [if_neg c44] at H
                   exact absurd H (by simp)
                 ·rw [if_neg c43] at H
                  exact absurd H (by simp)
               ·rw [if_neg c40] at H
                exact absurd H (by simp)
              ·rw [if_neg c39] at H; have c39b0 : (t208 == 0) = false := beq_eq_false_iff_ne.mpr c39; have c39b1 : (t208 != 0) = true := bne_iff_ne.mpr c39
               (first | rw [c39b0] | (simp only [i64_w, i32_w]; rw [c39b0]) | skip)
               have H' := Aside0.mk H; clear H
               go_wp2
               go_meet
               case rel => exact ⟨_, (false), jz, H', ⟨by have := HJ1.out; have := HK2.out; have := HJ17.out; have := HJ25.out; first | omega | exact Nat.le_refl _⟩, ⟨rz HO_4⟩, ⟨kz⟩, ⟨bz⟩⟩
             case rest =>
              clear HC38
              try clear c1
              try clear c2
              try clear p2
              try clear q2
              try clear hx2
              try clear qi2
              try clear c3
              try clear q3
              try clear c4
              try clear c5
              try clear c13
              try clear c15
              try clear c16
              try clear c16b0
              try clear c18
              try clear c20
              try clear p20
              try clear q20
              try clear hx20
              try clear c21
              try clear c21b0
              try clear c21b1
              try clear p21
              try clear q21
              try clear hx21
              try clear qi21
              try clear c24
              try clear c27
              try clear c29
              try clear c29b0
              try clear c30
              try clear c30b0
              try clear q31
              try clear c32
              try clear c33
              try clear c33b0
              try clear c33b1
              try clear c37
              try clear c39
              try clear c39b0
              try clear c39b1
              try clear c40
              try clear c40b0
              try clear c40b1
              try clear c41
              try clear c41b0
              try clear c43
              try clear c43b0
              try clear c44
              try clear c44b0
              try clear hcz11_0
              try clear hcz11_1
              try clear hcz11_10
              try clear hcz11_2
              try clear hcz11_3
              try clear hcz11_4
              try clear hcz11_5
              try clear hcz11_6
              try clear hcz11_7
              try clear hcz11_8
              try clear hcz11_9
              try clear hcz19_0
              try clear hcz19_1
              try clear hcz19_10
              try clear hcz19_2
              try clear hcz19_3
              try clear hcz19_4
              try clear hcz19_5
              try clear hcz19_6
              try clear hcz19_7
              try clear hcz19_8
              try clear hcz19_9
              try clear hcz27_0
              try clear hcz27_1
              try clear hcz27_10
              try clear hcz27_2
              try clear hcz27_3
              try clear hcz27_4
              try clear hcz27_5
              try clear hcz27_6
              try clear hcz27_7
              try clear hcz27_8
              try clear hcz27_9
              try clear hcz34_0
              try clear hcz34_1
              try clear hcz34_10
              try clear hcz34_2
              try clear hcz34_3
              try clear hcz34_4
              try clear hcz34_5
              try clear hcz34_6
              try clear hcz34_7
              try clear hcz34_8
              try clear hcz34_9
              try clear hcz35_0
              try clear hcz35_1
              try clear hcz35_10
              try clear hcz35_2
              try clear hcz35_3
              try clear hcz35_4
              try clear hcz35_5
              try clear hcz35_6
              try clear hcz35_7
              try clear hcz35_8
              try clear hcz35_9
              try clear hcz36_0
              try clear hcz36_1
              try clear hcz36_10
              try clear hcz36_2
              try clear hcz36_3
              try clear hcz36_4
              try clear hcz36_5
              try clear hcz36_6
              try clear hcz36_7
              try clear hcz36_8
              try clear hcz36_9
              try clear hcz46_0
              try clear hcz46_1
              try clear hcz46_10
              try clear hcz46_2
              try clear hcz46_3
              try clear hcz46_4
              try clear hcz46_5
              try clear hcz46_6
              try clear hcz46_7
              try clear hcz46_8
              try clear hcz46_9
              try clear hcz7_0
              try clear hcz7_1
              try clear hcz7_10
              try clear hcz7_2
              try clear hcz7_3
              try clear hcz7_4
              try clear hcz7_5
              try clear hcz7_6
              try clear hcz7_7
              try clear hcz7_8
              try clear hcz7_9
              try clear hcz9_0
              try clear hcz9_1
              try clear hcz9_10
              try clear hcz9_2
              try clear hcz9_3
              try clear hcz9_4
              try clear hcz9_5
              try clear hcz9_6
              try clear hcz9_7
              try clear hcz9_8
              try clear hcz9_9
              try clear hfz11_0
              try clear hfz11_1
              try clear hfz11_10
              try clear hfz11_2
              try clear hfz11_3
              try clear hfz11_4
              try clear hfz11_5
              try clear hfz11_6
              try clear hfz11_7
              try clear hfz11_8
              try clear hfz11_9
              try clear hfz19_0
              try clear hfz19_1
              try clear hfz19_10
              try clear hfz19_2
              try clear hfz19_3
              try clear hfz19_4
              try clear hfz19_5
              try clear hfz19_6
              try clear hfz19_7
              try clear hfz19_8
              try clear hfz19_9
              try clear hfz27_0
              try clear hfz27_1
              try clear hfz27_10
              try clear hfz27_2
              try clear hfz27_3
              try clear hfz27_4
              try clear hfz27_5
              try clear hfz27_6
              try clear hfz27_7
              try clear hfz27_8
              try clear hfz27_9
              try clear hfz34_0
              try clear hfz34_1
              try clear hfz34_10
              try clear hfz34_2
              try clear hfz34_3
              try clear hfz34_4
              try clear hfz34_5
              try clear hfz34_6
              try clear hfz34_7
              try clear hfz34_8
              try clear hfz34_9
              try clear hfz35_0
              try clear hfz35_1
              try clear hfz35_10
              try clear hfz35_2
              try clear hfz35_3
              try clear hfz35_4
              try clear hfz35_5
              try clear hfz35_6
              try clear hfz35_7
              try clear hfz35_8
              try clear hfz35_9
              try clear hfz36_0
              try clear hfz36_1
              try clear hfz36_10
              try clear hfz36_2
              try clear hfz36_3
              try clear hfz36_4
              try clear hfz36_5
              try clear hfz36_6
              try clear hfz36_7
              try clear hfz36_8
              try clear hfz36_9
              try clear hfz46_0
              try clear hfz46_1
              try clear hfz46_10
              try clear hfz46_2
              try clear hfz46_3
              try clear hfz46_4
              try clear hfz46_5
              try clear hfz46_6
              try clear hfz46_7
              try clear hfz46_8
              try clear hfz46_9
              try clear hfz7_0
              try clear hfz7_1
              try clear hfz7_10
              try clear hfz7_2
              try clear hfz7_3
              try clear hfz7_4
              try clear hfz7_5
              try clear hfz7_6
              try clear hfz7_7
              try clear hfz7_8
              try clear hfz7_9
              try clear hfz9_0
              try clear hfz9_1
              try clear hfz9_10
              try clear hfz9_2
              try clear hfz9_3
              try clear hfz9_4
              try clear hfz9_5
              try clear hfz9_6
              try clear hfz9_7
              try clear hfz9_8
              try clear hfz9_9
              try clear hx209_0
              try clear hx209_1
              try clear hx209_2
              try clear hx209_3
              try clear hx209_4
              try clear hx209_5
              try clear hx210_0
              try clear hx211_0
              try clear hx211_1
              try clear hx211_2
              try clear hx211_3
              try clear hx211_4
              try clear hx211_5
              try clear p2
              try clear p20
              try clear p209
              try clear p210
              try clear p211
              try clear q2
              try clear q20
              try clear q209
              try clear q210
              try clear q211
              try clear q3
              try clear q31
              obtain ⟨kq, x82_37, rfl, HA, HJ37, HO_4, BK197, HB⟩ := hcut
              cases kq with
              | zero => exact absurd HA.out (by simp [dioramalaw03_ModelClosed.j4])
              | succ kj37 =>
               have H := HA.out; clear HA; simp only [dioramalaw03_ModelClosed.j4] at H
               by_cases c47 : x82_37 = true
               ·subst c47; rw [if_pos rfl] at H; obtain rfl := Option.some.inj H
                go_wp2
                go_ret
                exact ⟨ez, bz⟩
               ·obtain rfl := bf c47; rw [if_neg (show ¬ (false = true) by decide)] at H; have H' := Aside0.mk H; clear H
                go_wp2
                go_loopg [8] kj37 (fun kq v8 w' => ∃ (x8_6 : Int), v8 = .int .i64 x8_6 ∧ Aside0 (dioramalaw03_ModelClosed.l1 kq x3_2 t202 x8_6 a0_0 a0_1 a0_2 a0_3 l0_4 a0_5 a0_6 a0_7 l0_8 l0_9 l0_10 = some r) ∧ Aside0 (kq ≤ kj37) ∧ Aside0 (Kd.R (Kd.int .i64) 3 w' w.heap.size (fun _ => True) v203 t202) ∧ Aside0 (w'.heap[gb197]? = some (.cells #[.int .i64 a0_0, .int .i64 a0_1, .string a0_2, .int .i64 a0_3, (.slice A0_4 l0_4.length c0_4), .string a0_5, .string a0_6, .int .i64 a0_7, (.slice A0_8 l0_8.length c0_8), (.slice A0_9 l0_9.length c0_9), (.slice A0_10 l0_10.length c0_10)] 40 (0, 0))) ∧ Aside0 (Below w.heap.size w w'))
                case atStart => exact ⟨(0), jz, H', ⟨Nat.le_refl _⟩, ⟨rz HO_4⟩, ⟨kz⟩, ⟨bz⟩⟩
                case round =>
                 clear H'
                 try clear c1
                 try clear c2
                 try clear p2
                 try clear q2
                 try clear hx2
                 try clear qi2
                 try clear c3
                 try clear q3
                 try clear c4
                 try clear c5
                 try clear c13
                 try clear c15
                 try clear c16
                 try clear c16b0
                 try clear c18
                 try clear c20
                 try clear p20
                 try clear q20
                 try clear hx20
                 try clear c21
                 try clear c21b0
                 try clear c21b1
                 try clear p21
                 try clear q21
                 try clear hx21
                 try clear qi21
                 try clear c24
                 try clear c27
                 try clear c29
                 try clear c29b0
                 try clear c30
                 try clear c30b0
                 try clear q31
                 try clear c32
                 try clear c33
                 try clear c33b0
                 try clear c33b1
                 try clear c37
                 try clear c39
                 try clear c39b0
                 try clear c39b1
                 try clear c40
                 try clear c40b0
                 try clear c40b1
                 try clear c41
                 try clear c41b0
                 try clear c43
                 try clear c43b0
                 try clear c44
                 try clear c44b0
                 try clear c47
                 try clear hcz11_0
                 try clear hcz11_1
                 try clear hcz11_10
                 try clear hcz11_2
                 try clear hcz11_3
                 try clear hcz11_4
                 try clear hcz11_5
                 try clear hcz11_6
                 try clear hcz11_7
                 try clear hcz11_8
                 try clear hcz11_9
                 try clear hcz19_0
                 try clear hcz19_1
                 try clear hcz19_10
                 try clear hcz19_2
                 try clear hcz19_3
                 try clear hcz19_4
                 try clear hcz19_5
                 try clear hcz19_6
                 try clear hcz19_7
                 try clear hcz19_8
                 try clear hcz19_9
                 try clear hcz27_0
                 try clear hcz27_1
                 try clear hcz27_10
                 try clear hcz27_2
                 try clear hcz27_3
                 try clear hcz27_4
                 try clear hcz27_5
                 try clear hcz27_6
                 try clear hcz27_7
                 try clear hcz27_8
                 try clear hcz27_9
                 try clear hcz34_0
                 try clear hcz34_1
                 try clear hcz34_10
                 try clear hcz34_2
                 try clear hcz34_3
                 try clear hcz34_4
                 try clear hcz34_5
                 try clear hcz34_6
                 try clear hcz34_7
                 try clear hcz34_8
                 try clear hcz34_9
                 try clear hcz35_0
                 try clear hcz35_1
                 try clear hcz35_10
                 try clear hcz35_2
                 try clear hcz35_3
                 try clear hcz35_4
                 try clear hcz35_5
                 try clear hcz35_6
                 try clear hcz35_7
                 try clear hcz35_8
                 try clear hcz35_9
                 try clear hcz36_0
                 try clear hcz36_1
                 try clear hcz36_10
                 try clear hcz36_2
                 try clear hcz36_3
                 try clear hcz36_4
                 try clear hcz36_5
                 try clear hcz36_6
                 try clear hcz36_7
                 try clear hcz36_8
                 try clear hcz36_9
                 try clear hcz46_0
                 try clear hcz46_1
                 try clear hcz46_10
                 try clear hcz46_2
                 try clear hcz46_3
                 try clear hcz46_4
                 try clear hcz46_5
                 try clear hcz46_6
                 try clear hcz46_7
                 try clear hcz46_8
                 try clear hcz46_9
                 try clear hcz7_0
                 try clear hcz7_1
                 try clear hcz7_10
                 try clear hcz7_2
                 try clear hcz7_3
                 try clear hcz7_4
                 try clear hcz7_5
                 try clear hcz7_6
                 try clear hcz7_7
                 try clear hcz7_8
                 try clear hcz7_9
                 try clear hcz9_0
                 try clear hcz9_1
                 try clear hcz9_10
                 try clear hcz9_2
                 try clear hcz9_3
                 try clear hcz9_4
                 try clear hcz9_5
                 try clear hcz9_6
                 try clear hcz9_7
                 try clear hcz9_8
                 try clear hcz9_9
                 try clear hfz11_0
                 try clear hfz11_1
                 try clear hfz11_10
                 try clear hfz11_2
                 try clear hfz11_3
                 try clear hfz11_4
                 try clear hfz11_5
                 try clear hfz11_6
                 try clear hfz11_7
                 try clear hfz11_8
                 try clear hfz11_9
                 try clear hfz19_0
                 try clear hfz19_1
                 try clear hfz19_10
                 try clear hfz19_2
                 try clear hfz19_3
                 try clear hfz19_4
                 try clear hfz19_5
                 try clear hfz19_6
                 try clear hfz19_7
                 try clear hfz19_8
                 try clear hfz19_9
                 try clear hfz27_0
                 try clear hfz27_1
                 try clear hfz27_10
                 try clear hfz27_2
                 try clear hfz27_3
                 try clear hfz27_4
                 try clear hfz27_5
                 try clear hfz27_6
                 try clear hfz27_7
                 try clear hfz27_8
                 try clear hfz27_9
                 try clear hfz34_0
                 try clear hfz34_1
                 try clear hfz34_10
                 try clear hfz34_2
                 try clear hfz34_3
                 try clear hfz34_4
                 try clear hfz34_5
                 try clear hfz34_6
                 try clear hfz34_7
                 try clear hfz34_8
                 try clear hfz34_9
                 try clear hfz35_0
                 try clear hfz35_1
                 try clear hfz35_10
                 try clear hfz35_2
                 try clear hfz35_3
                 try clear hfz35_4
                 try clear hfz35_5
                 try clear hfz35_6
                 try clear hfz35_7
                 try clear hfz35_8
                 try clear hfz35_9
                 try clear hfz36_0
                 try clear hfz36_1
                 try clear hfz36_10
                 try clear hfz36_2
                 try clear hfz36_3
                 try clear hfz36_4
                 try clear hfz36_5
                 try clear hfz36_6
                 try clear hfz36_7
                 try clear hfz36_8
                 try clear hfz36_9
                 try clear hfz46_0
                 try clear hfz46_1
                 try clear hfz46_10
                 try clear hfz46_2
                 try clear hfz46_3
                 try clear hfz46_4
                 try clear hfz46_5
                 try clear hfz46_6
                 try clear hfz46_7
                 try clear hfz46_8
                 try clear hfz46_9
                 try clear hfz7_0
                 try clear hfz7_1
                 try clear hfz7_10
                 try clear hfz7_2
                 try clear hfz7_3
                 try clear hfz7_4
                 try clear hfz7_5
                 try clear hfz7_6
                 try clear hfz7_7
                 try clear hfz7_8
                 try clear hfz7_9
                 try clear hfz9_0
                 try clear hfz9_1
                 try clear hfz9_10
                 try clear hfz9_2
                 try clear hfz9_3
                 try clear hfz9_4
                 try clear hfz9_5
                 try clear hfz9_6
                 try clear hfz9_7
                 try clear hfz9_8
                 try clear hfz9_9
                 try clear hx209_0
                 try clear hx209_1
                 try clear hx209_2
                 try clear hx209_3
                 try clear hx209_4
                 try clear hx209_5
                 try clear hx210_0
                 try clear hx211_0
                 try clear hx211_1
                 try clear hx211_2
                 try clear hx211_3
                 try clear hx211_4
                 try clear hx211_5
                 try clear p2
                 try clear p20
                 try clear p209
                 try clear p21
                 try clear p210
                 try clear p211
                 try clear q2
                 try clear q20
                 try clear q209
                 try clear q21
                 try clear q210
                 try clear q211
                 try clear q3
                 try clear q31
                 obtain ⟨x8_6, rfl, HA, HK6, HO_4, BK197, HB⟩ := hrel
                 cases gk with
                 | zero => exact absurd HA.out (by simp [dioramalaw03_ModelClosed.l1])
                 | succ k6 =>
                  have H := HA.out; clear HA; simp only [dioramalaw03_ModelClosed.l1] at H
                  by_cases c48 : x8_6 < (t202.length : Int)
                  ·rw [if_pos c48] at H; have c48b0 : decide (x8_6 < (t202.length : Int)) = true := decide_eq_true c48; clear c48
                   by_cases c49 : 0 ≤ x8_6
                   ·rw [if_pos c49] at H; have c49b0 : decide (0 ≤ x8_6) = true := decide_eq_true c49; clear c49; obtain ⟨⟨t213, t216⟩, A50, H⟩ := ob H
                    (try dsimp only at H)
                    by_cases c51 : t216 = 0
                    ·rw [if_pos c51] at H; have c51b0 : (t216 == 0) = true := beq_iff_eq.mpr c51; have c51b1 : (t216 != 0) = false := bne_eq_false_iff_eq.mpr c51; clear c51; have H' := Aside0.mk H; clear H; obtain ⟨Ao52, co52, eo52⟩ := Kd.R_slice HO_4.out; subst eo52
                     try go_wp2
                     replace HO_4 := Aside0.mk (Kd.R_drew HO_4.out); replace BK197 := Aside0.mk (blk_drew BK197.out); replace HB := Aside0.mk (below_drew1 HB.out); have p212 : 0 ≤ (x8_6 : Int) := od; have q212 : x8_6 < (t202.length : Int) := od; obtain ⟨ad212, e212, hx212_0⟩ := Kd.at_int (Kd.R_reads' HO_4.out).2.2 x8_6 p212 q212
                     cases e212
                     replace p212 := eq_true p212; replace q212 := eq_true q212; refine start_ (n := 11) (S := fun w' => w'.cell? ⟨gb197, 0, none⟩ = some (.int .i64 a0_0) ∧ w'.cell? ⟨gb197, 1, none⟩ = some (.int .i64 a0_1) ∧ w'.cell? ⟨gb197, 2, none⟩ = some (.string a0_2) ∧ w'.cell? ⟨gb197, 3, none⟩ = some (.int .i64 a0_3) ∧ w'.cell? ⟨gb197, 4, none⟩ = some (.slice A0_4 l0_4.length c0_4) ∧ w'.cell? ⟨gb197, 5, none⟩ = some (.string a0_5) ∧ w'.cell? ⟨gb197, 6, none⟩ = some (.string a0_6) ∧ w'.cell? ⟨gb197, 7, none⟩ = some (.int .i64 a0_7) ∧ w'.cell? ⟨gb197, 8, none⟩ = some (.slice A0_8 l0_8.length c0_8) ∧ w'.cell? ⟨gb197, 9, none⟩ = some (.slice A0_9 l0_9.length c0_9) ∧ w'.cell? ⟨gb197, 10, none⟩ = some (.slice A0_10 l0_10.length c0_10) ∧ w'.cell? (ad212.add (x8_6).toNat) = some (.int .i64 (rd t202 x8_6))) (ds := []) (bs 11 0) (by kernel_rfl) rfl rfl ⟨ct BK197 0, ct BK197 1, ct BK197 2, ct BK197 3, ct BK197 4, ct BK197 5, ct BK197 6, ct BK197 7, ct BK197 8, ct BK197 9, ct BK197 10, hx212_0⟩ (fun hHeld => ?_)
                     generalize wr.drew = w53 at HO_4 BK197 HB hx212_0 hHeld ⊢; refine zP 1 91 11 2 ?_; refine zP 2 92 11 6 ?_; refine zP 3 93 11 14 ?_; refine zT 0 90 11 15 hHeld ?_; refine zT 4 94 11 31 hHeld ?_; refine zN 5 (some 95) 11 63 (fun K hK => ?_); refine zG Try.func16 #[.agg #[.int .i64 a0_0, .int .i64 a0_1, .string a0_2, .int .i64 a0_3, .slice A0_4 l0_4.length c0_4, .string a0_5, .string a0_6, .int .i64 a0_7, .slice A0_8 l0_8.length c0_8, .slice A0_9 l0_9.length c0_9, .slice A0_10 l0_10.length c0_10], .int .i64 (rd t202 x8_6)] ?_
                     with_reducible refine (model_Needs.calls a0_0 a0_1 a0_2 a0_3 _ _ l0_4 a0_5 a0_6 a0_7 _ _ l0_8 _ _ l0_9 _ _ l0_10 (rd t202 x8_6) t213 t216 _ ?side1 ?side2 ?side3 ?side4 ?side5 ?side6 ?side7 ?side8 A50.out).mono ?_
                     (case side1 => exact cz HR0_4)
                     (case side2 => exact HC0_4.out)
                     (case side3 => exact cz HR0_8)
                     (case side4 => exact HC0_8.out)
                     (case side5 => exact cz HR0_9)
                     (case side6 => exact HC0_9.out)
                     (case side7 => exact cz HR0_10)
                     (case side8 => exact HC0_10.out)
                     rintro e w54 ⟨v214, rfl, ho0, hb⟩; have HS11_ := (hb.cell (World.block_lt_of_cell? _ _ (hHeld.2.2.2.2.2.2.2.2.2.2.2))).trans (hHeld.2.2.2.2.2.2.2.2.2.2.2); refine ⟨_, rfl, ?_⟩; have HO215 := Aside0.mk (Kd.R_lower (Kd.R_new' ho0 (Kd.R_lt (rz HO_4))) sz); replace HO_4 := Aside0.mk (Kd.R_elder' (rz HO_4) (Kd.R_base ho0) hb); replace BK197 := kb BK197 hb; replace HB := bp hb; clear hb ho0; refine hK.out _ _ ⟨ct BK197 0, ct BK197 1, ct BK197 2, ct BK197 3, ct BK197 4, ct BK197 5, ct BK197 6, ct BK197 7, ct BK197 8, ct BK197 9, ct BK197 10, HS11_⟩ (fun hHeld => ?_); clear hK K; refine zM 95 ?_; refine zP 6 89 11 127 ?_; refine zP 7 96 11 255 ?_; refine zP 8 97 11 511 ?_; refine zP 9 9 11 1023 ?_; refine zP 10 10 11 2047 ?_; refine done_ (by kernel_rfl) ?_
                     try go_wp2
                     go_loopg [11] k6 (fun kq v11 w' => ∃ (x11_7 : Int), v11 = .int .i64 x11_7 ∧ Aside0 (dioramalaw03_ModelClosed.l2 kq x3_2 t202 x8_6 t213 x11_7 a0_0 a0_1 a0_2 a0_3 l0_4 a0_5 a0_6 a0_7 l0_8 l0_9 l0_10 = some r) ∧ Aside0 (kq ≤ k6) ∧ Aside0 (Kd.R (Kd.int .i64) 3 w' w.heap.size (fun k_ => some k_ ≠ (v214 : Value).ownBlock) (.slice (some ad212) t202.length co52) t202) ∧ Aside0 (Kd.R (Kd.int .i64) 3 w' w.heap.size (fun k_ => some k_ ≠ ((.slice (some ad212) t202.length co52) : Value).ownBlock) v214 t213) ∧ Aside0 (w'.heap[gb197]? = some (.cells #[.int .i64 a0_0, .int .i64 a0_1, .string a0_2, .int .i64 a0_3, (.slice A0_4 l0_4.length c0_4), .string a0_5, .string a0_6, .int .i64 a0_7, (.slice A0_8 l0_8.length c0_8), (.slice A0_9 l0_9.length c0_9), (.slice A0_10 l0_10.length c0_10)] 40 (0, 0))) ∧ Aside0 (Below w.heap.size w w'))
                     case atStart => exact ⟨(0), jz, H', ⟨Nat.le_refl _⟩, ⟨by (with_reducible repeat (first | apply Kd.R_alloc | apply Kd.R_drewN | apply Kd.R_drew)); exact Kd.R_mono HO_4.out (fun _ hk => hk.2)⟩, ⟨by (with_reducible repeat (first | apply Kd.R_alloc | apply Kd.R_drewN | apply Kd.R_drew)); exact Kd.R_mono HO215.out (fun _ hk => hk.2)⟩, ⟨kz⟩, ⟨bz⟩⟩
                     case round =>
                      clear H'
                      try clear c1
                      try clear c2
                      try clear p2
                      try clear q2
                      try clear hx2
                      try clear qi2
                      try clear c3
                      try clear q3
                      try clear c4
                      try clear c5
                      try clear c13
                      try clear c15
                      try clear c16
                      try clear c16b0
                      try clear c18
                      try clear c20
                      try clear p20
                      try clear q20
                      try clear hx20
                      try clear c21
                      try clear c21b0
                      try clear c21b1
                      try clear p21
                      try clear q21
                      try clear hx21
                      try clear qi21
                      try clear c24
                      try clear c27
                      try clear c29
                      try clear c29b0
                      try clear c30
                      try clear c30b0
                      try clear q31
                      try clear c32
                      try clear c33
                      try clear c33b0
                      try clear c33b1
                      try clear c37
                      try clear c39
                      try clear c39b0
                      try clear c39b1
                      try clear c40
                      try clear c40b0
                      try clear c40b1
                      try clear c41
                      try clear c41b0
                      try clear c43
                      try clear c43b0
                      try clear c44
                      try clear c44b0
                      try clear c47
                      try clear c48
                      try clear c48b0
                      try clear c49
                      try clear c49b0
                      try clear c51
                      try clear c51b0
                      try clear c51b1
                      try clear hcz11_0
                      try clear hcz11_1
                      try clear hcz11_10
                      try clear hcz11_2
                      try clear hcz11_3
                      try clear hcz11_4
                      try clear hcz11_5
                      try clear hcz11_6
                      try clear hcz11_7
                      try clear hcz11_8
                      try clear hcz11_9
                      try clear hcz19_0
                      try clear hcz19_1
                      try clear hcz19_10
                      try clear hcz19_2
                      try clear hcz19_3
                      try clear hcz19_4
                      try clear hcz19_5
                      try clear hcz19_6
                      try clear hcz19_7
                      try clear hcz19_8
                      try clear hcz19_9
                      try clear hcz27_0
                      try clear hcz27_1
                      try clear hcz27_10
                      try clear hcz27_2
                      try clear hcz27_3
                      try clear hcz27_4
                      try clear hcz27_5
                      try clear hcz27_6
                      try clear hcz27_7
                      try clear hcz27_8
                      try clear hcz27_9
                      try clear hcz34_0
                      try clear hcz34_1
                      try clear hcz34_10
                      try clear hcz34_2
                      try clear hcz34_3
                      try clear hcz34_4
                      try clear hcz34_5
                      try clear hcz34_6
                      try clear hcz34_7
                      try clear hcz34_8
                      try clear hcz34_9
                      try clear hcz35_0
                      try clear hcz35_1
                      try clear hcz35_10
                      try clear hcz35_2
                      try clear hcz35_3
                      try clear hcz35_4
                      try clear hcz35_5
                      try clear hcz35_6
                      try clear hcz35_7
                      try clear hcz35_8
                      try clear hcz35_9
                      try clear hcz36_0
                      try clear hcz36_1
                      try clear hcz36_10
                      try clear hcz36_2
                      try clear hcz36_3
                      try clear hcz36_4
                      try clear hcz36_5
                      try clear hcz36_6
                      try clear hcz36_7
                      try clear hcz36_8
                      try clear hcz36_9
                      try clear hcz46_0
                      try clear hcz46_1
                      try clear hcz46_10
                      try clear hcz46_2
                      try clear hcz46_3
                      try clear hcz46_4
                      try clear hcz46_5
                      try clear hcz46_6
                      try clear hcz46_7
                      try clear hcz46_8
                      try clear hcz46_9
                      try clear hcz7_0
                      try clear hcz7_1
                      try clear hcz7_10
                      try clear hcz7_2
                      try clear hcz7_3
                      try clear hcz7_4
                      try clear hcz7_5
                      try clear hcz7_6
                      try clear hcz7_7
                      try clear hcz7_8
                      try clear hcz7_9
                      try clear hcz9_0
                      try clear hcz9_1
                      try clear hcz9_10
                      try clear hcz9_2
                      try clear hcz9_3
                      try clear hcz9_4
                      try clear hcz9_5
                      try clear hcz9_6
                      try clear hcz9_7
                      try clear hcz9_8
                      try clear hcz9_9
                      try clear hfz11_0
                      try clear hfz11_1
                      try clear hfz11_10
                      try clear hfz11_2
                      try clear hfz11_3
                      try clear hfz11_4
                      try clear hfz11_5
                      try clear hfz11_6
                      try clear hfz11_7
                      try clear hfz11_8
                      try clear hfz11_9
                      try clear hfz19_0
                      try clear hfz19_1
                      try clear hfz19_10
                      try clear hfz19_2
                      try clear hfz19_3
                      try clear hfz19_4
                      try clear hfz19_5
                      try clear hfz19_6
                      try clear hfz19_7
                      try clear hfz19_8
                      try clear hfz19_9
                      try clear hfz27_0
                      try clear hfz27_1
                      try clear hfz27_10
                      try clear hfz27_2
                      try clear hfz27_3
                      try clear hfz27_4
                      try clear hfz27_5
                      try clear hfz27_6
                      try clear hfz27_7
                      try clear hfz27_8
                      try clear hfz27_9
                      try clear hfz34_0
                      try clear hfz34_1
                      try clear hfz34_10
                      try clear hfz34_2
                      try clear hfz34_3
                      try clear hfz34_4
                      try clear hfz34_5
                      try clear hfz34_6
                      try clear hfz34_7
                      try clear hfz34_8
                      try clear hfz34_9
                      try clear hfz35_0
                      try clear hfz35_1
                      try clear hfz35_10
                      try clear hfz35_2
                      try clear hfz35_3
                      try clear hfz35_4
                      try clear hfz35_5
                      try clear hfz35_6
                      try clear hfz35_7
                      try clear hfz35_8
                      try clear hfz35_9
                      try clear hfz36_0
                      try clear hfz36_1
                      try clear hfz36_10
                      try clear hfz36_2
                      try clear hfz36_3
                      try clear hfz36_4
                      try clear hfz36_5
                      try clear hfz36_6
                      try clear hfz36_7
                      try clear hfz36_8
                      try clear hfz36_9
                      try clear hfz46_0
                      try clear hfz46_1
                      try clear hfz46_10
                      try clear hfz46_2
                      try clear hfz46_3
                      try clear hfz46_4
                      try clear hfz46_5
                      try clear hfz46_6
                      try clear hfz46_7
                      try clear hfz46_8
                      try clear hfz46_9
                      try clear hfz7_0
                      try clear hfz7_1
                      try clear hfz7_10
                      try clear hfz7_2
                      try clear hfz7_3
                      try clear hfz7_4
                      try clear hfz7_5
                      try clear hfz7_6
                      try clear hfz7_7
                      try clear hfz7_8
                      try clear hfz7_9
                      try clear hfz9_0
                      try clear hfz9_1
                      try clear hfz9_10
                      try clear hfz9_2
                      try clear hfz9_3
                      try clear hfz9_4
                      try clear hfz9_5
                      try clear hfz9_6
                      try clear hfz9_7
                      try clear hfz9_8
                      try clear hfz9_9
                      try clear hx209_0
                      try clear hx209_1
                      try clear hx209_2
                      try clear hx209_3
                      try clear hx209_4
                      try clear hx209_5
                      try clear hx210_0
                      try clear hx211_0
                      try clear hx211_1
                      try clear hx211_2
                      try clear hx211_3
                      try clear hx211_4
                      try clear hx211_5
                      try clear hx212_0
                      try clear p2
                      try clear p20
                      try clear p209
                      try clear p21
                      try clear p210
                      try clear p211
                      try clear p212
                      try clear q2
                      try clear q20
                      try clear q209
                      try clear q21
                      try clear q210
                      try clear q211
                      try clear q212
                      try clear q3
                      try clear q31
                      obtain ⟨x11_7, rfl, HA, HK7, HO_4, HO_9, BK197, HB⟩ := hrel
                      cases gk with
                      | zero => exact absurd HA.out (by simp [dioramalaw03_ModelClosed.l2])
                      | succ k7 =>
                       have H := HA.out; clear HA; simp only [dioramalaw03_ModelClosed.l2] at H
                       by_cases c55 : x11_7 < (t213.length : Int)
                       ·rw [if_pos c55] at H; have c55b0 : decide (x11_7 < (t213.length : Int)) = true := decide_eq_true c55; clear c55
                        by_cases c56 : 0 ≤ x11_7
                        ·rw [if_pos c56] at H; have c56b0 : decide (0 ≤ x11_7) = true := decide_eq_true c56; clear c56; obtain ⟨t218, A57, H⟩ := ob H
                         by_cases c58 : t218 < 0
                         ·rw [if_pos c58] at H; have c58b0 : decide (t218 < 0) = true := decide_eq_true c58; clear c58; obtain rfl := Option.some.inj H; obtain ⟨Ao59, co59, eo59⟩ := Kd.R_slice HO_9.out; subst eo59; have p217 : 0 ≤ (x11_7 : Int) := od; have q217 : x11_7 < (t213.length : Int) := od; obtain ⟨ad217, e217, hx217_0⟩ := Kd.at_int (Kd.R_reads' HO_9.out).2.2 x11_7 p217 q217
                          cases e217
                          replace p217 := eq_true p217; replace q217 := eq_true q217
                          go_wp2_with (first | ((with_reducible refine gate_callee (f := 22) rfl ?_); refine zC 111 Try.func22 #[.slice (some ad212) t202.length co52, .int .i64 (rd t213 x11_7)] ?_; (with_reducible refine (dioramaref00_HasInt.calls k7 _ _ t202 (rd t213 x11_7) t218 _ ?side1 ?side2 A57.out).mono ?_); (case side1 => exact cr HO_4); (case side2 => exact (Kd.R_reads' HO_4.out).2.1); rintro e w' ⟨rfl, ⟨nd, rfl⟩⟩; refine ⟨_, rfl, ?_⟩))
                          go_ret
                          exact ⟨ez, bz⟩
                         ·rw [if_neg c58] at H; have c58b0 : decide (t218 < 0) = false := decide_eq_false c58; clear c58; have H' := Aside0.mk H; clear H; obtain ⟨Ao60, co60, eo60⟩ := Kd.R_slice HO_9.out; subst eo60; have p217 : 0 ≤ (x11_7 : Int) := od; have q217 : x11_7 < (t213.length : Int) := od; obtain ⟨ad217, e217, hx217_0⟩ := Kd.at_int (Kd.R_reads' HO_9.out).2.2 x11_7 p217 q217
                          cases e217
                          replace p217 := eq_true p217; replace q217 := eq_true q217
                          go_wp2_with (first | ((with_reducible refine gate_callee (f := 22) rfl ?_); refine zC 111 Try.func22 #[.slice (some ad212) t202.length co52, .int .i64 (rd t213 x11_7)] ?_; (with_reducible refine (dioramaref00_HasInt.calls k7 _ _ t202 (rd t213 x11_7) t218 _ ?side1 ?side2 A57.out).mono ?_); (case side1 => exact cr HO_4); (case side2 => exact (Kd.R_reads' HO_4.out).2.1); rintro e w' ⟨rfl, ⟨nd, rfl⟩⟩; refine ⟨_, rfl, ?_⟩))
                          go_roundg k7
                          case measure => have := HJ1.out; have := HK2.out; have := HJ17.out; have := HJ25.out; have := HJ37.out; have := HK6.out; have := HK7.out; omega
                          case rel => exact ⟨(wrap64 (x11_7 + 1)), jz, H', ⟨by have := HJ1.out; have := HK2.out; have := HJ17.out; have := HJ25.out; have := HJ37.out; have := HK6.out; have := HK7.out; omega⟩, ⟨rz HO_4⟩, ⟨rz HO_9⟩, ⟨kz⟩, ⟨bz⟩⟩
                        ·rw [if_neg c56] at H
                         exact absurd H (by simp)
                       ·rw [if_neg c55] at H; have c55b0 : decide (x11_7 < (t213.length : Int)) = false := decide_eq_false c55; clear c55; have H' := Aside0.mk H; clear H; obtain ⟨Ao61, co61, eo61⟩ := Kd.R_slice HO_9.out; subst eo61
                        go_wp2
                        go_roundg k7
                        case measure => have := HJ1.out; have := HK2.out; have := HJ17.out; have := HJ25.out; have := HJ37.out; have := HK6.out; have := HK7.out; omega
                        case rel => exact ⟨(wrap64 (x8_6 + 1)), jz, H', ⟨by have := HJ1.out; have := HK2.out; have := HJ17.out; have := HJ25.out; have := HJ37.out; have := HK6.out; have := HK7.out; omega⟩, ⟨by (with_reducible repeat (first | apply Kd.R_alloc | apply Kd.R_drewN | apply Kd.R_drew)); exact Kd.R_mono HO_4.out (fun _ hk => trivial)⟩, ⟨kz⟩, ⟨bz⟩⟩
                    ·rw [if_neg c51] at H; have c51b0 : (t216 == 0) = false := beq_eq_false_iff_ne.mpr c51; have c51b1 : (t216 != 0) = true := bne_iff_ne.mpr c51; obtain rfl := Option.some.inj H; obtain ⟨Ao62, co62, eo62⟩ := Kd.R_slice HO_4.out; subst eo62
                     try go_wp2
                     replace HO_4 := Aside0.mk (Kd.R_drew HO_4.out); replace BK197 := Aside0.mk (blk_drew BK197.out); replace HB := Aside0.mk (below_drew1 HB.out); have p212 : 0 ≤ (x8_6 : Int) := od; have q212 : x8_6 < (t202.length : Int) := od; obtain ⟨ad212, e212, hx212_0⟩ := Kd.at_int (Kd.R_reads' HO_4.out).2.2 x8_6 p212 q212
                     cases e212
                     replace p212 := eq_true p212; replace q212 := eq_true q212; refine start_ (n := 11) (S := fun w' => w'.cell? ⟨gb197, 0, none⟩ = some (.int .i64 a0_0) ∧ w'.cell? ⟨gb197, 1, none⟩ = some (.int .i64 a0_1) ∧ w'.cell? ⟨gb197, 2, none⟩ = some (.string a0_2) ∧ w'.cell? ⟨gb197, 3, none⟩ = some (.int .i64 a0_3) ∧ w'.cell? ⟨gb197, 4, none⟩ = some (.slice A0_4 l0_4.length c0_4) ∧ w'.cell? ⟨gb197, 5, none⟩ = some (.string a0_5) ∧ w'.cell? ⟨gb197, 6, none⟩ = some (.string a0_6) ∧ w'.cell? ⟨gb197, 7, none⟩ = some (.int .i64 a0_7) ∧ w'.cell? ⟨gb197, 8, none⟩ = some (.slice A0_8 l0_8.length c0_8) ∧ w'.cell? ⟨gb197, 9, none⟩ = some (.slice A0_9 l0_9.length c0_9) ∧ w'.cell? ⟨gb197, 10, none⟩ = some (.slice A0_10 l0_10.length c0_10) ∧ w'.cell? (ad212.add (x8_6).toNat) = some (.int .i64 (rd t202 x8_6))) (ds := []) (bs 11 0) (by kernel_rfl) rfl rfl ⟨ct BK197 0, ct BK197 1, ct BK197 2, ct BK197 3, ct BK197 4, ct BK197 5, ct BK197 6, ct BK197 7, ct BK197 8, ct BK197 9, ct BK197 10, hx212_0⟩ (fun hHeld => ?_)
                     generalize wr.drew = w63 at HO_4 BK197 HB hx212_0 hHeld ⊢; refine zP 1 91 11 2 ?_; refine zP 2 92 11 6 ?_; refine zP 3 93 11 14 ?_; refine zT 0 90 11 15 hHeld ?_; refine zT 4 94 11 31 hHeld ?_; refine zN 5 (some 95) 11 63 (fun K hK => ?_); refine zG Try.func16 #[.agg #[.int .i64 a0_0, .int .i64 a0_1, .string a0_2, .int .i64 a0_3, .slice A0_4 l0_4.length c0_4, .string a0_5, .string a0_6, .int .i64 a0_7, .slice A0_8 l0_8.length c0_8, .slice A0_9 l0_9.length c0_9, .slice A0_10 l0_10.length c0_10], .int .i64 (rd t202 x8_6)] ?_
                     with_reducible refine (model_Needs.calls a0_0 a0_1 a0_2 a0_3 _ _ l0_4 a0_5 a0_6 a0_7 _ _ l0_8 _ _ l0_9 _ _ l0_10 (rd t202 x8_6) t213 t216 _ ?side1 ?side2 ?side3 ?side4 ?side5 ?side6 ?side7 ?side8 A50.out).mono ?_
                     (case side1 => exact cz HR0_4)
                     (case side2 => exact HC0_4.out)
                     (case side3 => exact cz HR0_8)
                     (case side4 => exact HC0_8.out)
                     (case side5 => exact cz HR0_9)
                     (case side6 => exact HC0_9.out)
                     (case side7 => exact cz HR0_10)
                     (case side8 => exact HC0_10.out)
                     rintro e w64 ⟨v214, rfl, ho0, hb⟩; have HS11_ := (hb.cell (World.block_lt_of_cell? _ _ (hHeld.2.2.2.2.2.2.2.2.2.2.2))).trans (hHeld.2.2.2.2.2.2.2.2.2.2.2); refine ⟨_, rfl, ?_⟩; have HO215 := Aside0.mk (Kd.R_lower (Kd.R_new' ho0 (Kd.R_lt (rz HO_4))) sz); replace HO_4 := Aside0.mk (Kd.R_elder' (rz HO_4) (Kd.R_base ho0) hb); replace BK197 := kb BK197 hb; replace HB := bp hb; clear hb ho0; refine hK.out _ _ ⟨ct BK197 0, ct BK197 1, ct BK197 2, ct BK197 3, ct BK197 4, ct BK197 5, ct BK197 6, ct BK197 7, ct BK197 8, ct BK197 9, ct BK197 10, HS11_⟩ (fun hHeld => ?_); clear hK K; refine zM 95 ?_; refine zP 6 89 11 127 ?_; refine zP 7 96 11 255 ?_; refine zP 8 97 11 511 ?_; refine zP 9 9 11 1023 ?_; refine zP 10 10 11 2047 ?_; refine done_ (by kernel_rfl) ?_
                     try go_wp2
                     go_ret
                     exact ⟨ez, bz⟩
                   ·rw [if_neg c49] at H
                    exact absurd H (by simp)
                  ·rw [if_neg c48] at H; have c48b0 : decide (x8_6 < (t202.length : Int)) = false := decide_eq_false c48; clear c48; have H' := Aside0.mk H; clear H; obtain ⟨Ao65, co65, eo65⟩ := Kd.R_slice HO_4.out; subst eo65
                   go_wp2
                   go_roundg k6
                   case measure => have := HJ1.out; have := HK2.out; have := HJ17.out; have := HJ25.out; have := HJ37.out; have := HK6.out; omega
                   case rel => exact ⟨(wrap64 (x3_2 + 1)), jz, H', ⟨by have := HJ1.out; have := HK2.out; have := HJ17.out; have := HJ25.out; have := HJ37.out; have := HK6.out; omega⟩, ⟨kz⟩, ⟨bz⟩⟩
      ·rw [if_neg c16] at H; have c16b0 : decide (x3_2 < (l0_10.length : Int)) = false := decide_eq_false c16; clear c16; obtain ⟨t201, A66, H⟩ := ob H; obtain rfl := Option.some.inj H; have hcz67_0 : wr.cell? ⟨gb197, 0, none⟩ = some (.int .i64 a0_0) := ct BK197 0; have hcz67_1 : wr.cell? ⟨gb197, 1, none⟩ = some (.int .i64 a0_1) := ct BK197 1; have hcz67_2 : wr.cell? ⟨gb197, 2, none⟩ = some (.string a0_2) := ct BK197 2; have hcz67_3 : wr.cell? ⟨gb197, 3, none⟩ = some (.int .i64 a0_3) := ct BK197 3; have hcz67_4 : wr.cell? ⟨gb197, 4, none⟩ = some (.slice A0_4 l0_4.length c0_4) := ct BK197 4; have hcz67_5 : wr.cell? ⟨gb197, 5, none⟩ = some (.string a0_5) := ct BK197 5; have hcz67_6 : wr.cell? ⟨gb197, 6, none⟩ = some (.string a0_6) := ct BK197 6; have hcz67_7 : wr.cell? ⟨gb197, 7, none⟩ = some (.int .i64 a0_7) := ct BK197 7; have hcz67_8 : wr.cell? ⟨gb197, 8, none⟩ = some (.slice A0_8 l0_8.length c0_8) := ct BK197 8; have hcz67_9 : wr.cell? ⟨gb197, 9, none⟩ = some (.slice A0_9 l0_9.length c0_9) := ct BK197 9; have hcz67_10 : wr.cell? ⟨gb197, 10, none⟩ = some (.slice A0_10 l0_10.length c0_10) := ct BK197 10; have hfz67_0 := blk_frozen BK197.out 0; have hfz67_1 := blk_frozen BK197.out 1; have hfz67_2 := blk_frozen BK197.out 2; have hfz67_3 := blk_frozen BK197.out 3; have hfz67_4 := blk_frozen BK197.out 4; have hfz67_5 := blk_frozen BK197.out 5; have hfz67_6 := blk_frozen BK197.out 6; have hfz67_7 := blk_frozen BK197.out 7; have hfz67_8 := blk_frozen BK197.out 8; have hfz67_9 := blk_frozen BK197.out 9; have hfz67_10 := blk_frozen BK197.out 10
       go_wp2_with (first | ((with_reducible refine gate_callee (f := 15) rfl ?_); refine zC 113 Try.func15 #[] ?_; (with_reducible refine (dioramalaw03_awake.calls  t201 _ A66.out).mono ?_); rintro e w68 ⟨rfl, hb⟩; refine ⟨_, rfl, ?_⟩; replace BK197 := kb BK197 hb; replace HB := bp hb; clear hb))
       go_ret
       exact ⟨ez, bz⟩
end Go.Proofs.Ytknklchmpohjfaa.E

namespace Go.Proofs.Ytknklchmpohjfaa.Gn
open Go.RowKit Go Go.Proofs.YtknklchmpohjfaaW.PrintWords Go.Proofs.YtknklchmpohjfaaW.PrintLast Go.Proofs.YtknklchmpohjfaaW.PrintMore Go.Proofs.Ytknklchmpohjfaa.Mn Go.Proofs.Ytknklchmpohjfaa.E Go.Proofs.Ytknklchmpohjfaa.Tk Go.Proofs.Ytknklchmpohjfaa.Nx Go.Proofs.Ytknklchmpohjfaa.Ny Go.Proofs.Ytknklchmpohjfaa.Gt
set_option linter.unusedVariables false
set_option linter.unusedSimpArgs false
def sS (l : List Bool) (j : Int) : Bool := decide (0 ≤ j) && rdOf false l j
theorem sS_set {l : List Bool} {d : Int} (h0 : 0 ≤ d) (h1 : d < (l.length : Int)) (j : Int) : sS (l.set d.toNat true) j = (decide (j = d) || sS l j) := by
 unfold sS rdOf
 by_cases hj : 0 ≤ j
 ·rw [decide_eq_true hj, Bool.true_and, Bool.true_and]
  simp only [List.getD_eq_getElem?_getD, List.getElem?_set]
  by_cases he : j = d
  ·subst he
   rw [if_pos rfl, if_pos (by omega), decide_eq_true rfl, Bool.true_or]
   rfl
  ·rw [if_neg (by omega), decide_eq_false he, Bool.false_or]
 ·rw [decide_eq_false hj, Bool.false_and, Bool.false_and, decide_eq_false (by omega), Bool.false_or]
variable {dp : Int → List Int} {i : Int}
structure Inv (dp : Int → List Int) (i : Int) (l : List Bool) (k : Int) : Prop where
 len : (l.length : Int) = i + 1
 self : sS l i = true
 only : ∀ j, sS l j = true → rc dp i j = true
 closed : ∀ j, k < j → j ≤ i → sS l j = true → ∀ d ∈ dp j, sS l d = true
theorem Inv.put {l : List Bool} {k d : Int} (h : Inv dp i l k) (h0 : 0 ≤ d) (h1 : d ≤ k) (hk : k ≤ i) (hr : rc dp i d = true) : Inv dp i (l.set d.toNat true) k := by
 have hl := h.len
 have hs := fun j => sS_set (l := l) h0 (show d < (l.length : Int) by omega) j
 refine ⟨by simpa using hl, by rw [hs, h.self, Bool.or_true], fun j hj => ?_, fun j h2 h3 hj x hx => ?_⟩
 ·rw [hs] at hj
  rcases Bool.or_eq_true _ _ ▸ hj with hj | hj
  ·rw [decide_eq_true_eq] at hj
   subst hj
   exact hr
  ·exact h.only j hj
 ·rw [hs, decide_eq_false (show ¬ j = d by omega), Bool.false_or] at hj
  rw [hs, h.closed j h2 h3 hj x hx, Bool.or_true]
section
variable (id kind : Int) (codec : ByteArray) (scale : Int) (setup : List Int) (lang name : ByteArray) (pr : Int) (edits : List Ed') (refs : List Rf) (samples : List Sm)
variable (hs : smsV 0 0 samples = 0) (hl : samples.length ≤ 400)
include hs hl
end
end Go.Proofs.Ytknklchmpohjfaa.Gn
namespace Go.Proofs.Ytknklchmpohjfaa.Gp
open Go.RowKit Go Go.Proofs.YtknklchmpohjfaaW.PrintWords Go.Proofs.YtknklchmpohjfaaW.PrintLast Go.Proofs.YtknklchmpohjfaaW.PrintMore Go.Proofs.Ytknklchmpohjfaa.Mn Go.Proofs.Ytknklchmpohjfaa.E Go.Proofs.Ytknklchmpohjfaa.Tk Go.Proofs.Ytknklchmpohjfaa.Tw Go.Proofs.Ytknklchmpohjfaa.Nx Go.Proofs.Ytknklchmpohjfaa.Ny Go.Proofs.Ytknklchmpohjfaa.Gt Go.Proofs.Ytknklchmpohjfaa.Gn
set_option linter.unusedVariables false
set_option linter.unusedSimpArgs false
def beg : Option Int → Int × Int
 | some s => (s, 0)
 | none => (0, 5)
section
variable (id kind : Int) (codec : ByteArray) (scale : Int) (setup : List Int) (lang name : ByteArray) (pr : Int) (edits : List Ed') (refs : List Rf) (samples : List Sm)
def rdyV (i : Int) : Int := if chkT id kind codec scale setup lang name pr edits refs samples = 0 then (if i < 0 then 1 else if i ≥ (samples.length : Int) then 1 else 0) else chkT id kind codec scale setup lang name pr edits refs samples
def ndV (i : Int) : List Int × Int := if rdyV id kind codec scale setup lang name pr edits refs samples i = 0 then (ndsL (dps samples) samples.length i, 0) else ([], rdyV id kind codec scale setup lang name pr edits refs samples i)
def stS (i : Int) : Int × Int := if rdyV id kind codec scale setup lang name pr edits refs samples i = 0 then beg (stV (syn samples) ((rd (ndsL (dps samples) samples.length i) 0).toNat + 1)) else (0, rdyV id kind codec scale setup lang name pr edits refs samples i)
theorem rdy_is {i : Int} (h : rdyV id kind codec scale setup lang name pr edits refs samples i = 0) : chkT id kind codec scale setup lang name pr edits refs samples = 0 ∧ 0 ≤ i ∧ i < (samples.length : Int) := by
 unfold rdyV at h
 by_cases hc : chkT id kind codec scale setup lang name pr edits refs samples = 0
 ·rw [if_pos hc] at h
  split at h
  ·cases h
  ·split at h
   ·cases h
   ·exact ⟨hc, by omega, by omega⟩
 ·rw [if_neg hc] at h
  exact absurd h hc
theorem nd_head {i : Int} (h : rdyV id kind codec scale setup lang name pr edits refs samples i = 0) : ∃ d t, ndsL (dps samples) samples.length i = d :: t ∧ rd (ndsL (dps samples) samples.length i) 0 = d ∧ 0 ≤ d ∧ d < (samples.length : Int) ∧ d ≤ i := by
 obtain ⟨hc, h0, h1⟩ := rdy_is id kind codec scale setup lang name pr edits refs samples h
 obtain ⟨d, t, hl, a, b, c, _⟩ := nds_cons (dp := dps samples) h0 h1
 exact ⟨d, t, hl, by rw [hl]; rfl, a, b, c⟩
theorem start_l (hn : samples.length ≤ 400) : ∀ n : Nat, n ≤ samples.length → Ev (fun k => model_Start.l0 k ((n : Int) - 1) id kind codec scale setup lang name pr edits refs samples) (beg (stV (syn samples) n))
 | 0, h => by
  refine Ev.step (f := fun _ => some _) (fun k => ?_) (Ev.now _)
  rw [model_Start.l0, if_neg (by omega)]
  rfl
 | n + 1, h => by
  have ih := start_l hn n (by omega)
  have hx : ((n + 1 : Nat) : Int) - 1 = n := by omega
  have hw : wrap64 ((n : Int) - 1) = (n : Int) - 1 := w64 (by omega) (by omega)
  rw [hx, stV]
  by_cases hs : syn samples (n : Int) = true
  ·have hs2 : (rd_T51 samples (n : Int)).f3 = true := hs
   rw [if_pos hs]
   refine Ev.step (f := fun _ => some _) (fun k => ?_) (Ev.now _)
   rw [model_Start.l0, if_pos (by omega), if_pos (by omega), if_pos (by omega), if_pos hs2]
   rfl
  ·have hs2 : ¬ (rd_T51 samples (n : Int)).f3 = true := hs
   rw [if_neg hs]
   refine Ev.step (fun k => ?_) ih
   rw [model_Start.l0, if_pos (by omega), if_pos (by omega), if_pos (by omega), if_neg hs2, hw]
theorem nd_of {i : Int} (h : rdyV id kind codec scale setup lang name pr edits refs samples i = 0) : model_needs.f id kind codec scale setup lang name pr edits refs samples i = some (ndsL (dps samples) samples.length i) := by
 obtain ⟨hc, h0, h1⟩ := rdy_is id kind codec scale setup lang name pr edits refs samples h
 have h2 := chk_smp hc
 unfold model_needs.f
 rw [if_pos]
 unfold ndsOk
 simp only [Bool.and_eq_true, decide_eq_true_eq]
 exact ⟨h2.2, h2.1, h0, h1⟩
variable (hok : okB codec lang name refs = true)
include hok
theorem ready_f (i : Int) : model_ready.f id kind codec scale setup lang name pr edits refs samples i = some (rdyV id kind codec scale setup lang name pr edits refs samples i) := by
 unfold model_ready.f model_CheckTrack.f rdyV
 rw [if_pos hok]
 simp only [Option.bind_some]
 split
 ·split
  ·rfl
  ·split <;> rfl
 ·rfl
theorem Needs_f (i : Int) : model_Needs.f id kind codec scale setup lang name pr edits refs samples i = some (ndV id kind codec scale setup lang name pr edits refs samples i) := by
 unfold model_Needs.f
 rw [ready_f id kind codec scale setup lang name pr edits refs samples hok]
 simp only [Option.bind_some]
 unfold ndV
 by_cases h : rdyV id kind codec scale setup lang name pr edits refs samples i = 0
 ·rw [if_pos h, if_pos h, nd_of id kind codec scale setup lang name pr edits refs samples h]
  rfl
 ·rw [if_neg h, if_neg h]
theorem Start_f (i : Int) : Ev (fun k => model_Start.f k id kind codec scale setup lang name pr edits refs samples i) (stS id kind codec scale setup lang name pr edits refs samples i) := by
 unfold model_Start.f stS
 rw [ready_f id kind codec scale setup lang name pr edits refs samples hok]
 simp only [Option.bind_some]
 by_cases h : rdyV id kind codec scale setup lang name pr edits refs samples i = 0
 ·rw [if_pos h, nd_of id kind codec scale setup lang name pr edits refs samples h]
  obtain ⟨d, t, hl, hd, a, b, c⟩ := nd_head id kind codec scale setup lang name pr edits refs samples h
  have h2 := chk_smp (rdy_is id kind codec scale setup lang name pr edits refs samples h).1
  have hs := start_l id kind codec scale setup lang name pr edits refs samples h2.1 (d.toNat + 1) (by omega)
  rw [show (((d.toNat + 1 : Nat) : Int) - 1) = d by omega] at hs
  rw [hd]
  refine Ev.congr (fun k => ?_) hs
  rw [if_pos h]
  simp only [Option.bind_some]
  rw [hd, if_pos (by rw [hl]; simp)]
 ·rw [if_neg h]
  refine Ev.congr (fun k => ?_) (Ev.now _)
  rw [if_neg h]
theorem rchk_f : Ev (fun k => dioramaref03_CheckTrack.f k id kind codec scale setup lang name pr edits refs samples) (chkT id kind codec scale setup lang name pr edits refs samples) := by
 have hb := hok
 unfold okB at hb
 simp only [Bool.and_eq_true, decide_eq_true_eq, List.all_eq_true] at hb
 exact rCheckTrack_f id kind codec scale setup lang name pr edits refs samples hb.1 hb.2.1 hb.2.2.1 hb.2.2.2.1 hb.2.2.2.2
end
end Go.Proofs.Ytknklchmpohjfaa.Gp
namespace Go.Proofs.Ytknklchmpohjfaa.Hc
open Go.RowKit Go Go.Proofs.YtknklchmpohjfaaW.PrintWords Go.Proofs.YtknklchmpohjfaaW.PrintLast Go.Proofs.YtknklchmpohjfaaW.PrintMore Go.Proofs.Ytknklchmpohjfaa.Mn Go.Proofs.Ytknklchmpohjfaa.E Go.Proofs.Ytknklchmpohjfaa.Tk Go.Proofs.Ytknklchmpohjfaa.Tw Go.Proofs.Ytknklchmpohjfaa.Nx Go.Proofs.Ytknklchmpohjfaa.Ny Go.Proofs.Ytknklchmpohjfaa.Gt Go.Proofs.Ytknklchmpohjfaa.Gp Go.Proofs.Ytknklchmpohjfaa.Ho
set_option linter.unusedVariables false
set_option linter.unusedSimpArgs false
theorem rd_at {l : List Int} {n : Nat} (h : n < l.length) : rd l (n : Int) = l[n] := by
 unfold rd
 rw [List.getD_eq_getElem?_getD, Int.toNat_natCast, List.getElem?_eq_getElem h]
 rfl
theorem has_l {l : List Int} {x : Int} (hl : l.length ≤ 1000) : ∀ (r n : Nat), n + r = l.length → x ∈ l.drop n → ∃ v : Int, 0 ≤ v ∧ Ev (fun k => dioramaref00_HasInt.l0 k l x (n : Int)) v
 | 0, n, h, hx => by rw [List.drop_of_length_le (by omega)] at hx; cases hx
 | r + 1, n, h, hx => by
  have hn : n < l.length := by omega
  by_cases he : l[n] = x
  ·refine ⟨(n : Int), by omega, Ev.step (f := fun _ => some (n : Int)) (fun k => ?_) (Ev.now _)⟩
   rw [dioramaref00_HasInt.l0, if_pos (by omega), if_pos (by omega), rd_at hn, if_pos he]
  ·rw [List.drop_eq_getElem_cons hn] at hx
   have hx2 : x ∈ l.drop (n + 1) := by
    rcases List.mem_cons.1 hx with h1 | h1
    ·exact absurd h1.symm he
    ·exact h1
   obtain ⟨v, hv, hE⟩ := has_l hl r (n + 1) (by omega) hx2
   refine ⟨v, hv, Ev.step (fun k => ?_) hE⟩
   have hw : wrap64 ((n : Int) + 1) = ((n + 1 : Nat) : Int) := by
    rw [w64 (by omega) (by omega)]
    omega
   rw [dioramaref00_HasInt.l0, if_pos (by omega), if_pos (by omega), rd_at hn, if_neg he, hw]
theorem has_f {l : List Int} {x : Int} (hl : l.length ≤ 1000) (hx : x ∈ l) : ∃ v : Int, 0 ≤ v ∧ Ev (fun k => dioramaref00_HasInt.f k l x) v := by
 obtain ⟨v, hv, hE⟩ := has_l hl l.length 0 (by omega) (by simpa using hx)
 exact ⟨v, hv, hE⟩
section
variable (id kind : Int) (codec : ByteArray) (scale : Int) (setup : List Int) (lang name : ByteArray) (pr : Int) (edits : List Ed') (refs : List Rf) (samples : List Sm)
theorem l2_f (R : Bool) (i x8 : Int) (L4 L9 : List Int) (h4 : L4.length ≤ 400) (h9 : L9.length ≤ 400) (hs : ∀ x ∈ L9, x ∈ L4) (hk : Ev (fun k => dioramalaw03_ModelClosed.l1 k i L4 (wrap64 (x8 + 1)) id kind codec scale setup lang name pr edits refs samples) R) : ∀ (r n : Nat), n + r = L9.length → Ev (fun k => dioramalaw03_ModelClosed.l2 k i L4 x8 L9 (n : Int) id kind codec scale setup lang name pr edits refs samples) R
 | 0, n, h => Ev.step (fun k => by rw [dioramalaw03_ModelClosed.l2, if_neg (by omega)]) hk
 | r + 1, n, h => by
  have hn : n < L9.length := by omega
  have ih := l2_f R i x8 L4 L9 h4 h9 hs hk r (n + 1) (by omega)
  obtain ⟨v, hv, hE⟩ := has_f (x := L9[n]) (show L4.length ≤ 1000 by omega) (hs _ (List.getElem_mem hn))
  have hw : wrap64 ((n : Int) + 1) = ((n + 1 : Nat) : Int) := by
   rw [w64 (by omega) (by omega)]
   omega
  refine Ev.step (f := fun k => (dioramaref00_HasInt.f k L4 L9[n]).bind fun t218 => (if t218 < 0 then (some false) else (dioramalaw03_ModelClosed.l2 k i L4 x8 L9 ((n + 1 : Nat) : Int) id kind codec scale setup lang name pr edits refs samples))) (fun k => ?_) (Ev.bind hE (Ev.congr (fun k => if_neg (by omega)) ih))
  rw [dioramalaw03_ModelClosed.l2, if_pos (by omega), if_pos (by omega), rd_at hn, hw]
variable (hc : chkT id kind codec scale setup lang name pr edits refs samples = 0)
include hc
theorem rdy0 {i : Int} (h0 : 0 ≤ i) (h1 : i < (samples.length : Int)) : rdyV id kind codec scale setup lang name pr edits refs samples i = 0 := by
 unfold rdyV
 rw [if_pos hc, if_neg (by omega), if_neg (by omega)]
theorem len0 (i : Int) : (ndsL (dps samples) samples.length i).length ≤ 400 := by
 have h1 := nds_len (dp := dps samples) (n := samples.length) i
 have h2 := (chk_smp hc).1
 omega
variable (hok : okB codec lang name refs = true)
include hok
theorem nd0 {i : Int} (h0 : 0 ≤ i) (h1 : i < (samples.length : Int)) : model_Needs.f id kind codec scale setup lang name pr edits refs samples i = some (ndsL (dps samples) samples.length i, 0) := by
 rw [Needs_f id kind codec scale setup lang name pr edits refs samples hok]
 unfold ndV
 rw [if_pos (rdy0 id kind codec scale setup lang name pr edits refs samples hc h0 h1)]
theorem l1_f (R : Bool) {i : Int} (h0 : 0 ≤ i) (h1 : i < (samples.length : Int)) (hk : Ev (fun k => dioramalaw03_ModelClosed.l0 k (wrap64 (i + 1)) id kind codec scale setup lang name pr edits refs samples) R) : ∀ (r n : Nat), n + r = (ndsL (dps samples) samples.length i).length → Ev (fun k => dioramalaw03_ModelClosed.l1 k i (ndsL (dps samples) samples.length i) (n : Int) id kind codec scale setup lang name pr edits refs samples) R
 | 0, n, h => Ev.step (fun k => by rw [dioramalaw03_ModelClosed.l1, if_neg (by omega)]) hk
 | r + 1, n, h => by
  have hn : n < (ndsL (dps samples) samples.length i).length := by omega
  have hlen := len0 id kind codec scale setup lang name pr edits refs samples hc i
  have hw : wrap64 ((n : Int) + 1) = ((n + 1 : Nat) : Int) := by
   rw [w64 (by omega) (by omega)]
   omega
  have ih := l1_f R h0 h1 hk r (n + 1) (by omega)
  rw [← hw] at ih
  have hm := List.getElem_mem hn
  have hr := (mem_nds.1 hm).1
  have hl2 := l2_f id kind codec scale setup lang name pr edits refs samples R i (n : Int) (ndsL (dps samples) samples.length i) (ndsL (dps samples) samples.length (ndsL (dps samples) samples.length i)[n]) hlen (len0 id kind codec scale setup lang name pr edits refs samples hc _) (fun x hx => nds_closed (dn_of (chk_smp hc).2) h0 h1 hm hx) ih _ 0 (Nat.zero_add _)
  refine Ev.step (fun k => ?_) hl2
  rw [dioramalaw03_ModelClosed.l1, if_pos (by omega), if_pos (by omega), rd_at hn, nd0 id kind codec scale setup lang name pr edits refs samples hc hok hr.1 hr.2, Option.bind_some]
  exact if_pos rfl
theorem j4_f (R : Bool) {i : Int} (h0 : 0 ≤ i) (h1 : i < (samples.length : Int)) (hk : Ev (fun k => dioramalaw03_ModelClosed.l0 k (wrap64 (i + 1)) id kind codec scale setup lang name pr edits refs samples) R) : Ev (fun k => dioramalaw03_ModelClosed.j4 k i (ndsL (dps samples) samples.length i) false id kind codec scale setup lang name pr edits refs samples) R :=
 Ev.step (fun k => by rw [dioramalaw03_ModelClosed.j4, if_neg (by decide)]; rfl) (l1_f id kind codec scale setup lang name pr edits refs samples hc hok R h0 h1 hk _ 0 (Nat.zero_add _))
theorem j3_f (R : Bool) {i : Int} (h0 : 0 ≤ i) (h1 : i < (samples.length : Int)) (hk : Ev (fun k => dioramalaw03_ModelClosed.l0 k (wrap64 (i + 1)) id kind codec scale setup lang name pr edits refs samples) R) : Ev (fun k => dioramalaw03_ModelClosed.j3 k i (ndsL (dps samples) samples.length i) (stS id kind codec scale setup lang name pr edits refs samples i).1 (stS id kind codec scale setup lang name pr edits refs samples i).2 false id kind codec scale setup lang name pr edits refs samples) R := by
 have hj4 := j4_f id kind codec scale setup lang name pr edits refs samples hc hok R h0 h1 hk
 obtain ⟨d, t, hl, hd, a, b, c⟩ := nd_head id kind codec scale setup lang name pr edits refs samples (rdy0 id kind codec scale setup lang name pr edits refs samples hc h0 h1)
 have hst : stS id kind codec scale setup lang name pr edits refs samples i = beg (stV (syn samples) (d.toNat + 1)) := by
  unfold stS
  rw [if_pos (rdy0 id kind codec scale setup lang name pr edits refs samples hc h0 h1), hd]
 have hlen : (0 : Int) < ((ndsL (dps samples) samples.length i).length : Int) := by rw [hl]; simp
 rw [hst]
 cases ho : stV (syn samples) (d.toNat + 1) with
 | none =>
  refine Ev.step (fun k => ?_) hj4
  rw [dioramalaw03_ModelClosed.j3, if_neg (by decide)]
  exact if_neg (by decide)
 | some s =>
  obtain ⟨s0, s1, s2⟩ := stV_is ho
  have s3 : (rd_T51 samples s).f3 = true := s2
  refine Ev.step (fun k => ?_) hj4
  rw [dioramalaw03_ModelClosed.j3, if_neg (by decide)]
  show (if (0 : Int) = 0 then _ else _) = _
  rw [if_pos rfl, if_pos hlen, hd]
  show (if s > d then _ else _) = _
  rw [if_neg (by omega)]
  show (if 0 ≤ s then _ else _) = _
  rw [if_pos s0]
  show (if s < (samples.length : Int) then _ else _) = _
  rw [if_pos (by omega)]
  show dioramalaw03_ModelClosed.j4 k i _ (!(rd_T51 samples s).f3) id kind codec scale setup lang name pr edits refs samples = _
  rw [s3]
  rfl
theorem j2_f (R : Bool) {i : Int} (h0 : 0 ≤ i) (h1 : i < (samples.length : Int)) (hk : Ev (fun k => dioramalaw03_ModelClosed.l0 k (wrap64 (i + 1)) id kind codec scale setup lang name pr edits refs samples) R) : Ev (fun k => dioramalaw03_ModelClosed.j2 k i (ndsL (dps samples) samples.length i) false id kind codec scale setup lang name pr edits refs samples) R := by
 have hj3 := j3_f id kind codec scale setup lang name pr edits refs samples hc hok R h0 h1 hk
 have hS := Start_f id kind codec scale setup lang name pr edits refs samples hok i
 by_cases hs : syn samples i = true
 ·have hs2 : (rd_T51 samples i).f3 = true := hs
  have hal := nds_alone (dn_of (chk_smp hc).2) h0 h1 ((at_ok (chk_smp hc).2 h0 h1).2.2 hs)
  have hst : stS id kind codec scale setup lang name pr edits refs samples i = (i, 0) := by
   unfold stS
   rw [if_pos (rdy0 id kind codec scale setup lang name pr edits refs samples hc h0 h1), hal]
   show beg (stV (syn samples) (i.toNat + 1)) = (i, 0)
   rw [stV, show ((i.toNat : Nat) : Int) = i by omega, if_pos hs]
   rfl
  refine Ev.step (f := fun k => (model_Start.f k id kind codec scale setup lang name pr edits refs samples i).bind fun bt207 => (if 0 ≤ i then (if i < (samples.length : Int) then (if (rd_T51 samples i).f3 = true then (if bt207.2 = 0 then (dioramalaw03_ModelClosed.j3 k i (ndsL (dps samples) samples.length i) bt207.1 bt207.2 (bt207.1 != i) id kind codec scale setup lang name pr edits refs samples) else (dioramalaw03_ModelClosed.j3 k i (ndsL (dps samples) samples.length i) bt207.1 bt207.2 true id kind codec scale setup lang name pr edits refs samples)) else (dioramalaw03_ModelClosed.j3 k i (ndsL (dps samples) samples.length i) bt207.1 bt207.2 false id kind codec scale setup lang name pr edits refs samples)) else none) else none)) (fun k => ?_) (Ev.bind hS ?_)
  ·rw [dioramalaw03_ModelClosed.j2, if_neg (by decide)]
  ·refine Ev.congr (fun k => ?_) hj3
   rw [if_pos h0, if_pos h1, if_pos hs2, hst]
   show (if (0 : Int) = 0 then _ else _) = _
   rw [if_pos rfl, show (((i, 0) : Int × Int).1 != i) = false from bne_self_eq_false i]
 ·have hs2 : ¬ (rd_T51 samples i).f3 = true := hs
  refine Ev.step (f := fun k => (model_Start.f k id kind codec scale setup lang name pr edits refs samples i).bind fun bt207 => (if 0 ≤ i then (if i < (samples.length : Int) then (if (rd_T51 samples i).f3 = true then (if bt207.2 = 0 then (dioramalaw03_ModelClosed.j3 k i (ndsL (dps samples) samples.length i) bt207.1 bt207.2 (bt207.1 != i) id kind codec scale setup lang name pr edits refs samples) else (dioramalaw03_ModelClosed.j3 k i (ndsL (dps samples) samples.length i) bt207.1 bt207.2 true id kind codec scale setup lang name pr edits refs samples)) else (dioramalaw03_ModelClosed.j3 k i (ndsL (dps samples) samples.length i) bt207.1 bt207.2 false id kind codec scale setup lang name pr edits refs samples)) else none) else none)) (fun k => ?_) (Ev.bind hS ?_)
  ·rw [dioramalaw03_ModelClosed.j2, if_neg (by decide)]
  ·refine Ev.congr (fun k => ?_) hj3
   rw [if_pos h0, if_pos h1, if_neg hs2]
theorem l0_f : ∀ (r n : Nat), n + r = samples.length → Ev (fun k => dioramalaw03_ModelClosed.l0 k (n : Int) id kind codec scale setup lang name pr edits refs samples) true
 | 0, n, h => by
  refine Ev.step (f := fun _ => some true) (fun k => ?_) (Ev.now _)
  rw [dioramalaw03_ModelClosed.l0, if_neg (by omega)]
  rfl
 | r + 1, n, h => by
  have hn : (n : Int) < (samples.length : Int) := by omega
  have hsm := (chk_smp hc).1
  have hw : wrap64 ((n : Int) + 1) = ((n + 1 : Nat) : Int) := by
   rw [w64 (by omega) (by omega)]
   omega
  have ih := l0_f r (n + 1) (by omega)
  rw [← hw] at ih
  have hj2 := j2_f id kind codec scale setup lang name pr edits refs samples hc hok true (by omega) hn ih
  obtain ⟨v, hv, hE⟩ := has_f (l := ndsL (dps samples) samples.length (n : Int)) (x := (n : Int)) (by have := len0 id kind codec scale setup lang name pr edits refs samples hc (n : Int); omega) (nds_self (by omega) hn)
  refine Ev.step (f := fun k => (dioramaref00_HasInt.f k (ndsL (dps samples) samples.length (n : Int)) (n : Int)).bind fun t206 => (dioramalaw03_ModelClosed.j2 k (n : Int) (ndsL (dps samples) samples.length (n : Int)) (decide (t206 < 0)) id kind codec scale setup lang name pr edits refs samples)) (fun k => ?_) (Ev.bind hE ?_)
  ·rw [dioramalaw03_ModelClosed.l0, if_pos (by omega), nd0 id kind codec scale setup lang name pr edits refs samples hc hok (by omega) hn, Option.bind_some]
   exact if_pos rfl
  ·rw [decide_eq_false (show ¬ v < 0 by omega)]
   exact hj2
end
theorem pure_Hc (id kind : Int) (codec : ByteArray) (scale : Int) (setup : List Int) (lang name : ByteArray) (pr : Int) (edits : List Ed') (refs : List Rf) (samples : List Sm) (hok : okB codec lang name refs = true) : Ev (fun k => dioramalaw03_ModelClosed.f k id kind codec scale setup lang name pr edits refs samples) true := by
 have aw : Ev (fun k => dioramalaw03_ModelClosed.j0 k true id kind codec scale setup lang name pr edits refs samples) true := Ev.step (f := fun _ => some true) (fun k => by rw [dioramalaw03_ModelClosed.j0, if_pos rfl]; rfl) (Ev.now _)
 unfold dioramalaw03_ModelClosed.f model_Order.f
 simp only [Option.bind_some]
 split
 ·refine Ev.bind (rchk_f id kind codec scale setup lang name pr edits refs samples hok) ?_
  by_cases hc : chkT id kind codec scale setup lang name pr edits refs samples = 0
  ·rw [hc]
   exact Ev.step (fun k => by rw [dioramalaw03_ModelClosed.j0]; exact if_neg (by decide)) (l0_f id kind codec scale setup lang name pr edits refs samples hc hok samples.length 0 (by omega))
  ·rw [show (chkT id kind codec scale setup lang name pr edits refs samples != 0) = true by simpa using hc]
   exact aw
 ·exact aw
theorem walk_Hc (id kind : Int) (codec : ByteArray) (scale : Int) (A4 : Option Addr) (c4 : Nat) (setup : List Int) (lang name : ByteArray) (pr : Int) (A8 : Option Addr) (c8 : Nat) (edits : List Ed') (A9 : Option Addr) (c9 : Nat) (refs : List Rf) (A10 : Option Addr) (c10 : Nat) (samples : List Sm) (w : World) (h : Tr w codec A4 c4 setup lang name A8 c8 edits A9 c9 refs A10 c10 samples) :
  Calls Try.prog 5 #[.agg #[.int .i64 id, .int .i64 kind, .string codec, .int .i64 scale, .slice A4 setup.length c4, .string lang, .string name, .int .i64 pr, .slice A8 edits.length c8, .slice A9 refs.length c9, .slice A10 samples.length c10]] w (fun e w' => e = .returned (.bool true) ∧ Below w.heap.size w w') := by
 obtain ⟨k, hk⟩ := (pure_Hc id kind codec scale setup lang name pr edits refs samples h.ok).rounds
 exact dioramalaw03_ModelClosed.calls k id kind codec scale A4 c4 setup lang name pr A8 c8 edits A9 c9 refs A10 c10 samples true w h.h.s h.c4 h.h.e h.c8 h.h.r h.c9 h.h.p h.c10 hk
end Go.Proofs.Ytknklchmpohjfaa.Hc

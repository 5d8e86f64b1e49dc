/-
  The first error of a track, as a plain value: what the code and the reference tell. Words for whole numbers of any size in memory: where one lies, what it is worth, what a call that sets one leaves as it was. model.CheckTrack, walked: the first error of a track.
-/
import Derived.Test.YtknklchmpohjfaaQRModelCloseda
import Derived.Test.YtknklchmpohjfaaQRModelClosedb
import Derived.Lib.Hide
import Derived.Lib.MinMax
namespace Go.Proofs.Ytknklchmpohjfaa.E
open Go.Proofs.Ytknklchmpohjfaa.Z Go.RowKit Go.Proofs.YtknklchmpohjfaaW.PrintWords Go.Proofs.YtknklchmpohjfaaW.PrintLast Go.Proofs.YtknklchmpohjfaaW.PrintMore
attribute [local go_sem] max2_int min2_int max_two min_two max_three min_three max_four min_four
set_option linter.unusedVariables false
set_option linter.unusedSimpArgs false
mutual
def model_checkSample.j3 : Nat → Int → Int → Int → Int → Bool → List Int → List Int → Option (Int)
  | 0, _, _, _, _, _, _, _ => none
  | k + 1, x1, x222000, x222001, x222002, x222003, x222004, x222005 => model_checkSample.l0 k x1 (-1) x222004 (x222004.length : Int) 0
def model_checkSample.l0 : Nat → Int → Int → List Int → Int → Int → Option (Int)
  | 0, _, _, _, _, _ => none
  | k + 1, x1, x7, x63, x64, x65 => if x65 < x64 then (if 0 ≤ x65 then (if x65 < (x63.length : Int) then (if (rd x63 x65) ≤ x7 then (some 32) else (if (rd x63 x65) ≥ x1 then (some 32) else (model_checkSample.l0 k x1 (rd x63 x65) x63 x64 (wrap64 (x65 + 1))))) else (none)) else (none)) else (some 0)
def model_checkSample.j0 : Nat → Int → Bool → Int → Int → ByteArray → Int → List Int → ByteArray → ByteArray → Int → List (S86) → List (S68) → List (S51) → Int → Int → Int → Bool → List Int → List Int → Option (Int)
  | 0, _, _, _, _, _, _, _, _, _, _, _, _, _, _, _, _, _, _, _ => none
  | k + 1, x1, x10, x221000, x221001, x221002, x221003, x221004, x221005, x221006, x221007, x221008, x221009, x221010, x222000, x222001, x222002, x222003, x222004, x222005 => if x10 = true then (some 1) else (if (x222005.length : Int) > 65536 then (model_checkSample.j1 k x1 true x221000 x221001 x221002 x221003 x221004 x221005 x221006 x221007 x221008 x221009 x221010 x222000 x222001 x222002 x222003 x222004 x222005) else (model_checkSample.j1 k x1 (decide ((x222004.length : Int) > 4)) x221000 x221001 x221002 x221003 x221004 x221005 x221006 x221007 x221008 x221009 x221010 x222000 x222001 x222002 x222003 x222004 x222005))
def model_checkSample.j1 : Nat → Int → Bool → Int → Int → ByteArray → Int → List Int → ByteArray → ByteArray → Int → List (S86) → List (S68) → List (S51) → Int → Int → Int → Bool → List Int → List Int → Option (Int)
  | 0, _, _, _, _, _, _, _, _, _, _, _, _, _, _, _, _, _, _, _ => none
  | k + 1, x1, x27, x221000, x221001, x221002, x221003, x221004, x221005, x221006, x221007, x221008, x221009, x221010, x222000, x222001, x222002, x222003, x222004, x222005 => if x27 = true then (some 2) else (if x1 > 0 then (if 0 ≤ (wrap64 (x1 - 1)) then (if (wrap64 (x1 - 1)) < (x221010.length : Int) then (model_checkSample.j2 k x1 (decide (x222000 ≤ ((rd_T51 x221010 (wrap64 (x1 - 1))).f0))) x222000 x222001 x222002 x222003 x222004 x222005) else (none)) else (none)) else (model_checkSample.j2 k x1 false x222000 x222001 x222002 x222003 x222004 x222005))
def model_checkSample.j2 : Nat → Int → Bool → Int → Int → Int → Bool → List Int → List Int → Option (Int)
  | 0, _, _, _, _, _, _, _, _ => none
  | k + 1, x1, x38, x222000, x222001, x222002, x222003, x222004, x222005 => if x38 = true then (some 31) else (if x222003 = true then (if (x222004.length : Int) > 0 then (some 32) else (model_checkSample.j3 k x1 x222000 x222001 x222002 x222003 x222004 x222005)) else (model_checkSample.j3 k x1 x222000 x222001 x222002 x222003 x222004 x222005))
end
def model_checkSample.f (k : Nat) (a0_0 : Int) (a0_1 : Int) (a0_2 : ByteArray) (a0_3 : Int) (l0_4 : List Int) (a0_5 : ByteArray) (a0_6 : ByteArray) (a0_7 : Int) (l0_8 : List (S86)) (l0_9 : List (S68)) (l0_10 : List (S51)) (a1 : Int) (a2_0 : Int) (a2_1 : Int) (a2_2 : Int) (a2_3 : Bool) (l2_4 : List Int) (l2_5 : List Int) : Option (Int) := (model_tick.f a2_0).bind fun t222 => (if t222 = true then ((model_tick.f a2_1).bind fun t223 => (if t223 = true then ((model_within.f a2_2 0 1099511627776).bind fun t224 => (model_checkSample.j0 k a1 (!t224) a0_0 a0_1 a0_2 a0_3 l0_4 a0_5 a0_6 a0_7 l0_8 l0_9 l0_10 a2_0 a2_1 a2_2 a2_3 l2_4 l2_5)) else (model_checkSample.j0 k a1 true a0_0 a0_1 a0_2 a0_3 l0_4 a0_5 a0_6 a0_7 l0_8 l0_9 l0_10 a2_0 a2_1 a2_2 a2_3 l2_4 l2_5))) else (model_checkSample.j0 k a1 true a0_0 a0_1 a0_2 a0_3 l0_4 a0_5 a0_6 a0_7 l0_8 l0_9 l0_10 a2_0 a2_1 a2_2 a2_3 l2_4 l2_5))
set_option maxHeartbeats 8000000 in
set_option maxRecDepth 100000 in
theorem model_checkSample.calls (k : Nat) (a0_0 : Int) (a0_1 : Int) (a0_2 : ByteArray) (a0_3 : Int) (A0_4 : Option Addr) (c0_4 : Nat) (l0_4 : List Int) (a0_5 : ByteArray) (a0_6 : ByteArray) (a0_7 : Int) (A0_8 : Option Addr) (c0_8 : Nat) (l0_8 : List (S86)) (A0_9 : Option Addr) (c0_9 : Nat) (l0_9 : List (S68)) (A0_10 : Option Addr) (c0_10 : Nat) (l0_10 : List (S51)) (a1 : Int) (a2_0 : Int) (a2_1 : Int) (a2_2 : Int) (a2_3 : Bool) (A2_4 : Option Addr) (c2_4 : Nat) (l2_4 : List Int) (A2_5 : Option Addr) (c2_5 : Nat) (l2_5 : List Int) (r : Int) (w : World) (hr0_4 : Kd.C (Kd.int .u8) w A0_4 l0_4.length l0_4) (hc0_4 : l0_4.length ≤ c0_4) (hr0_8 : Kd.C k86 w A0_8 l0_8.length l0_8) (hc0_8 : l0_8.length ≤ c0_8) (hr0_9 : Kd.C k68 w A0_9 l0_9.length l0_9) (hc0_9 : l0_9.length ≤ c0_9) (hr0_10 : Kd.C k51 w A0_10 l0_10.length l0_10) (hc0_10 : l0_10.length ≤ c0_10) (hr2_4 : Kd.C (Kd.int .i64) w A2_4 l2_4.length l2_4) (hc2_4 : l2_4.length ≤ c2_4) (hr2_5 : Kd.C (Kd.int .u8) w A2_5 l2_5.length l2_5) (hc2_5 : l2_5.length ≤ c2_5) (h : model_checkSample.f k a0_0 a0_1 a0_2 a0_3 l0_4 a0_5 a0_6 a0_7 l0_8 l0_9 l0_10 a1 a2_0 a2_1 a2_2 a2_3 l2_4 l2_5 = some r) :
  Calls Try.prog 51 #[.agg #[.int .i64 a0_0, .int .i64 a0_1, .string a0_2, .int .i64 a0_3, .slice A0_4 l0_4.length c0_4, .string a0_5, .string a0_6, .int .i64 a0_7, .slice A0_8 l0_8.length c0_8, .slice A0_9 l0_9.length c0_9, .slice A0_10 l0_10.length c0_10], .int .i64 a1, .agg #[.int .i64 a2_0, .int .i64 a2_1, .int .i64 a2_2, .bool a2_3, .slice A2_4 l2_4.length c2_4, .slice A2_5 l2_5.length c2_5]] w fun e w' => e = .returned (.int .i64 r) ∧ Below w.heap.size w w' := by
 have hu40 := Try.underlying40; have hu51 := Try.underlying51; have HR0_4 := Aside0.mk hr0_4; have HC0_4 := Aside0.mk hc0_4; clear hr0_4 hc0_4; have HR0_8 := Aside0.mk hr0_8; have HC0_8 := Aside0.mk hc0_8; clear hr0_8 hc0_8; have HR0_9 := Aside0.mk hr0_9; have HC0_9 := Aside0.mk hc0_9; clear hr0_9 hc0_9; have HR0_10 := Aside0.mk hr0_10; have HC0_10 := Aside0.mk hc0_10; clear hr0_10 hc0_10; have HR2_4 := Aside0.mk hr2_4; have HC2_4 := Aside0.mk hc2_4; clear hr2_4 hc2_4; have HR2_5 := Aside0.mk hr2_5; have HC2_5 := Aside0.mk hc2_5; clear hr2_5 hc2_5; have HB := Aside0.mk (Below.refl w.heap.size w); have H : ((model_tick.f a2_0).bind fun t222 => (if t222 = true then ((model_tick.f a2_1).bind fun t223 => (if t223 = true then ((model_within.f a2_2 0 1099511627776).bind fun t224 => (model_checkSample.j0 k a1 (!t224) a0_0 a0_1 a0_2 a0_3 l0_4 a0_5 a0_6 a0_7 l0_8 l0_9 l0_10 a2_0 a2_1 a2_2 a2_3 l2_4 l2_5)) else (model_checkSample.j0 k a1 true a0_0 a0_1 a0_2 a0_3 l0_4 a0_5 a0_6 a0_7 l0_8 l0_9 l0_10 a2_0 a2_1 a2_2 a2_3 l2_4 l2_5))) else (model_checkSample.j0 k a1 true a0_0 a0_1 a0_2 a0_3 l0_4 a0_5 a0_6 a0_7 l0_8 l0_9 l0_10 a2_0 a2_1 a2_2 a2_3 l2_4 l2_5))) = some r := h
 clear h; have HC4 := Aside0.mk H; clear H
 go_enter Try.func51, Try.ntmps51
 go_upto_block 0 with (first | ((with_reducible refine gate_dst (N := 3) rfl ?_); refine zB 3 40 #[.int .i64 a0_0, .int .i64 a0_1, .string a0_2, .int .i64 a0_3, .slice A0_4 l0_4.length c0_4, .string a0_5, .string a0_6, .int .i64 a0_7, .slice A0_8 l0_8.length c0_8, .slice A0_9 l0_9.length c0_9, .slice A0_10 l0_10.length c0_10] ?_; intro gb220 hg w5 hbox hb; have BK220 := Aside0.mk hbox; have GW220 := gz hg; have GE220 := gz hg; replace HB := bp hb; clear hb hbox hg) | ((with_reducible refine gate_dst (N := 5) rfl ?_); refine zB 5 51 #[.int .i64 a2_0, .int .i64 a2_1, .int .i64 a2_2, .bool a2_3, .slice A2_4 l2_4.length c2_4, .slice A2_5 l2_5.length c2_5] ?_; intro gb221 hg w6 hbox hb; have BK221 := Aside0.mk hbox; have GW221 := gz hg; have GE221 := gz hg; replace HB := bp hb; have NB220_221 := Aside0.mk ((by rw [hg]; exact Nat.ne_of_lt (bl BK220) : gb220 ≠ gb221)); have NB221_220 := Aside0.mk ((by rw [hg]; exact Nat.ne_of_gt (bl BK220) : gb221 ≠ gb220)); replace BK220 := kb BK220 hb; clear hb hbox hg))
 repeat (go_quiet (first | ((with_reducible refine gate_dst (N := 3) rfl ?_); refine zB 3 40 #[.int .i64 a0_0, .int .i64 a0_1, .string a0_2, .int .i64 a0_3, .slice A0_4 l0_4.length c0_4, .string a0_5, .string a0_6, .int .i64 a0_7, .slice A0_8 l0_8.length c0_8, .slice A0_9 l0_9.length c0_9, .slice A0_10 l0_10.length c0_10] ?_; intro gb220 hg w5 hbox hb; have BK220 := Aside0.mk hbox; have GW220 := gz hg; have GE220 := gz hg; replace HB := bp hb; clear hb hbox hg) | ((with_reducible refine gate_dst (N := 5) rfl ?_); refine zB 5 51 #[.int .i64 a2_0, .int .i64 a2_1, .int .i64 a2_2, .bool a2_3, .slice A2_4 l2_4.length c2_4, .slice A2_5 l2_5.length c2_5] ?_; intro gb221 hg w6 hbox hb; have n0_ := kb BK220 hb; have n1_ := bp hb; have n2_ := Aside0.mk hbox; have n3_ := gz hg; have n4_ := gz hg; have n5_ := Aside0.mk ((by rw [hg]; exact Nat.ne_of_lt (bl BK220) : gb220 ≠ gb221)); have n6_ := Aside0.mk ((by rw [hg]; exact Nat.ne_of_gt (bl BK220) : gb221 ≠ gb220)); clear BK220; clear HB; have BK220 := n0_; have HB := n1_; have BK221 := n2_; have GW221 := n3_; have GE221 := n4_; have NB220_221 := n5_; have NB221_220 := n6_; clear n0_ n1_ n2_ n3_ n4_ n5_ n6_; clear hb hbox hg)); go_upto_block 0 with (first | ((with_reducible refine gate_dst (N := 3) rfl ?_); refine zB 3 40 #[.int .i64 a0_0, .int .i64 a0_1, .string a0_2, .int .i64 a0_3, .slice A0_4 l0_4.length c0_4, .string a0_5, .string a0_6, .int .i64 a0_7, .slice A0_8 l0_8.length c0_8, .slice A0_9 l0_9.length c0_9, .slice A0_10 l0_10.length c0_10] ?_; intro gb220 hg w5 hbox hb; have BK220 := Aside0.mk hbox; have GW220 := gz hg; have GE220 := gz hg; replace HB := bp hb; clear hb hbox hg) | ((with_reducible refine gate_dst (N := 5) rfl ?_); refine zB 5 51 #[.int .i64 a2_0, .int .i64 a2_1, .int .i64 a2_2, .bool a2_3, .slice A2_4 l2_4.length c2_4, .slice A2_5 l2_5.length c2_5] ?_; intro gb221 hg w6 hbox hb; have BK221 := Aside0.mk hbox; have GW221 := gz hg; have GE221 := gz hg; replace HB := bp hb; have NB220_221 := Aside0.mk ((by rw [hg]; exact Nat.ne_of_lt (bl BK220) : gb220 ≠ gb221)); have NB221_220 := Aside0.mk ((by rw [hg]; exact Nat.ne_of_gt (bl BK220) : gb221 ≠ gb220)); replace BK220 := kb BK220 hb; clear hb hbox hg)))
 (try simp only [Act.put, List.setIfInBounds_toArray, List.set_cons_zero, List.set_cons_succ])
 go_cut [] (fun wc => ∃ (kq : Nat), Aside0 (model_checkSample.j3 kq a1 a2_0 a2_1 a2_2 a2_3 l2_4 l2_5 = some r) ∧ Aside0 (kq ≤ k) ∧ Aside0 (wc.heap[gb220]? = some (.cells #[.int .i64 a0_0, .int .i64 a0_1, .string a0_2, .int .i64 a0_3, (.slice A0_4 l0_4.length c0_4), .string a0_5, .string a0_6, .int .i64 a0_7, (.slice A0_8 l0_8.length c0_8), (.slice A0_9 l0_9.length c0_9), (.slice A0_10 l0_10.length c0_10)] 40 (0, 0))) ∧ Aside0 (wc.heap[gb221]? = some (.cells #[.int .i64 a2_0, .int .i64 a2_1, .int .i64 a2_2, .bool a2_3, (.slice A2_4 l2_4.length c2_4), (.slice A2_5 l2_5.length c2_5)] 51 (0, 0))) ∧ Aside0 (Below w.heap.size w wc))
 case first =>
  have H := HC4.out; clear HC4; have HC7 := Aside0.mk H; clear H
  go_upto_region 1 with (fail)
  repeat (go_quiet (fail); go_upto_region 1 with (fail))
  go_cut [10] (fun v10 wc => ∃ (kq : Nat) (x10_6 : Bool), v10 = .bool x10_6 ∧ Aside0 (model_checkSample.j0 kq a1 x10_6 a0_0 a0_1 a0_2 a0_3 l0_4 a0_5 a0_6 a0_7 l0_8 l0_9 l0_10 a2_0 a2_1 a2_2 a2_3 l2_4 l2_5 = some r) ∧ Aside0 (kq ≤ k) ∧ Aside0 (wc.heap[gb220]? = some (.cells #[.int .i64 a0_0, .int .i64 a0_1, .string a0_2, .int .i64 a0_3, (.slice A0_4 l0_4.length c0_4), .string a0_5, .string a0_6, .int .i64 a0_7, (.slice A0_8 l0_8.length c0_8), (.slice A0_9 l0_9.length c0_9), (.slice A0_10 l0_10.length c0_10)] 40 (0, 0))) ∧ Aside0 (wc.heap[gb221]? = some (.cells #[.int .i64 a2_0, .int .i64 a2_1, .int .i64 a2_2, .bool a2_3, (.slice A2_4 l2_4.length c2_4), (.slice A2_5 l2_5.length c2_5)] 51 (0, 0))) ∧ Aside0 (Below w.heap.size w wc))
  case first =>
   have H := HC7.out; clear HC7; obtain ⟨t222, A8, H⟩ := ob H
   by_cases c9 : t222 = true
   ·subst c9; rw [if_pos rfl] at H; obtain ⟨t223, A10, H⟩ := ob H
    by_cases c11 : t223 = true
    ·subst c11; rw [if_pos rfl] at H; obtain ⟨t224, A12, H⟩ := ob H; have H' := Aside0.mk H; clear H; have hnb13 := NB221_220.out; have hnc13 := NB220_221.out; have hcz14_0 : w6.cell? ⟨gb221, 0, none⟩ = some (.int .i64 a2_0) := ct BK221 0; have hcz14_1 : w6.cell? ⟨gb221, 1, none⟩ = some (.int .i64 a2_1) := ct BK221 1; have hcz14_2 : w6.cell? ⟨gb221, 2, none⟩ = some (.int .i64 a2_2) := ct BK221 2; have hcz14_3 : w6.cell? ⟨gb221, 3, none⟩ = some (.bool a2_3) := ct BK221 3; have hcz14_4 : w6.cell? ⟨gb221, 4, none⟩ = some (.slice A2_4 l2_4.length c2_4) := ct BK221 4; have hcz14_5 : w6.cell? ⟨gb221, 5, none⟩ = some (.slice A2_5 l2_5.length c2_5) := ct BK221 5; have hfz14_0 := blk_frozen BK221.out 0; have hfz14_1 := blk_frozen BK221.out 1; have hfz14_2 := blk_frozen BK221.out 2; have hfz14_3 := blk_frozen BK221.out 3; have hfz14_4 := blk_frozen BK221.out 4; have hfz14_5 := blk_frozen BK221.out 5
     go_wp2_with (first | (go_at_call 65; (with_reducible refine (model_tick.calls a2_0 true _ A8.out).mono ?_); rintro e w' ⟨rfl, ⟨nd, rfl⟩⟩; (try first | exact ⟨rfl, _, World.drewN_drewN _ _ _⟩ | exact ⟨rfl, _, Eq.trans (World.drewN_drewN _ _ _) (congrArg (World.drewN _) (Nat.add_assoc _ _ _))⟩)) | (go_at_call 65; (with_reducible refine (model_tick.calls a2_1 true _ A10.out).mono ?_); rintro e w' ⟨rfl, ⟨nd, rfl⟩⟩; (try first | exact ⟨rfl, _, World.drewN_drewN _ _ _⟩ | exact ⟨rfl, _, Eq.trans (World.drewN_drewN _ _ _) (congrArg (World.drewN _) (Nat.add_assoc _ _ _))⟩)) | (go_at_call 30; (with_reducible refine (model_within.calls a2_2 0 1099511627776 t224 _ A12.out).mono ?_); rintro e w' ⟨rfl, ⟨nd, rfl⟩⟩; (try first | exact ⟨rfl, _, World.drewN_drewN _ _ _⟩ | exact ⟨rfl, _, Eq.trans (World.drewN_drewN _ _ _) (congrArg (World.drewN _) (Nat.add_assoc _ _ _))⟩)))
     repeat (go_quiet (first | (go_at_call 65; (with_reducible refine (model_tick.calls a2_0 true _ A8.out).mono ?_); rintro e w' ⟨rfl, ⟨nd, rfl⟩⟩; (try first | exact ⟨rfl, _, World.drewN_drewN _ _ _⟩ | exact ⟨rfl, _, Eq.trans (World.drewN_drewN _ _ _) (congrArg (World.drewN _) (Nat.add_assoc _ _ _))⟩)) | (go_at_call 65; (with_reducible refine (model_tick.calls a2_1 true _ A10.out).mono ?_); rintro e w' ⟨rfl, ⟨nd, rfl⟩⟩; (try first | exact ⟨rfl, _, World.drewN_drewN _ _ _⟩ | exact ⟨rfl, _, Eq.trans (World.drewN_drewN _ _ _) (congrArg (World.drewN _) (Nat.add_assoc _ _ _))⟩)) | (go_at_call 30; (with_reducible refine (model_within.calls a2_2 0 1099511627776 t224 _ A12.out).mono ?_); rintro e w' ⟨rfl, ⟨nd, rfl⟩⟩; (try first | exact ⟨rfl, _, World.drewN_drewN _ _ _⟩ | exact ⟨rfl, _, Eq.trans (World.drewN_drewN _ _ _) (congrArg (World.drewN _) (Nat.add_assoc _ _ _))⟩))); try go_wp2_with (first | (go_at_call 65; (with_reducible refine (model_tick.calls a2_0 true _ A8.out).mono ?_); rintro e w' ⟨rfl, ⟨nd, rfl⟩⟩; (try first | exact ⟨rfl, _, World.drewN_drewN _ _ _⟩ | exact ⟨rfl, _, Eq.trans (World.drewN_drewN _ _ _) (congrArg (World.drewN _) (Nat.add_assoc _ _ _))⟩)) | (go_at_call 65; (with_reducible refine (model_tick.calls a2_1 true _ A10.out).mono ?_); rintro e w' ⟨rfl, ⟨nd, rfl⟩⟩; (try first | exact ⟨rfl, _, World.drewN_drewN _ _ _⟩ | exact ⟨rfl, _, Eq.trans (World.drewN_drewN _ _ _) (congrArg (World.drewN _) (Nat.add_assoc _ _ _))⟩)) | (go_at_call 30; (with_reducible refine (model_within.calls a2_2 0 1099511627776 t224 _ A12.out).mono ?_); rintro e w' ⟨rfl, ⟨nd, rfl⟩⟩; (try first | exact ⟨rfl, _, World.drewN_drewN _ _ _⟩ | exact ⟨rfl, _, Eq.trans (World.drewN_drewN _ _ _) (congrArg (World.drewN _) (Nat.add_assoc _ _ _))⟩))))
     go_meet
     case rel => exact ⟨_, (!t224), jz, H', ⟨by first | omega | exact Nat.le_refl _⟩, ⟨kz⟩, ⟨kz⟩, ⟨bz⟩⟩
    ·obtain rfl := bf c11; rw [if_neg (show ¬ (false = true) by decide)] at H; have H' := Aside0.mk H; clear H; have hnb15 := NB221_220.out; have hnc15 := NB220_221.out; have hcz16_0 : w6.cell? ⟨gb221, 0, none⟩ = some (.int .i64 a2_0) := ct BK221 0; have hcz16_1 : w6.cell? ⟨gb221, 1, none⟩ = some (.int .i64 a2_1) := ct BK221 1; have hcz16_2 : w6.cell? ⟨gb221, 2, none⟩ = some (.int .i64 a2_2) := ct BK221 2; have hcz16_3 : w6.cell? ⟨gb221, 3, none⟩ = some (.bool a2_3) := ct BK221 3; have hcz16_4 : w6.cell? ⟨gb221, 4, none⟩ = some (.slice A2_4 l2_4.length c2_4) := ct BK221 4; have hcz16_5 : w6.cell? ⟨gb221, 5, none⟩ = some (.slice A2_5 l2_5.length c2_5) := ct BK221 5; have hfz16_0 := blk_frozen BK221.out 0; have hfz16_1 := blk_frozen BK221.out 1; have hfz16_2 := blk_frozen BK221.out 2; have hfz16_3 := blk_frozen BK221.out 3; have hfz16_4 := blk_frozen BK221.out 4; have hfz16_5 := blk_frozen BK221.out 5
     go_wp2_with (first | (go_at_call 65; (with_reducible refine (model_tick.calls a2_0 true _ A8.out).mono ?_); rintro e w' ⟨rfl, ⟨nd, rfl⟩⟩; (try first | exact ⟨rfl, _, World.drewN_drewN _ _ _⟩ | exact ⟨rfl, _, Eq.trans (World.drewN_drewN _ _ _) (congrArg (World.drewN _) (Nat.add_assoc _ _ _))⟩)) | (go_at_call 65; (with_reducible refine (model_tick.calls a2_1 false _ A10.out).mono ?_); rintro e w' ⟨rfl, ⟨nd, rfl⟩⟩; (try first | exact ⟨rfl, _, World.drewN_drewN _ _ _⟩ | exact ⟨rfl, _, Eq.trans (World.drewN_drewN _ _ _) (congrArg (World.drewN _) (Nat.add_assoc _ _ _))⟩)))
     repeat (go_quiet (first | (go_at_call 65; (with_reducible refine (model_tick.calls a2_0 true _ A8.out).mono ?_); rintro e w' ⟨rfl, ⟨nd, rfl⟩⟩; (try first | exact ⟨rfl, _, World.drewN_drewN _ _ _⟩ | exact ⟨rfl, _, Eq.trans (World.drewN_drewN _ _ _) (congrArg (World.drewN _) (Nat.add_assoc _ _ _))⟩)) | (go_at_call 65; (with_reducible refine (model_tick.calls a2_1 false _ A10.out).mono ?_); rintro e w' ⟨rfl, ⟨nd, rfl⟩⟩; (try first | exact ⟨rfl, _, World.drewN_drewN _ _ _⟩ | exact ⟨rfl, _, Eq.trans (World.drewN_drewN _ _ _) (congrArg (World.drewN _) (Nat.add_assoc _ _ _))⟩))); try go_wp2_with (first | (go_at_call 65; (with_reducible refine (model_tick.calls a2_0 true _ A8.out).mono ?_); rintro e w' ⟨rfl, ⟨nd, rfl⟩⟩; (try first | exact ⟨rfl, _, World.drewN_drewN _ _ _⟩ | exact ⟨rfl, _, Eq.trans (World.drewN_drewN _ _ _) (congrArg (World.drewN _) (Nat.add_assoc _ _ _))⟩)) | (go_at_call 65; (with_reducible refine (model_tick.calls a2_1 false _ A10.out).mono ?_); rintro e w' ⟨rfl, ⟨nd, rfl⟩⟩; (try first | exact ⟨rfl, _, World.drewN_drewN _ _ _⟩ | exact ⟨rfl, _, Eq.trans (World.drewN_drewN _ _ _) (congrArg (World.drewN _) (Nat.add_assoc _ _ _))⟩))))
     go_meet
     case rel => exact ⟨_, (true), jz, H', ⟨by first | omega | exact Nat.le_refl _⟩, ⟨kz⟩, ⟨kz⟩, ⟨bz⟩⟩
   ·obtain rfl := bf c9; rw [if_neg (show ¬ (false = true) by decide)] at H; have H' := Aside0.mk H; clear H; have hnb17 := NB221_220.out; have hnc17 := NB220_221.out; have hcz18_0 : w6.cell? ⟨gb221, 0, none⟩ = some (.int .i64 a2_0) := ct BK221 0; have hcz18_1 : w6.cell? ⟨gb221, 1, none⟩ = some (.int .i64 a2_1) := ct BK221 1; have hcz18_2 : w6.cell? ⟨gb221, 2, none⟩ = some (.int .i64 a2_2) := ct BK221 2; have hcz18_3 : w6.cell? ⟨gb221, 3, none⟩ = some (.bool a2_3) := ct BK221 3; have hcz18_4 : w6.cell? ⟨gb221, 4, none⟩ = some (.slice A2_4 l2_4.length c2_4) := ct BK221 4; have hcz18_5 : w6.cell? ⟨gb221, 5, none⟩ = some (.slice A2_5 l2_5.length c2_5) := ct BK221 5; have hfz18_0 := blk_frozen BK221.out 0; have hfz18_1 := blk_frozen BK221.out 1; have hfz18_2 := blk_frozen BK221.out 2; have hfz18_3 := blk_frozen BK221.out 3; have hfz18_4 := blk_frozen BK221.out 4; have hfz18_5 := blk_frozen BK221.out 5
    go_wp2_with (first | (go_at_call 65; (with_reducible refine (model_tick.calls a2_0 false _ A8.out).mono ?_); rintro e w' ⟨rfl, ⟨nd, rfl⟩⟩; (try first | exact ⟨rfl, _, World.drewN_drewN _ _ _⟩ | exact ⟨rfl, _, Eq.trans (World.drewN_drewN _ _ _) (congrArg (World.drewN _) (Nat.add_assoc _ _ _))⟩)))
    repeat (go_quiet (first | (go_at_call 65; (with_reducible refine (model_tick.calls a2_0 false _ A8.out).mono ?_); rintro e w' ⟨rfl, ⟨nd, rfl⟩⟩; (try first | exact ⟨rfl, _, World.drewN_drewN _ _ _⟩ | exact ⟨rfl, _, Eq.trans (World.drewN_drewN _ _ _) (congrArg (World.drewN _) (Nat.add_assoc _ _ _))⟩))); try go_wp2_with (first | (go_at_call 65; (with_reducible refine (model_tick.calls a2_0 false _ A8.out).mono ?_); rintro e w' ⟨rfl, ⟨nd, rfl⟩⟩; (try first | exact ⟨rfl, _, World.drewN_drewN _ _ _⟩ | exact ⟨rfl, _, Eq.trans (World.drewN_drewN _ _ _) (congrArg (World.drewN _) (Nat.add_assoc _ _ _))⟩))))
    go_meet
    case rel => exact ⟨_, (true), jz, H', ⟨by first | omega | exact Nat.le_refl _⟩, ⟨kz⟩, ⟨kz⟩, ⟨bz⟩⟩
  case rest =>
   clear HC7
   try clear c1
   try clear c2
   try clear p2
   try clear c5
   try clear c9
   try clear c11
   try clear c13
   try clear c15
   try clear c17
   try clear hcz14_0
   try clear hcz14_1
   try clear hcz14_2
   try clear hcz14_3
   try clear hcz14_4
   try clear hcz14_5
   try clear hcz16_0
   try clear hcz16_1
   try clear hcz16_2
   try clear hcz16_3
   try clear hcz16_4
   try clear hcz16_5
   try clear hcz18_0
   try clear hcz18_1
   try clear hcz18_2
   try clear hcz18_3
   try clear hcz18_4
   try clear hcz18_5
   try clear hfz14_0
   try clear hfz14_1
   try clear hfz14_2
   try clear hfz14_3
   try clear hfz14_4
   try clear hfz14_5
   try clear hfz16_0
   try clear hfz16_1
   try clear hfz16_2
   try clear hfz16_3
   try clear hfz16_4
   try clear hfz16_5
   try clear hfz18_0
   try clear hfz18_1
   try clear hfz18_2
   try clear hfz18_3
   try clear hfz18_4
   try clear hfz18_5
   obtain ⟨kq, x10_6, rfl, HA, HJ6, BK220, BK221, HB⟩ := hcut
   cases kq with
   | zero => exact absurd HA.out (by simp [model_checkSample.j0])
   | succ kj6 =>
    have H := HA.out; clear HA; simp only [model_checkSample.j0] at H
    by_cases c19 : x10_6 = true
    ·subst c19; rw [if_pos rfl] at H; obtain rfl := Option.some.inj H
     go_wp2
     repeat (go_quiet (fail); try go_wp2)
     go_ret
     exact ⟨ez, bz⟩
    ·obtain rfl := bf c19; rw [if_neg (show ¬ (false = true) by decide)] at H; have HC20 := Aside0.mk H; clear H
     go_upto_region 3 with (fail)
     repeat (go_quiet (fail); go_upto_region 3 with (fail))
     go_cut [27] (fun v27 wc => ∃ (kq : Nat) (x27_19 : Bool), v27 = .bool x27_19 ∧ Aside0 (model_checkSample.j1 kq a1 x27_19 a0_0 a0_1 a0_2 a0_3 l0_4 a0_5 a0_6 a0_7 l0_8 l0_9 l0_10 a2_0 a2_1 a2_2 a2_3 l2_4 l2_5 = some r) ∧ Aside0 (kq ≤ kj6) ∧ Aside0 (wc.heap[gb220]? = some (.cells #[.int .i64 a0_0, .int .i64 a0_1, .string a0_2, .int .i64 a0_3, (.slice A0_4 l0_4.length c0_4), .string a0_5, .string a0_6, .int .i64 a0_7, (.slice A0_8 l0_8.length c0_8), (.slice A0_9 l0_9.length c0_9), (.slice A0_10 l0_10.length c0_10)] 40 (0, 0))) ∧ Aside0 (wc.heap[gb221]? = some (.cells #[.int .i64 a2_0, .int .i64 a2_1, .int .i64 a2_2, .bool a2_3, (.slice A2_4 l2_4.length c2_4), (.slice A2_5 l2_5.length c2_5)] 51 (0, 0))) ∧ Aside0 (Below w.heap.size w wc))
     case first =>
      have H := HC20.out; clear HC20
      by_cases c21 : (l2_5.length : Int) > 65536
      ·rw [if_pos c21] at H; have c21b0 : decide (65536 < (l2_5.length : Int)) = true := decide_eq_true c21; have c21b1 : decide (65536 < l2_5.length) = true := decide_eq_true (by omega); clear c21
       (first | rw [c21b0] | (simp only [i64_w, i32_w]; rw [c21b0]) | skip)
       have H' := Aside0.mk H; clear H; have hnb22 := NB221_220.out; have hnc22 := NB220_221.out; have hcz23_0 : wc.cell? ⟨gb221, 0, none⟩ = some (.int .i64 a2_0) := ct BK221 0; have hcz23_1 : wc.cell? ⟨gb221, 1, none⟩ = some (.int .i64 a2_1) := ct BK221 1; have hcz23_2 : wc.cell? ⟨gb221, 2, none⟩ = some (.int .i64 a2_2) := ct BK221 2; have hcz23_3 : wc.cell? ⟨gb221, 3, none⟩ = some (.bool a2_3) := ct BK221 3; have hcz23_4 : wc.cell? ⟨gb221, 4, none⟩ = some (.slice A2_4 l2_4.length c2_4) := ct BK221 4; have hcz23_5 : wc.cell? ⟨gb221, 5, none⟩ = some (.slice A2_5 l2_5.length c2_5) := ct BK221 5; have hfz23_0 := blk_frozen BK221.out 0; have hfz23_1 := blk_frozen BK221.out 1; have hfz23_2 := blk_frozen BK221.out 2; have hfz23_3 := blk_frozen BK221.out 3; have hfz23_4 := blk_frozen BK221.out 4; have hfz23_5 := blk_frozen BK221.out 5
       go_wp2
       repeat (go_quiet (fail); try go_wp2)
       go_meet
       case rel => exact ⟨_, (true), jz, H', ⟨by have := HJ6.out; first | omega | exact Nat.le_refl _⟩, ⟨kz⟩, ⟨kz⟩, ⟨bz⟩⟩
      ·rw [if_neg c21] at H; have c21b0 : decide (65536 < (l2_5.length : Int)) = false := decide_eq_false c21; have c21b1 : decide (65536 < l2_5.length) = false := decide_eq_false (by omega); clear c21
       (first | rw [c21b0] | (simp only [i64_w, i32_w]; rw [c21b0]) | skip)
       have H' := Aside0.mk H; clear H; have hnb24 := NB221_220.out; have hnc24 := NB220_221.out; have hcz25_0 : wc.cell? ⟨gb221, 0, none⟩ = some (.int .i64 a2_0) := ct BK221 0; have hcz25_1 : wc.cell? ⟨gb221, 1, none⟩ = some (.int .i64 a2_1) := ct BK221 1; have hcz25_2 : wc.cell? ⟨gb221, 2, none⟩ = some (.int .i64 a2_2) := ct BK221 2; have hcz25_3 : wc.cell? ⟨gb221, 3, none⟩ = some (.bool a2_3) := ct BK221 3; have hcz25_4 : wc.cell? ⟨gb221, 4, none⟩ = some (.slice A2_4 l2_4.length c2_4) := ct BK221 4; have hcz25_5 : wc.cell? ⟨gb221, 5, none⟩ = some (.slice A2_5 l2_5.length c2_5) := ct BK221 5; have hfz25_0 := blk_frozen BK221.out 0; have hfz25_1 := blk_frozen BK221.out 1; have hfz25_2 := blk_frozen BK221.out 2; have hfz25_3 := blk_frozen BK221.out 3; have hfz25_4 := blk_frozen BK221.out 4; have hfz25_5 := blk_frozen BK221.out 5
       go_wp2
       repeat (go_quiet (fail); try go_wp2)
       go_meet
       case rel => exact ⟨_, (decide ((l2_4.length : Int) > 4)), jz, H', ⟨by have := HJ6.out; first | omega | exact Nat.le_refl _⟩, ⟨kz⟩, ⟨kz⟩, ⟨bz⟩⟩
     case rest =>
      clear HC20
      try clear c1
      try clear c2
      try clear p2
      try clear c5
      try clear c9
      try clear c11
      try clear c13
      try clear c15
      try clear c17
      try clear c19
      try clear c21
      try clear c21b0
      try clear c21b1
      try clear c22
      try clear c24
      try clear hcz14_0
      try clear hcz14_1
      try clear hcz14_2
      try clear hcz14_3
      try clear hcz14_4
      try clear hcz14_5
      try clear hcz16_0
      try clear hcz16_1
      try clear hcz16_2
      try clear hcz16_3
      try clear hcz16_4
      try clear hcz16_5
      try clear hcz18_0
      try clear hcz18_1
      try clear hcz18_2
      try clear hcz18_3
      try clear hcz18_4
      try clear hcz18_5
      try clear hcz23_0
      try clear hcz23_1
      try clear hcz23_2
      try clear hcz23_3
      try clear hcz23_4
      try clear hcz23_5
      try clear hcz25_0
      try clear hcz25_1
      try clear hcz25_2
      try clear hcz25_3
      try clear hcz25_4
      try clear hcz25_5
      try clear hfz14_0
      try clear hfz14_1
      try clear hfz14_2
      try clear hfz14_3
      try clear hfz14_4
      try clear hfz14_5
      try clear hfz16_0
      try clear hfz16_1
      try clear hfz16_2
      try clear hfz16_3
      try clear hfz16_4
      try clear hfz16_5
      try clear hfz18_0
      try clear hfz18_1
      try clear hfz18_2
      try clear hfz18_3
      try clear hfz18_4
      try clear hfz18_5
      try clear hfz23_0
      try clear hfz23_1
      try clear hfz23_2
      try clear hfz23_3
      try clear hfz23_4
      try clear hfz23_5
      try clear hfz25_0
      try clear hfz25_1
      try clear hfz25_2
      try clear hfz25_3
      try clear hfz25_4
      try clear hfz25_5
      try clear p2
      obtain ⟨kq, x27_19, rfl, HA, HJ19, BK220, BK221, HB⟩ := hcut
      cases kq with
      | zero => exact absurd HA.out (by simp [model_checkSample.j1])
      | succ kj19 =>
       have H := HA.out; clear HA; simp only [model_checkSample.j1] at H
       by_cases c26 : x27_19 = true
       ·subst c26; rw [if_pos rfl] at H; obtain rfl := Option.some.inj H
        go_wp2
        repeat (go_quiet (fail); try go_wp2)
        go_ret
        exact ⟨ez, bz⟩
       ·obtain rfl := bf c26; rw [if_neg (show ¬ (false = true) by decide)] at H; have HC27 := Aside0.mk H; clear H
        go_upto_region 5 with (fail)
        repeat (go_quiet (fail); go_upto_region 5 with (fail))
        go_cut [38] (fun v38 wc => ∃ (kq : Nat) (x38_26 : Bool), v38 = .bool x38_26 ∧ Aside0 (model_checkSample.j2 kq a1 x38_26 a2_0 a2_1 a2_2 a2_3 l2_4 l2_5 = some r) ∧ Aside0 (kq ≤ kj19) ∧ Aside0 (wc.heap[gb220]? = some (.cells #[.int .i64 a0_0, .int .i64 a0_1, .string a0_2, .int .i64 a0_3, (.slice A0_4 l0_4.length c0_4), .string a0_5, .string a0_6, .int .i64 a0_7, (.slice A0_8 l0_8.length c0_8), (.slice A0_9 l0_9.length c0_9), (.slice A0_10 l0_10.length c0_10)] 40 (0, 0))) ∧ Aside0 (wc.heap[gb221]? = some (.cells #[.int .i64 a2_0, .int .i64 a2_1, .int .i64 a2_2, .bool a2_3, (.slice A2_4 l2_4.length c2_4), (.slice A2_5 l2_5.length c2_5)] 51 (0, 0))) ∧ Aside0 (Below w.heap.size w wc))
        case first =>
         have H := HC27.out; clear HC27
         by_cases c28 : a1 > 0
         ·rw [if_pos c28] at H; have c28b0 : decide (0 < a1) = true := decide_eq_true c28; clear c28
          (first | rw [c28b0] | (simp only [i64_w, i32_w]; rw [c28b0]) | skip)
          obtain ⟨ji29, hji29⟩ : ∃ j_ : Int, (wrap64 (a1 - 1)) = j_ := ⟨_, rfl⟩; replace H : (if 0 ≤ (ji29) then (if (ji29) < (l0_10.length : Int) then (model_checkSample.j2 kj19 a1 (decide (a2_0 ≤ ((rd_T51 l0_10 (ji29)).f0))) a2_0 a2_1 a2_2 a2_3 l2_4 l2_5) else (none)) else (none)) = some r := by first | (rw [hji29] at H; exact H) | (simp only [hji29] at H ⊢; exact H)
          have hji29w : (IntKind.i64.wrap (a1 - 1)) = ji29 := (i64_w _).trans hji29
          by_cases c30 : 0 ≤ (ji29)
          ·rw [if_pos c30] at H; have c30b0 : decide (0 ≤ (ji29)) = true := decide_eq_true c30; clear c30
           by_cases c31 : (ji29) < (l0_10.length : Int)
           ·rw [if_pos c31] at H; have c31b0 : decide ((ji29) < (l0_10.length : Int)) = true := decide_eq_true c31; clear c31; have H' := Aside0.mk H; clear H; have hnb32 := NB221_220.out; have hnc32 := NB220_221.out; have hcz33_0 : wc.cell? ⟨gb221, 0, none⟩ = some (.int .i64 a2_0) := ct BK221 0; have hcz33_1 : wc.cell? ⟨gb221, 1, none⟩ = some (.int .i64 a2_1) := ct BK221 1; have hcz33_2 : wc.cell? ⟨gb221, 2, none⟩ = some (.int .i64 a2_2) := ct BK221 2; have hcz33_3 : wc.cell? ⟨gb221, 3, none⟩ = some (.bool a2_3) := ct BK221 3; have hcz33_4 : wc.cell? ⟨gb221, 4, none⟩ = some (.slice A2_4 l2_4.length c2_4) := ct BK221 4; have hcz33_5 : wc.cell? ⟨gb221, 5, none⟩ = some (.slice A2_5 l2_5.length c2_5) := ct BK221 5; have hfz33_0 := blk_frozen BK221.out 0; have hfz33_1 := blk_frozen BK221.out 1; have hfz33_2 := blk_frozen BK221.out 2; have hfz33_3 := blk_frozen BK221.out 3; have hfz33_4 := blk_frozen BK221.out 4; have hfz33_5 := blk_frozen BK221.out 5; have hcz34_0 : wc.cell? ⟨gb220, 0, none⟩ = some (.int .i64 a0_0) := ct BK220 0; have hcz34_1 : wc.cell? ⟨gb220, 1, none⟩ = some (.int .i64 a0_1) := ct BK220 1; have hcz34_2 : wc.cell? ⟨gb220, 2, none⟩ = some (.string a0_2) := ct BK220 2; have hcz34_3 : wc.cell? ⟨gb220, 3, none⟩ = some (.int .i64 a0_3) := ct BK220 3; have hcz34_4 : wc.cell? ⟨gb220, 4, none⟩ = some (.slice A0_4 l0_4.length c0_4) := ct BK220 4; have hcz34_5 : wc.cell? ⟨gb220, 5, none⟩ = some (.string a0_5) := ct BK220 5; have hcz34_6 : wc.cell? ⟨gb220, 6, none⟩ = some (.string a0_6) := ct BK220 6; have hcz34_7 : wc.cell? ⟨gb220, 7, none⟩ = some (.int .i64 a0_7) := ct BK220 7; have hcz34_8 : wc.cell? ⟨gb220, 8, none⟩ = some (.slice A0_8 l0_8.length c0_8) := ct BK220 8; have hcz34_9 : wc.cell? ⟨gb220, 9, none⟩ = some (.slice A0_9 l0_9.length c0_9) := ct BK220 9; have hcz34_10 : wc.cell? ⟨gb220, 10, none⟩ = some (.slice A0_10 l0_10.length c0_10) := ct BK220 10; have hfz34_0 := blk_frozen BK220.out 0; have hfz34_1 := blk_frozen BK220.out 1; have hfz34_2 := blk_frozen BK220.out 2; have hfz34_3 := blk_frozen BK220.out 3; have hfz34_4 := blk_frozen BK220.out 4; have hfz34_5 := blk_frozen BK220.out 5; have hfz34_6 := blk_frozen BK220.out 6; have hfz34_7 := blk_frozen BK220.out 7; have hfz34_8 := blk_frozen BK220.out 8; have hfz34_9 := blk_frozen BK220.out 9; have hfz34_10 := blk_frozen BK220.out 10; have p225 : 0 ≤ ((ji29) : Int) := od; have q225 : (ji29) < (l0_10.length : Int) := od; obtain ⟨ad225, A225_4, c225_4, A225_5, c225_5, e225, hx225_0, hx225_1, hx225_2, hx225_3, hx225_4, hx225_5, hl225_4, hi225_4, hl225_5, hi225_5⟩ := at_T51 HR0_10.out (ji29) p225 q225
            cases e225
            replace hx225_0 := cl HB hx225_0; replace hx225_1 := cl HB hx225_1; replace hx225_2 := cl HB hx225_2; replace hx225_3 := cl HB hx225_3; replace hx225_4 := cl HB hx225_4; replace hx225_5 := cl HB hx225_5; have HR225_4 := Aside0.mk hi225_4; have HC225_4 := Aside0.mk hl225_4; clear hi225_4 hl225_4; have HR225_5 := Aside0.mk hi225_5; have HC225_5 := Aside0.mk hl225_5; clear hi225_5 hl225_5; replace p225 := eq_true p225; replace q225 := eq_true q225
            go_wp2
            repeat (go_quiet (fail); try go_wp2)
            go_meet
            case rel => exact ⟨_, (decide (a2_0 ≤ ((rd_T51 l0_10 (ji29)).f0))), (by first | rfl | (simp; done) | (simp only [← hji29] <;> (first | rfl | simp)) | (simp [*]; done)), H', ⟨by have := HJ6.out; have := HJ19.out; first | omega | exact Nat.le_refl _⟩, ⟨kz⟩, ⟨kz⟩, ⟨bz⟩⟩
           ·rw [if_neg c31] at H
            exact absurd H (by simp)
          ·rw [if_neg c30] at H
           exact absurd H (by simp)
         ·rw [if_neg c28] at H; have c28b0 : decide (0 < a1) = false := decide_eq_false c28; clear c28
          (first | rw [c28b0] | (simp only [i64_w, i32_w]; rw [c28b0]) | skip)
          have H' := Aside0.mk H; clear H
          go_wp2
          repeat (go_quiet (fail); try go_wp2)
          go_meet
          case rel => exact ⟨_, (false), jz, H', ⟨by have := HJ6.out; have := HJ19.out; first | omega | exact Nat.le_refl _⟩, ⟨kz⟩, ⟨kz⟩, ⟨bz⟩⟩
        case rest =>
         clear HC27
         try clear c1
         try clear c2
         try clear p2
         try clear q2
         try clear hx2
         try clear c3
         try clear c5
         try clear p6
         try clear c9
         try clear c11
         try clear c13
         try clear c15
         try clear c17
         try clear c19
         try clear c21
         try clear c21b0
         try clear c21b1
         try clear c22
         try clear p22
         try clear q22
         try clear hx22
         try clear c24
         try clear c26
         try clear c28
         try clear c28b0
         try clear c30
         try clear c30b0
         try clear c31
         try clear c31b0
         try clear c32
         try clear hcz14_0
         try clear hcz14_1
         try clear hcz14_2
         try clear hcz14_3
         try clear hcz14_4
         try clear hcz14_5
         try clear hcz16_0
         try clear hcz16_1
         try clear hcz16_2
         try clear hcz16_3
         try clear hcz16_4
         try clear hcz16_5
         try clear hcz18_0
         try clear hcz18_1
         try clear hcz18_2
         try clear hcz18_3
         try clear hcz18_4
         try clear hcz18_5
         try clear hcz23_0
         try clear hcz23_1
         try clear hcz23_2
         try clear hcz23_3
         try clear hcz23_4
         try clear hcz23_5
         try clear hcz25_0
         try clear hcz25_1
         try clear hcz25_2
         try clear hcz25_3
         try clear hcz25_4
         try clear hcz25_5
         try clear hcz33_0
         try clear hcz33_1
         try clear hcz33_2
         try clear hcz33_3
         try clear hcz33_4
         try clear hcz33_5
         try clear hcz34_0
         try clear hcz34_1
         try clear hcz34_10
         try clear hcz34_2
         try clear hcz34_3
         try clear hcz34_4
         try clear hcz34_5
         try clear hcz34_6
         try clear hcz34_7
         try clear hcz34_8
         try clear hcz34_9
         try clear hfz14_0
         try clear hfz14_1
         try clear hfz14_2
         try clear hfz14_3
         try clear hfz14_4
         try clear hfz14_5
         try clear hfz16_0
         try clear hfz16_1
         try clear hfz16_2
         try clear hfz16_3
         try clear hfz16_4
         try clear hfz16_5
         try clear hfz18_0
         try clear hfz18_1
         try clear hfz18_2
         try clear hfz18_3
         try clear hfz18_4
         try clear hfz18_5
         try clear hfz23_0
         try clear hfz23_1
         try clear hfz23_2
         try clear hfz23_3
         try clear hfz23_4
         try clear hfz23_5
         try clear hfz25_0
         try clear hfz25_1
         try clear hfz25_2
         try clear hfz25_3
         try clear hfz25_4
         try clear hfz25_5
         try clear hfz33_0
         try clear hfz33_1
         try clear hfz33_2
         try clear hfz33_3
         try clear hfz33_4
         try clear hfz33_5
         try clear hfz34_0
         try clear hfz34_1
         try clear hfz34_10
         try clear hfz34_2
         try clear hfz34_3
         try clear hfz34_4
         try clear hfz34_5
         try clear hfz34_6
         try clear hfz34_7
         try clear hfz34_8
         try clear hfz34_9
         try clear hx225_0
         try clear hx225_1
         try clear hx225_2
         try clear hx225_3
         try clear hx225_4
         try clear hx225_5
         try clear p2
         try clear p225
         try clear q225
         obtain ⟨kq, x38_26, rfl, HA, HJ26, BK220, BK221, HB⟩ := hcut
         cases kq with
         | zero => exact absurd HA.out (by simp [model_checkSample.j2])
         | succ kj26 =>
          have H := HA.out; clear HA; simp only [model_checkSample.j2] at H
          by_cases c35 : x38_26 = true
          ·subst c35; rw [if_pos rfl] at H; obtain rfl := Option.some.inj H
           go_wp2
           repeat (go_quiet (fail); try go_wp2)
           go_ret
           exact ⟨ez, bz⟩
          ·obtain rfl := bf c35; rw [if_neg (show ¬ (false = true) by decide)] at H
           by_cases c36 : a2_3 = true
           ·subst c36; rw [if_pos rfl] at H
            by_cases c37 : (l2_4.length : Int) > 0
            ·rw [if_pos c37] at H; have c37b0 : decide (0 < (l2_4.length : Int)) = true := decide_eq_true c37; have c37b1 : decide (0 < l2_4.length) = true := decide_eq_true (by omega); clear c37; obtain rfl := Option.some.inj H; have hnb38 := NB221_220.out; have hnc38 := NB220_221.out; have hcz39_0 : wc.cell? ⟨gb221, 0, none⟩ = some (.int .i64 a2_0) := ct BK221 0; have hcz39_1 : wc.cell? ⟨gb221, 1, none⟩ = some (.int .i64 a2_1) := ct BK221 1; have hcz39_2 : wc.cell? ⟨gb221, 2, none⟩ = some (.int .i64 a2_2) := ct BK221 2; have hcz39_3 : wc.cell? ⟨gb221, 3, none⟩ = some (.bool true) := ct BK221 3; have hcz39_4 : wc.cell? ⟨gb221, 4, none⟩ = some (.slice A2_4 l2_4.length c2_4) := ct BK221 4; have hcz39_5 : wc.cell? ⟨gb221, 5, none⟩ = some (.slice A2_5 l2_5.length c2_5) := ct BK221 5; have hfz39_0 := blk_frozen BK221.out 0; have hfz39_1 := blk_frozen BK221.out 1; have hfz39_2 := blk_frozen BK221.out 2; have hfz39_3 := blk_frozen BK221.out 3; have hfz39_4 := blk_frozen BK221.out 4; have hfz39_5 := blk_frozen BK221.out 5
             go_wp2
             repeat (go_quiet (fail); try go_wp2)
             go_ret
             exact ⟨ez, bz⟩
            ·rw [if_neg c37] at H; have c37b0 : decide (0 < (l2_4.length : Int)) = false := decide_eq_false c37; have c37b1 : decide (0 < l2_4.length) = false := decide_eq_false (by omega); clear c37; have H' := Aside0.mk H; clear H; have hnb40 := NB221_220.out; have hnc40 := NB220_221.out; have hcz41_0 : wc.cell? ⟨gb221, 0, none⟩ = some (.int .i64 a2_0) := ct BK221 0; have hcz41_1 : wc.cell? ⟨gb221, 1, none⟩ = some (.int .i64 a2_1) := ct BK221 1; have hcz41_2 : wc.cell? ⟨gb221, 2, none⟩ = some (.int .i64 a2_2) := ct BK221 2; have hcz41_3 : wc.cell? ⟨gb221, 3, none⟩ = some (.bool true) := ct BK221 3; have hcz41_4 : wc.cell? ⟨gb221, 4, none⟩ = some (.slice A2_4 l2_4.length c2_4) := ct BK221 4; have hcz41_5 : wc.cell? ⟨gb221, 5, none⟩ = some (.slice A2_5 l2_5.length c2_5) := ct BK221 5; have hfz41_0 := blk_frozen BK221.out 0; have hfz41_1 := blk_frozen BK221.out 1; have hfz41_2 := blk_frozen BK221.out 2; have hfz41_3 := blk_frozen BK221.out 3; have hfz41_4 := blk_frozen BK221.out 4; have hfz41_5 := blk_frozen BK221.out 5
             go_wp2
             repeat (go_quiet (fail); try go_wp2)
             go_meet
             case rel => exact ⟨_, H', ⟨by have := HJ6.out; have := HJ19.out; have := HJ26.out; first | omega | exact Nat.le_refl _⟩, ⟨kz⟩, ⟨kz⟩, ⟨bz⟩⟩
           ·obtain rfl := bf c36; rw [if_neg (show ¬ (false = true) by decide)] at H; have H' := Aside0.mk H; clear H; have hnb42 := NB221_220.out; have hnc42 := NB220_221.out; have hcz43_0 : wc.cell? ⟨gb221, 0, none⟩ = some (.int .i64 a2_0) := ct BK221 0; have hcz43_1 : wc.cell? ⟨gb221, 1, none⟩ = some (.int .i64 a2_1) := ct BK221 1; have hcz43_2 : wc.cell? ⟨gb221, 2, none⟩ = some (.int .i64 a2_2) := ct BK221 2; have hcz43_3 : wc.cell? ⟨gb221, 3, none⟩ = some (.bool false) := ct BK221 3; have hcz43_4 : wc.cell? ⟨gb221, 4, none⟩ = some (.slice A2_4 l2_4.length c2_4) := ct BK221 4; have hcz43_5 : wc.cell? ⟨gb221, 5, none⟩ = some (.slice A2_5 l2_5.length c2_5) := ct BK221 5; have hfz43_0 := blk_frozen BK221.out 0; have hfz43_1 := blk_frozen BK221.out 1; have hfz43_2 := blk_frozen BK221.out 2; have hfz43_3 := blk_frozen BK221.out 3; have hfz43_4 := blk_frozen BK221.out 4; have hfz43_5 := blk_frozen BK221.out 5
            go_wp2
            repeat (go_quiet (fail); try go_wp2)
            go_meet
            case rel => exact ⟨_, H', ⟨by have := HJ6.out; have := HJ19.out; have := HJ26.out; first | omega | exact Nat.le_refl _⟩, ⟨kz⟩, ⟨kz⟩, ⟨bz⟩⟩
 case rest =>
  clear HC4
  try clear c1
  try clear c2
  try clear p2
  try clear q2
  try clear hx2
  try clear c3
  try clear c4
  try clear c5
  try clear p6
  try clear c9
  try clear c11
  try clear c13
  try clear c15
  try clear c17
  try clear c19
  try clear c21
  try clear c21b0
  try clear c21b1
  try clear c22
  try clear p22
  try clear q22
  try clear hx22
  try clear c24
  try clear c26
  try clear c28
  try clear c28b0
  try clear c30
  try clear c30b0
  try clear c31
  try clear c31b0
  try clear c32
  try clear c35
  try clear c36
  try clear c37
  try clear c37b0
  try clear c37b1
  try clear c38
  try clear c40
  try clear c42
  try clear hcz14_0
  try clear hcz14_1
  try clear hcz14_2
  try clear hcz14_3
  try clear hcz14_4
  try clear hcz14_5
  try clear hcz16_0
  try clear hcz16_1
  try clear hcz16_2
  try clear hcz16_3
  try clear hcz16_4
  try clear hcz16_5
  try clear hcz18_0
  try clear hcz18_1
  try clear hcz18_2
  try clear hcz18_3
  try clear hcz18_4
  try clear hcz18_5
  try clear hcz23_0
  try clear hcz23_1
  try clear hcz23_2
  try clear hcz23_3
  try clear hcz23_4
  try clear hcz23_5
  try clear hcz25_0
  try clear hcz25_1
  try clear hcz25_2
  try clear hcz25_3
  try clear hcz25_4
  try clear hcz25_5
  try clear hcz33_0
  try clear hcz33_1
  try clear hcz33_2
  try clear hcz33_3
  try clear hcz33_4
  try clear hcz33_5
  try clear hcz34_0
  try clear hcz34_1
  try clear hcz34_10
  try clear hcz34_2
  try clear hcz34_3
  try clear hcz34_4
  try clear hcz34_5
  try clear hcz34_6
  try clear hcz34_7
  try clear hcz34_8
  try clear hcz34_9
  try clear hcz39_0
  try clear hcz39_1
  try clear hcz39_2
  try clear hcz39_3
  try clear hcz39_4
  try clear hcz39_5
  try clear hcz41_0
  try clear hcz41_1
  try clear hcz41_2
  try clear hcz41_3
  try clear hcz41_4
  try clear hcz41_5
  try clear hcz43_0
  try clear hcz43_1
  try clear hcz43_2
  try clear hcz43_3
  try clear hcz43_4
  try clear hcz43_5
  try clear hfz14_0
  try clear hfz14_1
  try clear hfz14_2
  try clear hfz14_3
  try clear hfz14_4
  try clear hfz14_5
  try clear hfz16_0
  try clear hfz16_1
  try clear hfz16_2
  try clear hfz16_3
  try clear hfz16_4
  try clear hfz16_5
  try clear hfz18_0
  try clear hfz18_1
  try clear hfz18_2
  try clear hfz18_3
  try clear hfz18_4
  try clear hfz18_5
  try clear hfz23_0
  try clear hfz23_1
  try clear hfz23_2
  try clear hfz23_3
  try clear hfz23_4
  try clear hfz23_5
  try clear hfz25_0
  try clear hfz25_1
  try clear hfz25_2
  try clear hfz25_3
  try clear hfz25_4
  try clear hfz25_5
  try clear hfz33_0
  try clear hfz33_1
  try clear hfz33_2
  try clear hfz33_3
  try clear hfz33_4
  try clear hfz33_5
  try clear hfz34_0
  try clear hfz34_1
  try clear hfz34_10
  try clear hfz34_2
  try clear hfz34_3
  try clear hfz34_4
  try clear hfz34_5
  try clear hfz34_6
  try clear hfz34_7
  try clear hfz34_8
  try clear hfz34_9
  try clear hfz39_0
  try clear hfz39_1
  try clear hfz39_2
  try clear hfz39_3
  try clear hfz39_4
  try clear hfz39_5
  try clear hfz41_0
  try clear hfz41_1
  try clear hfz41_2
  try clear hfz41_3
  try clear hfz41_4
  try clear hfz41_5
  try clear hfz43_0
  try clear hfz43_1
  try clear hfz43_2
  try clear hfz43_3
  try clear hfz43_4
  try clear hfz43_5
  try clear hx225_0
  try clear hx225_1
  try clear hx225_2
  try clear hx225_3
  try clear hx225_4
  try clear hx225_5
  try clear p2
  try clear p22
  try clear p225
  try clear p6
  try clear q2
  try clear q22
  try clear q225
  obtain ⟨kq, HA, HJ3, BK220, BK221, HB⟩ := hcut
  cases kq with
  | zero => exact absurd HA.out (by simp [model_checkSample.j3])
  | succ kj3 =>
   have H := HA.out; clear HA; simp only [model_checkSample.j3] at H; have H' := Aside0.mk H; clear H; have hnb44 := NB221_220.out; have hnc44 := NB220_221.out; have hcz45_0 : wc.cell? ⟨gb221, 0, none⟩ = some (.int .i64 a2_0) := ct BK221 0; have hcz45_1 : wc.cell? ⟨gb221, 1, none⟩ = some (.int .i64 a2_1) := ct BK221 1; have hcz45_2 : wc.cell? ⟨gb221, 2, none⟩ = some (.int .i64 a2_2) := ct BK221 2; have hcz45_3 : wc.cell? ⟨gb221, 3, none⟩ = some (.bool a2_3) := ct BK221 3; have hcz45_4 : wc.cell? ⟨gb221, 4, none⟩ = some (.slice A2_4 l2_4.length c2_4) := ct BK221 4; have hcz45_5 : wc.cell? ⟨gb221, 5, none⟩ = some (.slice A2_5 l2_5.length c2_5) := ct BK221 5; have hfz45_0 := blk_frozen BK221.out 0; have hfz45_1 := blk_frozen BK221.out 1; have hfz45_2 := blk_frozen BK221.out 2; have hfz45_3 := blk_frozen BK221.out 3; have hfz45_4 := blk_frozen BK221.out 4; have hfz45_5 := blk_frozen BK221.out 5
   go_wp2
   repeat (go_quiet (fail); try go_wp2)
   go_loopg [7, 65] kj3 (fun kq v7 v65 w' => ∃ (x7_2 : Int) (x65_2 : Int), v7 = .int .i64 x7_2 ∧ v65 = .int .i64 x65_2 ∧ Aside0 (model_checkSample.l0 kq a1 x7_2 l2_4 (l2_4.length : Int) x65_2 = some r) ∧ Aside0 (kq ≤ kj3) ∧ Aside0 (w'.heap[gb220]? = some (.cells #[.int .i64 a0_0, .int .i64 a0_1, .string a0_2, .int .i64 a0_3, (.slice A0_4 l0_4.length c0_4), .string a0_5, .string a0_6, .int .i64 a0_7, (.slice A0_8 l0_8.length c0_8), (.slice A0_9 l0_9.length c0_9), (.slice A0_10 l0_10.length c0_10)] 40 (0, 0))) ∧ Aside0 (w'.heap[gb221]? = some (.cells #[.int .i64 a2_0, .int .i64 a2_1, .int .i64 a2_2, .bool a2_3, (.slice A2_4 l2_4.length c2_4), (.slice A2_5 l2_5.length c2_5)] 51 (0, 0))) ∧ Aside0 (Below w.heap.size w w'))
   case atStart => exact ⟨((-1)), (0), jz, jz, H', ⟨Nat.le_refl _⟩, ⟨kz⟩, ⟨kz⟩, ⟨bz⟩⟩
   case round =>
    clear H'
    try clear c1
    try clear c2
    try clear p2
    try clear q2
    try clear hx2
    try clear c3
    try clear c4
    try clear c5
    try clear p6
    try clear c9
    try clear c11
    try clear c13
    try clear c15
    try clear c17
    try clear c19
    try clear c21
    try clear c21b0
    try clear c21b1
    try clear c22
    try clear p22
    try clear q22
    try clear hx22
    try clear c24
    try clear c26
    try clear c28
    try clear c28b0
    try clear c30
    try clear c30b0
    try clear c31
    try clear c31b0
    try clear c32
    try clear c35
    try clear c36
    try clear c37
    try clear c37b0
    try clear c37b1
    try clear c38
    try clear c40
    try clear c42
    try clear c44
    try clear hcz14_0
    try clear hcz14_1
    try clear hcz14_2
    try clear hcz14_3
    try clear hcz14_4
    try clear hcz14_5
    try clear hcz16_0
    try clear hcz16_1
    try clear hcz16_2
    try clear hcz16_3
    try clear hcz16_4
    try clear hcz16_5
    try clear hcz18_0
    try clear hcz18_1
    try clear hcz18_2
    try clear hcz18_3
    try clear hcz18_4
    try clear hcz18_5
    try clear hcz23_0
    try clear hcz23_1
    try clear hcz23_2
    try clear hcz23_3
    try clear hcz23_4
    try clear hcz23_5
    try clear hcz25_0
    try clear hcz25_1
    try clear hcz25_2
    try clear hcz25_3
    try clear hcz25_4
    try clear hcz25_5
    try clear hcz33_0
    try clear hcz33_1
    try clear hcz33_2
    try clear hcz33_3
    try clear hcz33_4
    try clear hcz33_5
    try clear hcz34_0
    try clear hcz34_1
    try clear hcz34_10
    try clear hcz34_2
    try clear hcz34_3
    try clear hcz34_4
    try clear hcz34_5
    try clear hcz34_6
    try clear hcz34_7
    try clear hcz34_8
    try clear hcz34_9
    try clear hcz39_0
    try clear hcz39_1
    try clear hcz39_2
    try clear hcz39_3
    try clear hcz39_4
    try clear hcz39_5
    try clear hcz41_0
    try clear hcz41_1
    try clear hcz41_2
    try clear hcz41_3
    try clear hcz41_4
    try clear hcz41_5
    try clear hcz43_0
    try clear hcz43_1
    try clear hcz43_2
    try clear hcz43_3
    try clear hcz43_4
    try clear hcz43_5
    try clear hcz45_0
    try clear hcz45_1
    try clear hcz45_2
    try clear hcz45_3
    try clear hcz45_4
    try clear hcz45_5
    try clear hfz14_0
    try clear hfz14_1
    try clear hfz14_2
    try clear hfz14_3
    try clear hfz14_4
    try clear hfz14_5
    try clear hfz16_0
    try clear hfz16_1
    try clear hfz16_2
    try clear hfz16_3
    try clear hfz16_4
    try clear hfz16_5
    try clear hfz18_0
    try clear hfz18_1
    try clear hfz18_2
    try clear hfz18_3
    try clear hfz18_4
    try clear hfz18_5
    try clear hfz23_0
    try clear hfz23_1
    try clear hfz23_2
    try clear hfz23_3
    try clear hfz23_4
    try clear hfz23_5
    try clear hfz25_0
    try clear hfz25_1
    try clear hfz25_2
    try clear hfz25_3
    try clear hfz25_4
    try clear hfz25_5
    try clear hfz33_0
    try clear hfz33_1
    try clear hfz33_2
    try clear hfz33_3
    try clear hfz33_4
    try clear hfz33_5
    try clear hfz34_0
    try clear hfz34_1
    try clear hfz34_10
    try clear hfz34_2
    try clear hfz34_3
    try clear hfz34_4
    try clear hfz34_5
    try clear hfz34_6
    try clear hfz34_7
    try clear hfz34_8
    try clear hfz34_9
    try clear hfz39_0
    try clear hfz39_1
    try clear hfz39_2
    try clear hfz39_3
    try clear hfz39_4
    try clear hfz39_5
    try clear hfz41_0
    try clear hfz41_1
    try clear hfz41_2
    try clear hfz41_3
    try clear hfz41_4
    try clear hfz41_5
    try clear hfz43_0
    try clear hfz43_1
    try clear hfz43_2
    try clear hfz43_3
    try clear hfz43_4
    try clear hfz43_5
    try clear hfz45_0
    try clear hfz45_1
    try clear hfz45_2
    try clear hfz45_3
    try clear hfz45_4
    try clear hfz45_5
    try clear hx225_0
    try clear hx225_1
    try clear hx225_2
    try clear hx225_3
    try clear hx225_4
    try clear hx225_5
    try clear p2
    try clear p22
    try clear p225
    try clear p6
    try clear q2
    try clear q22
    try clear q225
    obtain ⟨x7_2, x65_2, rfl, rfl, HA, HK2, BK220, BK221, HB⟩ := hrel
    cases gk with
    | zero => exact absurd HA.out (by simp [model_checkSample.l0])
    | succ k2 =>
     have H := HA.out; clear HA; simp only [model_checkSample.l0] at H
     by_cases c46 : x65_2 < (l2_4.length : Int)
     ·rw [if_pos c46] at H; have c46b0 : decide (x65_2 < (l2_4.length : Int)) = true := decide_eq_true c46; clear c46
      by_cases c47 : 0 ≤ x65_2
      ·rw [if_pos c47] at H; have c47b0 : decide (0 ≤ x65_2) = true := decide_eq_true c47; clear c47
       by_cases c48 : x65_2 < (l2_4.length : Int)
       ·rw [if_pos c48] at H; have c48b0 : decide (x65_2 < (l2_4.length : Int)) = true := decide_eq_true c48; clear c48
        by_cases c49 : (rd l2_4 x65_2) ≤ x7_2
        ·rw [if_pos c49] at H; have c49b0 : decide ((rd l2_4 x65_2) ≤ x7_2) = true := decide_eq_true c49; clear c49; obtain rfl := Option.some.inj H; have p226 : 0 ≤ (x65_2 : Int) := od; have q226 : x65_2 < (l2_4.length : Int) := od; obtain ⟨ad226, e226, hx226_0⟩ := Kd.at_int HR2_4.out x65_2 p226 q226
         cases e226
         replace hx226_0 := cl HB hx226_0; replace p226 := eq_true p226; replace q226 := eq_true q226
         go_wp2
         repeat (go_quiet (fail); try go_wp2)
         go_ret
         exact ⟨ez, bz⟩
        ·rw [if_neg c49] at H; have c49b0 : decide ((rd l2_4 x65_2) ≤ x7_2) = false := decide_eq_false c49; clear c49
         by_cases c50 : (rd l2_4 x65_2) ≥ a1
         ·rw [if_pos c50] at H; have c50b0 : decide (a1 ≤ (rd l2_4 x65_2)) = true := decide_eq_true c50; clear c50; obtain rfl := Option.some.inj H; have p226 : 0 ≤ (x65_2 : Int) := od; have q226 : x65_2 < (l2_4.length : Int) := od; obtain ⟨ad226, e226, hx226_0⟩ := Kd.at_int HR2_4.out x65_2 p226 q226
          cases e226
          replace hx226_0 := cl HB hx226_0; replace p226 := eq_true p226; replace q226 := eq_true q226
          go_wp2
          repeat (go_quiet (fail); try go_wp2)
          go_ret
          exact ⟨ez, bz⟩
         ·rw [if_neg c50] at H; have c50b0 : decide (a1 ≤ (rd l2_4 x65_2)) = false := decide_eq_false c50; clear c50; have H' := Aside0.mk H; clear H; have p226 : 0 ≤ (x65_2 : Int) := od; have q226 : x65_2 < (l2_4.length : Int) := od; obtain ⟨ad226, e226, hx226_0⟩ := Kd.at_int HR2_4.out x65_2 p226 q226
          cases e226
          replace hx226_0 := cl HB hx226_0; replace p226 := eq_true p226; replace q226 := eq_true q226
          go_wp2
          repeat (go_quiet (fail); try go_wp2)
          go_roundg k2
          case measure => have := HJ3.out; have := HK2.out; omega
          case rel => exact ⟨(rd l2_4 x65_2), (wrap64 (x65_2 + 1)), jz, jz, H', ⟨by have := HJ3.out; have := HK2.out; omega⟩, ⟨kz⟩, ⟨kz⟩, ⟨bz⟩⟩
       ·rw [if_neg c48] at H
        exact absurd H (by simp)
      ·rw [if_neg c47] at H
       exact absurd H (by simp)
     ·rw [if_neg c46] at H; have c46b0 : decide (x65_2 < (l2_4.length : Int)) = false := decide_eq_false c46; clear c46; obtain rfl := Option.some.inj H
      go_wp2
      repeat (go_quiet (fail); try go_wp2)
      go_ret
      exact ⟨ez, bz⟩
end Go.Proofs.Ytknklchmpohjfaa.E
namespace Go.Proofs.Ytknklchmpohjfaa.Tk
open Go.RowKit Go Go.Proofs.YtknklchmpohjfaaW.PrintWords Go.Proofs.YtknklchmpohjfaaW.PrintLast Go.Proofs.YtknklchmpohjfaaW.PrintMore Go.Proofs.Ytknklchmpohjfaa.Mn Go.Proofs.Ytknklchmpohjfaa.E
set_option linter.unusedVariables false
set_option linter.unusedSimpArgs false
abbrev Sm := S51
abbrev Rf := S68
abbrev Ed' := S86
def inB (a lo hi : Int) : Bool := decide (lo ≤ a) && decide (a ≤ hi)
theorem within_f (a lo hi : Int) : model_within.f a lo hi = some (inB a lo hi) := by
 unfold model_within.f inB
 by_cases h : a ≥ lo
 ·rw [if_pos h, decide_eq_true (show lo ≤ a from h), Bool.true_and]
 ·rw [if_neg h, decide_eq_false (show ¬ lo ≤ a from h), Bool.false_and]
theorem rin_f (a lo hi : Int) : dioramaref03_in.f a lo hi = some (inB a lo hi) := by
 unfold dioramaref03_in.f inB
 by_cases h : a ≥ lo
 ·rw [if_pos h, decide_eq_true (show lo ≤ a from h), Bool.true_and]
 ·rw [if_neg h, decide_eq_false (show ¬ lo ≤ a from h), Bool.false_and]
def allB (p : Int → Bool) (s : ByteArray) : Nat → Nat → Bool
 | _, 0 => true
 | i, n + 1 => p (bt s i) && allB p s (i + 1) n
def lowL (c : Int) : Bool := decide (97 ≤ c) && decide (c ≤ 122)
def anyL (c : Int) : Bool := lowL c || (decide (48 ≤ c) && decide (c ≤ 57))
def sign (c : Int) : Bool := decide (32 ≤ c) && decide (c ≤ 126)
def letB (s : ByteArray) : Bool := allB anyL s 0 s.size && decide (s.size = 4)
def lanB (s : ByteArray) : Bool := allB lowL s 0 s.size && decide (s.size = 3)
def namB (s : ByteArray) : Bool := decide (s.size ≤ 40) && allB sign s 0 s.size
def Bs (s : ByteArray) : Prop := s.size ≤ maxLen
theorem max_is : maxLen ≤ 9223372036854775807 := by unfold maxLen; omega
section
variable (s : ByteArray) (hs : Bs s)
include hs
theorem nxt {i n : Nat} (h : i + (n + 1) = s.size) : wrap64 ((i : Int) + 1) = ((i + 1 : Nat) : Int) := by
 have := max_is
 unfold Bs at hs
 rw [w64 (by omega) (by omega)]
 omega
theorem letters_l (b : Bool) (m : Nat) : ∀ n i : Nat, i + n = s.size → Ev (fun k => model_letters.l0 k s (m : Int) b (s.size : Int) (i : Int)) (allB (if b = true then anyL else lowL) s i n && decide (s.size = m))
 | 0, i, h => by
  refine Ev.step (f := fun _ => some (decide (s.size = m))) (fun k => ?_) (by simpa only [allB, Bool.true_and] using Ev.now _)
  rw [model_letters.l0, if_neg (by omega)]
  congr 1
  rw [Bool.eq_iff_iff]
  simp only [beq_iff_eq, decide_eq_true_eq]
  omega
 | n + 1, i, h => by
  have ih := letters_l b m n (i + 1) (by omega)
  have hn := nxt s hs h
  by_cases hp : (if b = true then anyL else lowL) (bt s i) = true
  ·rw [allB, hp, Bool.true_and]
   refine Ev.step (fun k => ?_) ih
   rw [model_letters.l0, if_pos (by omega), if_pos (by omega), if_pos (by omega), hn]
   cases b with
   | true =>
    simp only [if_true, anyL, lowL, Bool.or_eq_true, Bool.and_eq_true, decide_eq_true_eq] at hp
    repeat' split
    all_goals first | rfl | (exfalso; omega) | simp_all
   | false =>
    simp only [Bool.false_eq_true, if_false, lowL, Bool.and_eq_true, decide_eq_true_eq] at hp
    repeat' split
    all_goals first | rfl | (exfalso; omega) | simp_all
  ·rw [allB, Bool.eq_false_iff.2 hp, Bool.false_and, Bool.false_and]
   refine Ev.step (f := fun _ => some false) (fun k => ?_) (Ev.now _)
   rw [model_letters.l0, if_pos (by omega), if_pos (by omega), if_pos (by omega)]
   cases b with
   | true =>
    simp only [if_true, anyL, lowL, Bool.or_eq_true, Bool.and_eq_true, decide_eq_true_eq] at hp
    repeat' split
    all_goals first | rfl | (exfalso; omega) | simp_all
   | false =>
    simp only [Bool.false_eq_true, if_false, lowL, Bool.and_eq_true, decide_eq_true_eq] at hp
    repeat' split
    all_goals first | rfl | (exfalso; omega) | simp_all
theorem letters_f : Ev (fun k => model_letters.f k s 4 true) (letB s) := letters_l s hs true 4 s.size 0 (by omega)
theorem lang_f : Ev (fun k => model_letters.f k s 3 false) (lanB s) := letters_l s hs false 3 s.size 0 (by omega)
theorem name_l : ∀ n i : Nat, i + n = s.size → Ev (fun k => model_isName.l0 k s (s.size : Int) (i : Int)) (allB sign s i n)
 | 0, i, h => by
  refine Ev.step (f := fun _ => some true) (fun k => ?_) (Ev.now _)
  rw [model_isName.l0, if_neg (by omega)]
 | n + 1, i, h => by
  have ih := name_l n (i + 1) (by omega)
  have hn := nxt s hs h
  by_cases hp : sign (bt s i) = true
  ·rw [allB, hp, Bool.true_and]
   simp only [sign, Bool.and_eq_true, decide_eq_true_eq] at hp
   refine Ev.step (fun k => ?_) ih
   rw [model_isName.l0, if_pos (by omega), if_pos (by omega), if_pos (by omega), if_neg (by omega), if_neg (by omega), hn]
  ·rw [allB, Bool.eq_false_iff.2 hp, Bool.false_and]
   simp only [sign, Bool.and_eq_true, decide_eq_true_eq] at hp
   refine Ev.step (f := fun _ => some false) (fun k => ?_) (Ev.now _)
   rw [model_isName.l0, if_pos (by omega), if_pos (by omega), if_pos (by omega)]
   by_cases h1 : bt s i < 32
   ·rw [if_pos h1]
   ·rw [if_neg h1, if_pos (by omega)]
theorem name_f : Ev (fun k => model_isName.f k s) (namB s) := by
 unfold namB
 by_cases h : s.size ≤ 40
 ·rw [decide_eq_true h, Bool.true_and]
  exact Ev.congr (fun k => if_neg (by omega)) (name_l s hs s.size 0 (by omega))
 ·rw [decide_eq_false h, Bool.false_and]
  exact Ev.congr (fun k => if_pos (by omega)) (Ev.now _)
theorem rletters_l : ∀ n i : Nat, i + n = s.size → Ev (fun k => dioramaref03_Letters.l0 k s (i : Int)) (allB anyL s i n && decide (s.size = 4))
 | 0, i, h => by
  refine Ev.step (f := fun _ => some (decide (s.size = 4))) (fun k => ?_) (by simpa only [allB, Bool.true_and] using Ev.now _)
  rw [dioramaref03_Letters.l0, if_neg (by omega)]
  congr 1
  rw [Bool.eq_iff_iff]
  simp only [beq_iff_eq, decide_eq_true_eq]
  omega
 | n + 1, i, h => by
  have ih := rletters_l n (i + 1) (by omega)
  have hn := nxt s hs h
  by_cases hp : anyL (bt s i) = true
  ·rw [allB, hp, Bool.true_and]
   simp only [anyL, lowL, Bool.or_eq_true, Bool.and_eq_true, decide_eq_true_eq] at hp
   refine Ev.step (fun k => ?_) ih
   rw [dioramaref03_Letters.l0, if_pos (by omega), if_pos (by omega), hn]
   repeat' split
   all_goals first | rfl | (exfalso; omega)
  ·rw [allB, Bool.eq_false_iff.2 hp, Bool.false_and, Bool.false_and]
   simp only [anyL, lowL, Bool.or_eq_true, Bool.and_eq_true, decide_eq_true_eq] at hp
   refine Ev.step (f := fun _ => some false) (fun k => ?_) (Ev.now _)
   rw [dioramaref03_Letters.l0, if_pos (by omega), if_pos (by omega)]
   repeat' split
   all_goals first | rfl | (exfalso; omega)
theorem rletters_f : Ev (fun k => dioramaref03_Letters.f k s) (letB s) := rletters_l s hs s.size 0 (by omega)
theorem rlang_l : ∀ n i : Nat, i + n = s.size → Ev (fun k => dioramaref03_language.l0 k s (i : Int)) (allB lowL s i n && decide (s.size = 3))
 | 0, i, h => by
  refine Ev.step (f := fun _ => some (decide (s.size = 3))) (fun k => ?_) (by simpa only [allB, Bool.true_and] using Ev.now _)
  rw [dioramaref03_language.l0, if_neg (by omega)]
  congr 1
  rw [Bool.eq_iff_iff]
  simp only [beq_iff_eq, decide_eq_true_eq]
  omega
 | n + 1, i, h => by
  have ih := rlang_l n (i + 1) (by omega)
  have hn := nxt s hs h
  by_cases hp : lowL (bt s i) = true
  ·rw [allB, hp, Bool.true_and]
   simp only [lowL, Bool.and_eq_true, decide_eq_true_eq] at hp
   refine Ev.step (fun k => ?_) ih
   rw [dioramaref03_language.l0, if_pos (by omega), if_pos (by omega), if_neg (by omega), if_neg (by omega), hn]
  ·rw [allB, Bool.eq_false_iff.2 hp, Bool.false_and, Bool.false_and]
   simp only [lowL, Bool.and_eq_true, decide_eq_true_eq] at hp
   refine Ev.step (f := fun _ => some false) (fun k => ?_) (Ev.now _)
   rw [dioramaref03_language.l0, if_pos (by omega), if_pos (by omega)]
   repeat' split
   all_goals first | rfl | (exfalso; omega)
theorem rlang_f : Ev (fun k => dioramaref03_language.f k s) (lanB s) := rlang_l s hs s.size 0 (by omega)
theorem rname_l : ∀ n i : Nat, i + n = s.size → Ev (fun k => dioramaref03_Name.l0 k s (i : Int)) (allB sign s i n && decide (s.size ≤ 40))
 | 0, i, h => by
  refine Ev.step (f := fun _ => some (decide (s.size ≤ 40))) (fun k => ?_) (by simpa only [allB, Bool.true_and] using Ev.now _)
  rw [dioramaref03_Name.l0, if_neg (by omega)]
  congr 1
  rw [Bool.eq_iff_iff]
  simp only [decide_eq_true_eq]
  omega
 | n + 1, i, h => by
  have ih := rname_l n (i + 1) (by omega)
  have hn := nxt s hs h
  by_cases hp : sign (bt s i) = true
  ·rw [allB, hp, Bool.true_and]
   simp only [sign, Bool.and_eq_true, decide_eq_true_eq] at hp
   refine Ev.step (fun k => ?_) ih
   rw [dioramaref03_Name.l0, if_pos (by omega), if_pos (by omega), if_neg (by omega), if_neg (by omega), hn]
  ·rw [allB, Bool.eq_false_iff.2 hp, Bool.false_and, Bool.false_and]
   simp only [sign, Bool.and_eq_true, decide_eq_true_eq] at hp
   refine Ev.step (f := fun _ => some false) (fun k => ?_) (Ev.now _)
   rw [dioramaref03_Name.l0, if_pos (by omega), if_pos (by omega)]
   repeat' split
   all_goals first | rfl | (exfalso; omega)
theorem rname_f : Ev (fun k => dioramaref03_Name.f k s) (namB s) := by
 unfold namB
 rw [Bool.and_comm]
 exact rname_l s hs s.size 0 (by omega)
end
def edB (x : Ed') : Bool := inB x.f0 1 1099511627776 && (inB x.f1 (-1) 1099511627776 && (inB x.f2 0 1000 && (inB x.f3 1 1000 && (decide (x.f1 = -1) && (decide (x.f2 ≠ 1) || decide (x.f3 ≠ 1))) == false)))
def sumE : List Ed' → Int
 | [] => 0
 | x :: t => x.f0 + sumE t
def edsB (l : List Ed') : Bool := l.all edB && decide (sumE l ≤ 1099511627776)
theorem ed_is {x : Ed'} (h : edB x = true) : 1 ≤ x.f0 ∧ x.f0 ≤ 1099511627776 := by
 unfold edB inB at h
 simp only [Bool.and_eq_true, decide_eq_true_eq] at h
 exact h.1
theorem sumE_app : ∀ a b : List Ed', sumE (a ++ b) = sumE a + sumE b
 | [], b => by simp [sumE]
 | x :: t, b => by simp only [List.cons_append, sumE, sumE_app t b]; omega
theorem sumE_rng : ∀ l : List Ed', (∀ x ∈ l, edB x = true) → 0 ≤ sumE l ∧ sumE l ≤ 1099511627776 * l.length
 | [], _ => by simp [sumE]
 | x :: t, h => by
  have h1 := ed_is (h x (by simp))
  have h2 := sumE_rng t (fun y hy => h y (by simp [hy]))
  simp only [sumE, List.length_cons]
  omega
def depsB (i last : Int) : List Int → Bool
 | [] => true
 | d :: t => decide (last < d) && (decide (d < i) && depsB i d t)
def smV (i before : Int) (s : Sm) : Int :=
 if (inB s.f0 (-1099511627776) 1099511627776 && (inB s.f1 (-1099511627776) 1099511627776 && inB s.f2 0 1099511627776)) = true then
  (if 65536 < s.f5.length ∨ 4 < s.f4.length then 2 else if 0 < i ∧ s.f0 ≤ before then 31 else if (s.f3 = true ∧ 0 < s.f4.length) ∨ depsB i (-1) s.f4 = false then 32 else 0)
 else 1
def smsV : Nat → Int → List Sm → Int
 | _, _, [] => 0
 | i, before, s :: t => if smV i before s = 0 then smsV (i + 1) s.f0 t else smV i before s
def rfsB (l : List Rf) : Bool := l.all (fun r => letB r.f0)
def fldB (id kind : Int) (codec : ByteArray) (scale : Int) (lang name : ByteArray) (pre : Int) : Bool := inB id 1 1000 && (inB kind 1 7 && (letB codec && (inB scale 1 1000000 && (lanB lang && (namB name && inB pre 0 1099511627776)))))
def limB (setup : List Int) (edits : List Ed') (refs : List Rf) (samples : List Sm) : Bool := decide (1000 < setup.length) || (decide (20 < edits.length) || (decide (8 < refs.length) || decide (400 < samples.length)))
def chkT (id kind : Int) (codec : ByteArray) (scale : Int) (setup : List Int) (lang name : ByteArray) (pre : Int) (edits : List Ed') (refs : List Rf) (samples : List Sm) : Int :=
 if (fldB id kind codec scale lang name pre && rfsB refs) = true then (if limB setup edits refs samples = true then 2 else if edsB edits = true then smsV 0 0 samples else 33) else 1
theorem rd_mid {pre : List Int} {x : Int} {rest : List Int} : rd (pre ++ x :: rest) (pre.length : Int) = x := by
 unfold rd
 simp [List.getD_eq_getElem?_getD]
theorem rdE_mid (pre : List Ed') (x : Ed') (rest : List Ed') : rd_T86 (pre ++ x :: rest) (pre.length : Int) = x := by
 unfold rd_T86
 simp [List.getD_eq_getElem?_getD]
theorem rdR_mid (pre : List Rf) (x : Rf) (rest : List Rf) : rd_T68 (pre ++ x :: rest) (pre.length : Int) = x := by
 unfold rd_T68
 simp [List.getD_eq_getElem?_getD]
theorem rdS_mid (pre : List Sm) (x : Sm) (rest : List Sm) : rd_T51 (pre ++ x :: rest) (pre.length : Int) = x := by
 unfold rd_T51
 simp [List.getD_eq_getElem?_getD]
theorem deps_l (i : Int) (l : List Int) (hl : l.length ≤ 4) : ∀ (rest pre : List Int) (last : Int), l = pre ++ rest → Ev (fun k => model_checkSample.l0 k i last l (l.length : Int) (pre.length : Int)) (if depsB i last rest = true then 0 else 32)
 | [], pre, last, h => by
  rw [depsB, if_pos rfl]
  have : l.length = pre.length := by rw [h]; simp
  refine Ev.step (f := fun _ => some 0) (fun k => ?_) (Ev.now _)
  rw [model_checkSample.l0, if_neg (by omega)]
 | d :: t, pre, last, h => by
  have ih := deps_l i l hl t (pre ++ [d]) d (by rw [h]; simp)
  have hlen : l.length = pre.length + (t.length + 1) := by rw [h]; simp
  have hx : rd l (pre.length : Int) = d := by rw [h]; exact rd_mid
  rw [depsB]
  by_cases h1 : last < d
  ·rw [decide_eq_true h1, Bool.true_and]
   by_cases h2 : d < i
   ·rw [decide_eq_true h2, Bool.true_and]
    refine Ev.step (fun k => ?_) ih
    rw [model_checkSample.l0, if_pos (by omega), if_pos (by omega), if_pos (by omega), hx, if_neg (by omega), if_neg (by omega), w64 (by omega) (by omega)]
    simp
   ·rw [decide_eq_false h2, Bool.false_and, if_neg (by decide)]
    refine Ev.step (f := fun _ => some 32) (fun k => ?_) (Ev.now _)
    rw [model_checkSample.l0, if_pos (by omega), if_pos (by omega), if_pos (by omega), hx, if_neg (by omega), if_pos (by omega)]
  ·rw [decide_eq_false h1, Bool.false_and, if_neg (by decide)]
   refine Ev.step (f := fun _ => some 32) (fun k => ?_) (Ev.now _)
   rw [model_checkSample.l0, if_pos (by omega), if_pos (by omega), if_pos (by omega), hx, if_pos (by omega)]
theorem Ev.and {α : Type} {g : Nat → Option Bool} {a c : Nat → Option α} {b : Bool} {v : α} (h : Ev g b) (h1 : b = true → Ev a v) (h2 : b = false → Ev c v) : Ev (fun k => (g k).bind fun t => (if t = true then a k else c k)) v := by
 refine Ev.bind (f := fun k t => if t = true then a k else c k) h ?_
 cases b with
 | true => exact Ev.congr (fun k => if_pos rfl) (h1 rfl)
 | false => exact Ev.congr (fun k => if_neg (by decide)) (h2 rfl)
theorem tick_f (a : Int) : model_tick.f a = some (inB a (-1099511627776) 1099511627776) := by
 unfold model_tick.f
 rw [within_f]
 rfl
theorem checkSample_f (id kind : Int) (codec : ByteArray) (scale : Int) (setup : List Int) (lang name : ByteArray) (pr : Int) (edits : List Ed') (refs : List Rf) (samples : List Sm) (i : Nat) (before : Int) (s : Sm) (hi : i < samples.length) (hn : samples.length ≤ 1000000) (hb : 0 < i → (rd_T51 samples ((i : Int) - 1)).f0 = before) :
  Ev (fun k => model_checkSample.f k id kind codec scale setup lang name pr edits refs samples (i : Int) s.f0 s.f1 s.f2 s.f3 s.f4 s.f5) (smV i before s) := by
 have h0 : ∀ b : Bool, Ev (fun k => model_checkSample.j0 k (i : Int) b id kind codec scale setup lang name pr edits refs samples s.f0 s.f1 s.f2 s.f3 s.f4 s.f5) (if b = true then 1 else if 65536 < s.f5.length ∨ 4 < s.f4.length then 2 else if 0 < (i : Int) ∧ s.f0 ≤ before then 31 else if (s.f3 = true ∧ 0 < s.f4.length) ∨ depsB i (-1) s.f4 = false then 32 else 0) := by
  intro b
  cases b with
  | true =>
   rw [if_pos rfl]
   exact Ev.step (fun k => by rw [model_checkSample.j0]) (Ev.congr (fun k => if_pos rfl) (Ev.now _))
  | false =>
   rw [if_neg (by decide)]
   have j1 : ∀ b : Bool, (b = true ↔ (65536 < s.f5.length ∨ 4 < s.f4.length)) → Ev (fun k => model_checkSample.j1 k (i : Int) b id kind codec scale setup lang name pr edits refs samples s.f0 s.f1 s.f2 s.f3 s.f4 s.f5) (if 65536 < s.f5.length ∨ 4 < s.f4.length then 2 else if 0 < (i : Int) ∧ s.f0 ≤ before then 31 else if (s.f3 = true ∧ 0 < s.f4.length) ∨ depsB i (-1) s.f4 = false then 32 else 0) := by
    intro b hbb
    by_cases h1 : 65536 < s.f5.length ∨ 4 < s.f4.length
    ·rw [if_pos h1, hbb.2 h1]
     exact Ev.step (fun k => by rw [model_checkSample.j1]) (Ev.congr (fun k => if_pos rfl) (Ev.now _))
    ·rw [if_neg h1, Bool.eq_false_iff.2 (fun h => h1 (hbb.1 h))]
     have hl4 : s.f4.length ≤ 4 := by omega
     have hd := deps_l (i : Int) s.f4 hl4 s.f4 [] (-1) rfl
     have j3 : Ev (fun k => model_checkSample.j3 k (i : Int) s.f0 s.f1 s.f2 s.f3 s.f4 s.f5) (if depsB i (-1) s.f4 = true then 0 else 32) := Ev.step (fun k => by rw [model_checkSample.j3]; rfl) hd
     have j2 : ∀ b : Bool, (b = true ↔ (0 < (i : Int) ∧ s.f0 ≤ before)) → Ev (fun k => model_checkSample.j2 k (i : Int) b s.f0 s.f1 s.f2 s.f3 s.f4 s.f5) (if 0 < (i : Int) ∧ s.f0 ≤ before then 31 else if (s.f3 = true ∧ 0 < s.f4.length) ∨ depsB i (-1) s.f4 = false then 32 else 0) := by
      intro b hb2
      by_cases h2 : 0 < (i : Int) ∧ s.f0 ≤ before
      ·rw [if_pos h2, hb2.2 h2]
       exact Ev.step (fun k => by rw [model_checkSample.j2]) (Ev.congr (fun k => if_pos rfl) (Ev.now _))
      ·rw [if_neg h2, Bool.eq_false_iff.2 (fun h => h2 (hb2.1 h))]
       refine Ev.step (fun k => by rw [model_checkSample.j2]) (Ev.congr (fun k => if_neg (by decide)) ?_)
       by_cases h3 : s.f3 = true
       ·refine Ev.congr (fun k => if_pos h3) ?_
        by_cases h4 : 0 < s.f4.length
        ·rw [if_pos (.inl ⟨h3, h4⟩)]
         exact Ev.congr (fun k => if_pos (by omega)) (Ev.now _)
        ·refine Ev.congr (fun k => if_neg (by omega)) ?_
         by_cases h5 : depsB i (-1) s.f4 = true
         ·rw [if_neg (by rintro (⟨_, h⟩ | h) <;> simp_all)]
          rw [if_pos h5] at j3
          exact j3
         ·rw [if_pos (.inr (Bool.eq_false_iff.2 h5))]
          rw [if_neg h5] at j3
          exact j3
       ·refine Ev.congr (fun k => if_neg h3) ?_
        by_cases h5 : depsB i (-1) s.f4 = true
        ·rw [if_neg (by rintro (⟨h, _⟩ | h) <;> simp_all)]
         rw [if_pos h5] at j3
         exact j3
        ·rw [if_pos (.inr (Bool.eq_false_iff.2 h5))]
         rw [if_neg h5] at j3
         exact j3
     refine Ev.step (fun k => by rw [model_checkSample.j1]) (Ev.congr (fun k => if_neg (by decide)) ?_)
     by_cases h2 : 0 < i
     ·have hw : wrap64 ((i : Int) - 1) = (i : Int) - 1 := w64 (by omega) (by omega)
      refine Ev.congr (fun k => if_pos (by omega)) ?_
      rw [hw]
      refine Ev.congr (fun k => if_pos (by omega)) (Ev.congr (fun k => if_pos (by omega)) (j2 _ ?_))
      rw [decide_eq_true_eq, hb h2]
      exact ⟨fun h => ⟨by omega, h⟩, fun h => h.2⟩
     ·refine Ev.congr (fun k => if_neg (by omega)) (j2 _ ?_)
      exact ⟨fun h => by (cases h), fun h => by omega⟩
   refine Ev.step (fun k => by rw [model_checkSample.j0]) (Ev.congr (fun k => if_neg (by decide)) ?_)
   by_cases h1 : 65536 < s.f5.length
   ·exact Ev.congr (fun k => if_pos (by omega)) (j1 _ ⟨fun _ => .inl h1, fun _ => rfl⟩)
   ·refine Ev.congr (fun k => if_neg (by omega)) (j1 _ ?_)
    rw [decide_eq_true_eq]
    omega
 unfold smV
 refine Ev.congr (f := fun k => (some (inB s.f0 (-1099511627776) 1099511627776)).bind fun t => (if t = true then ((some (inB s.f1 (-1099511627776) 1099511627776)).bind fun t => (if t = true then ((some (inB s.f2 0 1099511627776)).bind fun t => (model_checkSample.j0 k (i : Int) (!t) id kind codec scale setup lang name pr edits refs samples s.f0 s.f1 s.f2 s.f3 s.f4 s.f5)) else (model_checkSample.j0 k (i : Int) true id kind codec scale setup lang name pr edits refs samples s.f0 s.f1 s.f2 s.f3 s.f4 s.f5))) else (model_checkSample.j0 k (i : Int) true id kind codec scale setup lang name pr edits refs samples s.f0 s.f1 s.f2 s.f3 s.f4 s.f5))) (fun k => ?_) ?_
 ·unfold model_checkSample.f
  rw [tick_f, tick_f, within_f]
 have off := h0 true
 rw [if_pos rfl] at off
 generalize inB s.f0 (-1099511627776) 1099511627776 = c0
 generalize inB s.f1 (-1099511627776) 1099511627776 = c1
 generalize inB s.f2 0 1099511627776 = c2
 cases c0 with
 | false => exact off
 | true =>
  cases c1 with
  | false => exact off
  | true =>
   cases c2 with
   | false => exact off
   | true => exact h0 false
theorem rdeps_l (i : Int) (l : List Int) (hl : l.length ≤ 4) (a b c : Int) (sy : Bool) (data : List Int) : ∀ (rest pre : List Int) (last : Int), l = pre ++ rest → -1 ≤ last → (pre = [] → last = -1) → (0 < pre.length → rd l ((pre.length : Int) - 1) = last) → Ev (fun k => dioramaref03_sample.l0 k i (pre.length : Int) a b c sy l data) (if depsB i last rest = true then (if sy = true ∧ 0 < l.length then 32 else 0) else 32)
 | [], pre, last, h, _, _, _ => by
  rw [depsB, if_pos rfl]
  have : l.length = pre.length := by rw [h]; simp
  by_cases h1 : sy = true ∧ 0 < l.length
  ·rw [if_pos h1]
   refine Ev.step (f := fun _ => some 32) (fun k => ?_) (Ev.now _)
   rw [dioramaref03_sample.l0, if_neg (by omega), if_pos h1.1, if_pos (by omega)]
  ·rw [if_neg h1]
   refine Ev.step (f := fun _ => some 0) (fun k => ?_) (Ev.now _)
   rw [dioramaref03_sample.l0, if_neg (by omega)]
   by_cases h2 : sy = true
   ·rw [if_pos h2, if_neg (fun hc => h1 ⟨h2, by omega⟩)]
   ·rw [if_neg h2]
 | d :: t, pre, last, h, hlo, h0, hp => by
  have hlen : l.length = pre.length + (t.length + 1) := by rw [h]; simp
  have hx : rd l (pre.length : Int) = d := by rw [h]; exact rd_mid
  have hx2 : rd l (((pre ++ [d]).length : Nat) - 1 : Int) = d := by
   rw [List.length_append]
   simp only [List.length_cons, List.length_nil]
   rw [show ((pre.length + (0 + 1) : Nat) : Int) - 1 = (pre.length : Int) by omega]
   exact hx
  have hw2 : wrap64 ((pre.length : Int) + 1) = ((pre ++ [d]).length : Nat) := by
   rw [w64 (by omega) (by omega)]
   simp
  have hw : 0 < pre.length → wrap64 ((pre.length : Int) - 1) = (pre.length : Int) - 1 := fun _ => w64 (by omega) (by omega)
  rw [depsB]
  by_cases h1 : last < d
  ·rw [decide_eq_true h1, Bool.true_and]
   by_cases h2 : d < i
   ·rw [decide_eq_true h2, Bool.true_and]
    have ih := rdeps_l i l hl a b c sy data t (pre ++ [d]) d (by rw [h]; simp) (by omega) (by simp) (fun _ => hx2)
    refine Ev.step (fun k => ?_) ih
    rw [dioramaref03_sample.l0, if_pos (by omega), if_pos (by omega), hx, if_neg (by omega), if_neg (by omega), hw2]
    by_cases h3 : 0 < pre.length
    ·rw [if_pos (by omega), hw h3, if_pos (by omega), if_pos (by omega), hp h3, if_neg (by omega)]
    ·rw [if_neg (by omega)]
   ·rw [decide_eq_false h2, Bool.false_and, if_neg (by decide)]
    refine Ev.step (f := fun _ => some 32) (fun k => ?_) (Ev.now _)
    rw [dioramaref03_sample.l0, if_pos (by omega), if_pos (by omega), hx, if_neg (by omega), if_pos (by omega)]
  ·rw [decide_eq_false h1, Bool.false_and, if_neg (by decide)]
   refine Ev.step (f := fun _ => some 32) (fun k => ?_) (Ev.now _)
   rw [dioramaref03_sample.l0, if_pos (by omega), if_pos (by omega), hx]
   by_cases h3 : d < 0
   ·rw [if_pos h3]
   ·rw [if_neg h3]
    by_cases h4 : d ≥ i
    ·rw [if_pos h4]
    ·rw [if_neg h4]
     have h5 : 0 < pre.length := by
      refine Nat.pos_of_ne_zero fun hz => ?_
      have := h0 (List.eq_nil_of_length_eq_zero hz)
      omega
     rw [if_pos (by omega), hw h5, if_pos (by omega), if_pos (by omega), hp h5, if_pos (by omega)]
theorem rsample_f (i : Nat) (before : Int) (s : Sm) : Ev (fun k => dioramaref03_sample.f k s.f0 s.f1 s.f2 s.f3 s.f4 s.f5 (i : Int) before) (smV i before s) := by
 have h0 : ∀ b : Bool, Ev (fun k => dioramaref03_sample.j0 k (i : Int) before b s.f0 s.f1 s.f2 s.f3 s.f4 s.f5) (if b = true then 1 else if 65536 < s.f5.length ∨ 4 < s.f4.length then 2 else if 0 < (i : Int) ∧ s.f0 ≤ before then 31 else if (s.f3 = true ∧ 0 < s.f4.length) ∨ depsB i (-1) s.f4 = false then 32 else 0) := by
  intro b
  cases b with
  | true =>
   rw [if_pos rfl]
   exact Ev.step (fun k => by rw [dioramaref03_sample.j0]) (Ev.congr (fun k => if_pos rfl) (Ev.now _))
  | false =>
   rw [if_neg (by decide)]
   have j1 : ∀ b : Bool, (b = true ↔ (65536 < s.f5.length ∨ 4 < s.f4.length)) → Ev (fun k => dioramaref03_sample.j1 k (i : Int) before b s.f0 s.f1 s.f2 s.f3 s.f4 s.f5) (if 65536 < s.f5.length ∨ 4 < s.f4.length then 2 else if 0 < (i : Int) ∧ s.f0 ≤ before then 31 else if (s.f3 = true ∧ 0 < s.f4.length) ∨ depsB i (-1) s.f4 = false then 32 else 0) := by
    intro b hbb
    by_cases h1 : 65536 < s.f5.length ∨ 4 < s.f4.length
    ·rw [if_pos h1, hbb.2 h1]
     exact Ev.step (fun k => by rw [dioramaref03_sample.j1]) (Ev.congr (fun k => if_pos rfl) (Ev.now _))
    ·rw [if_neg h1, Bool.eq_false_iff.2 (fun h => h1 (hbb.1 h))]
     have hl4 : s.f4.length ≤ 4 := by omega
     have hd := rdeps_l (i : Int) s.f4 hl4 s.f0 s.f1 s.f2 s.f3 s.f5 s.f4 [] (-1) rfl (by omega) (fun _ => rfl) (fun h => by cases h)
     have j2 : ∀ b : Bool, (b = true ↔ (0 < (i : Int) ∧ s.f0 ≤ before)) → Ev (fun k => dioramaref03_sample.j2 k (i : Int) b s.f0 s.f1 s.f2 s.f3 s.f4 s.f5) (if 0 < (i : Int) ∧ s.f0 ≤ before then 31 else if (s.f3 = true ∧ 0 < s.f4.length) ∨ depsB i (-1) s.f4 = false then 32 else 0) := by
      intro b hb2
      by_cases h2 : 0 < (i : Int) ∧ s.f0 ≤ before
      ·rw [if_pos h2, hb2.2 h2]
       exact Ev.step (fun k => by rw [dioramaref03_sample.j2]) (Ev.congr (fun k => if_pos rfl) (Ev.now _))
      ·rw [if_neg h2, Bool.eq_false_iff.2 (fun h => h2 (hb2.1 h))]
       refine Ev.step (f := fun k => dioramaref03_sample.l0 k (i : Int) (([] : List Int).length : Int) s.f0 s.f1 s.f2 s.f3 s.f4 s.f5) (fun k => by rw [dioramaref03_sample.j2, if_neg (by decide)]; rfl) ?_
       by_cases h5 : depsB i (-1) s.f4 = true
       ·rw [if_pos h5] at hd
        by_cases h4 : s.f3 = true ∧ 0 < s.f4.length
        ·rw [if_pos h4] at hd
         rw [if_pos (.inl h4)]
         exact hd
        ·rw [if_neg h4] at hd
         rw [if_neg (by rintro (h | h) <;> simp_all)]
         exact hd
       ·rw [if_neg h5] at hd
        rw [if_pos (.inr (Bool.eq_false_iff.2 h5))]
        exact hd
     refine Ev.step (fun k => by rw [dioramaref03_sample.j1]) (Ev.congr (fun k => if_neg (by decide)) ?_)
     by_cases h2 : 0 < i
     ·refine Ev.congr (fun k => if_pos (by omega)) (j2 _ ?_)
      rw [decide_eq_true_eq]
      exact ⟨fun h => ⟨by omega, h⟩, fun h => h.2⟩
     ·refine Ev.congr (fun k => if_neg (by omega)) (j2 _ ?_)
      exact ⟨fun h => by (cases h), fun h => by omega⟩
   refine Ev.step (fun k => by rw [dioramaref03_sample.j0]) (Ev.congr (fun k => if_neg (by decide)) ?_)
   by_cases h1 : 65536 < s.f5.length
   ·exact Ev.congr (fun k => if_pos (by omega)) (j1 _ ⟨fun _ => .inl h1, fun _ => rfl⟩)
   ·refine Ev.congr (fun k => if_neg (by omega)) (j1 _ ?_)
    rw [decide_eq_true_eq]
    omega
 unfold smV
 refine Ev.congr (f := fun k => (some (inB s.f0 (-1099511627776) 1099511627776)).bind fun t => (if t = true then ((some (inB s.f1 (-1099511627776) 1099511627776)).bind fun t => (if t = true then ((some (inB s.f2 0 1099511627776)).bind fun t => (dioramaref03_sample.j0 k (i : Int) before (!t) s.f0 s.f1 s.f2 s.f3 s.f4 s.f5)) else (dioramaref03_sample.j0 k (i : Int) before true s.f0 s.f1 s.f2 s.f3 s.f4 s.f5))) else (dioramaref03_sample.j0 k (i : Int) before true s.f0 s.f1 s.f2 s.f3 s.f4 s.f5))) (fun k => ?_) ?_
 ·unfold dioramaref03_sample.f
  rw [rin_f, rin_f, rin_f]
 have off := h0 true
 rw [if_pos rfl] at off
 generalize inB s.f0 (-1099511627776) 1099511627776 = c0
 generalize inB s.f1 (-1099511627776) 1099511627776 = c1
 generalize inB s.f2 0 1099511627776 = c2
 cases c0 with
 | false => exact off
 | true =>
  cases c1 with
  | false => exact off
  | true =>
   cases c2 with
   | false => exact off
   | true => exact h0 false
theorem redits_l (l : List Ed') (hl : l.length ≤ 20) : ∀ (rest pre : List Ed'), l = pre ++ rest → (∀ x ∈ pre, edB x = true) → Ev (fun k => dioramaref03_edits.l0 k l (sumE pre) (pre.length : Int)) (rest.all edB && decide (sumE l ≤ 1099511627776))
 | [], pre, h, _ => by
  have e : l.length = pre.length := by rw [h]; simp
  have e2 : sumE pre = sumE l := by rw [h, List.append_nil]
  refine Ev.step (f := fun _ => some (decide (sumE l ≤ 1099511627776))) (fun k => ?_) (by simpa using Ev.now _)
  rw [dioramaref03_edits.l0, if_neg (by omega), e2]
 | x :: t, pre, h, hp => by
  have hlen : l.length = pre.length + (t.length + 1) := by rw [h]; simp
  have hx : rd_T86 l (pre.length : Int) = x := by rw [h]; exact rdE_mid pre x t
  have hs := sumE_rng pre hp
  have bad : ∀ (b : Bool) (acc : Int), (b = true ∨ (x.f1 = -1 ∧ (x.f2 ≠ 1 ∨ x.f3 ≠ 1))) → Ev (fun k => dioramaref03_edits.j1 k l acc (pre.length : Int) b x.f0 x.f1 x.f2 x.f3) false := by
   intro b acc hb
   refine Ev.step (f := fun _ => some false) (fun k => ?_) (Ev.now _)
   rw [dioramaref03_edits.j1]
   rcases hb with hb | ⟨h1, h2⟩
   ·rw [if_pos hb]
   ·by_cases hb2 : b = true
    ·rw [if_pos hb2]
    ·rw [if_neg hb2, if_pos h1]
     by_cases h3 : x.f2 = 1
     ·rw [if_pos h3, if_neg (h2.resolve_left (fun hc => hc h3))]
     ·rw [if_neg h3]
  refine Ev.congr (f := fun k => dioramaref03_edits.l0 k l (sumE pre) (pre.length : Int)) (fun _ => rfl) ?_
  refine Ev.step (f := fun k => (some (inB x.f0 1 1099511627776)).bind fun t => (if t = true then ((some (inB x.f1 (-1) 1099511627776)).bind fun t => (if t = true then ((some (inB x.f2 0 1000)).bind fun t => (if t = true then ((some (inB x.f3 1 1000)).bind fun t => (dioramaref03_edits.j1 k l (sumE pre) (pre.length : Int) (!t) x.f0 x.f1 x.f2 x.f3)) else (dioramaref03_edits.j1 k l (sumE pre) (pre.length : Int) true x.f0 x.f1 x.f2 x.f3))) else (dioramaref03_edits.j1 k l (sumE pre) (pre.length : Int) true x.f0 x.f1 x.f2 x.f3))) else (dioramaref03_edits.j1 k l (sumE pre) (pre.length : Int) true x.f0 x.f1 x.f2 x.f3))) (fun k => ?_) ?_
  ·rw [dioramaref03_edits.l0, if_pos (by omega), if_pos (by omega), hx, rin_f, rin_f, rin_f, rin_f]
  by_cases hv : edB x = true
  ·have hf := ed_is hv
   have ih := redits_l l hl t (pre ++ [x]) (by rw [h]; simp) (fun y hy => by
    rcases List.mem_append.1 hy with h | h
    ·exact hp y h
    ·rw [List.mem_singleton.1 h]; exact hv)
   rw [List.all_cons, hv, Bool.true_and]
   unfold edB at hv
   simp only [Bool.and_eq_true] at hv
   obtain ⟨v0, v1, v2, v3, v4⟩ := hv
   rw [v0, v1, v2, v3]
   refine Ev.step (fun k => ?_) ih
   show dioramaref03_edits.j1 (k + 1) l (sumE pre) (pre.length : Int) false x.f0 x.f1 x.f2 x.f3 = _
   have e1 : wrap64 (sumE pre + x.f0) = sumE (pre ++ [x]) := by
    rw [w64 (by omega) (by omega), sumE_app]
    simp [sumE]
   have e2 : wrap64 ((pre.length : Int) + 1) = ((pre ++ [x]).length : Nat) := by
    rw [w64 (by omega) (by omega)]
    simp
   rw [dioramaref03_edits.j1, if_neg (by decide), e1, e2]
   simp only [beq_iff_eq, Bool.and_eq_false_iff, decide_eq_false_iff_not, Bool.or_eq_false_iff, ne_eq, Decidable.not_not] at v4
   by_cases h1 : x.f1 = -1
   ·rw [if_pos h1]
    rcases v4 with v4 | v4
    ·exact absurd h1 v4
    ·rw [if_pos v4.1, if_pos v4.2]
   ·rw [if_neg h1]
  ·rw [List.all_cons, Bool.eq_false_iff.2 hv, Bool.false_and, Bool.false_and]
   unfold edB at hv
   cases c0 : inB x.f0 1 1099511627776 with
   | false => exact bad _ _ (.inl rfl)
   | true =>
    cases c1 : inB x.f1 (-1) 1099511627776 with
    | false => exact bad _ _ (.inl rfl)
    | true =>
     cases c2 : inB x.f2 0 1000 with
     | false => exact bad _ _ (.inl rfl)
     | true =>
      cases c3 : inB x.f3 1 1000 with
      | false => exact bad _ _ (.inl rfl)
      | true =>
       rw [c0, c1, c2, c3] at hv
       refine bad _ _ (.inr ?_)
       simp only [Bool.true_and, beq_iff_eq, Bool.not_eq_false, Bool.and_eq_true, decide_eq_true_eq, Bool.or_eq_true] at hv
       exact hv
theorem redits_f (l : List Ed') (hl : l.length ≤ 20) : Ev (fun k => dioramaref03_edits.f k l) (edsB l) := redits_l l hl l [] rfl (by simp)
section
variable (id kind : Int) (codec : ByteArray) (scale : Int) (setup : List Int) (lang name : ByteArray) (pr : Int) (edits : List Ed') (refs : List Rf) (samples : List Sm)
theorem rrefs_l (hrl : refs.length ≤ maxLen) (hr : ∀ r ∈ refs, Bs r.f0) : ∀ (rest pre : List Rf), refs = pre ++ rest → Ev (fun k => dioramaref03_fields.l0 k (pre.length : Int) id kind codec scale setup lang name pr edits refs samples) (rfsB rest)
 | [], pre, h => by
  have e : refs.length = pre.length := by rw [h]; simp
  refine Ev.step (f := fun _ => some true) (fun k => ?_) (Ev.now _)
  rw [dioramaref03_fields.l0, if_neg (by omega)]
 | x :: t, pre, h => by
  have hlen : refs.length = pre.length + (t.length + 1) := by rw [h]; simp
  have hx : rd_T68 refs (pre.length : Int) = x := by rw [h]; exact rdR_mid pre x t
  have hm := max_is
  have e2 : wrap64 ((pre.length : Int) + 1) = ((pre ++ [x]).length : Nat) := by
   rw [w64 (by omega) (by omega)]
   simp
  refine Ev.step (f := fun k => (dioramaref03_Letters.f k x.f0).bind fun t => (if t = true then (dioramaref03_fields.l0 k ((pre ++ [x]).length : Nat) id kind codec scale setup lang name pr edits refs samples) else (some false))) (fun k => ?_) ?_
  ·rw [dioramaref03_fields.l0, if_pos (by omega), if_pos (by omega), hx, e2]
  ·refine Ev.and (rletters_f x.f0 (hr x (by rw [h]; simp))) (fun hb => ?_) (fun hb => ?_)
   ·have ih := rrefs_l hrl hr t (pre ++ [x]) (by rw [h]; simp)
    rw [show rfsB (x :: t) = rfsB t by unfold rfsB; rw [List.all_cons, hb, Bool.true_and]]
    exact ih
   ·rw [show rfsB (x :: t) = false by unfold rfsB; rw [List.all_cons, hb, Bool.false_and]]
    exact Ev.now _
theorem rfields_f (h1 : Bs codec) (h2 : Bs lang) (h3 : Bs name) (hrl : refs.length ≤ maxLen) (hr : ∀ r ∈ refs, Bs r.f0) : Ev (fun k => dioramaref03_fields.f k id kind codec scale setup lang name pr edits refs samples) (fldB id kind codec scale lang name pr && rfsB refs) := by
 have off : Ev (fun k => dioramaref03_fields.j0 k true id kind codec scale setup lang name pr edits refs samples) false := Ev.step (fun k => by rw [dioramaref03_fields.j0]) (Ev.congr (fun k => if_pos rfl) (Ev.now _))
 have on : Ev (fun k => dioramaref03_fields.j0 k false id kind codec scale setup lang name pr edits refs samples) (rfsB refs) := by
  refine Ev.step (fun k => ?_) (rrefs_l id kind codec scale setup lang name pr edits refs samples hrl hr refs [] rfl)
  rw [dioramaref03_fields.j0, if_neg (by decide)]
  rfl
 unfold fldB
 unfold dioramaref03_fields.f
 simp only [rin_f, Option.bind_some]
 cases c0 : inB id 1 1000 with
 | false => exact Ev.congr (fun k => if_neg (by decide)) off
 | true =>
 refine Ev.congr (fun k => if_pos rfl) ?_
 cases c1 : inB kind 1 7 with
 | false => exact Ev.congr (fun k => if_neg (by decide)) off
 | true =>
 refine Ev.congr (fun k => if_pos rfl) (Ev.and (rletters_f codec h1) (fun c2 => ?_) (fun c2 => by rw [c2]; exact off))
 rw [c2]
 cases c3 : inB scale 1 1000000 with
 | false => exact Ev.congr (fun k => if_neg (by decide)) off
 | true =>
 refine Ev.congr (fun k => if_pos rfl) (Ev.and (rlang_f lang h2) (fun c4 => ?_) (fun c4 => by rw [c4]; exact off))
 rw [c4]
 refine Ev.and (rname_f name h3) (fun c5 => ?_) (fun c5 => by rw [c5]; exact off)
 rw [c5]
 cases c6 : inB pr 0 1099511627776 with
 | false => exact off
 | true => exact on
theorem rsamples_l (hn : samples.length ≤ 400) : ∀ (rest pre : List Sm) (before : Int), samples = pre ++ rest → Ev (fun k => dioramaref03_CheckTrack.l0 k before (pre.length : Int) id kind codec scale setup lang name pr edits refs samples) (smsV pre.length before rest)
 | [], pre, before, h => by
  have e : samples.length = pre.length := by rw [h]; simp
  refine Ev.step (f := fun _ => some 0) (fun k => ?_) (Ev.now _)
  rw [dioramaref03_CheckTrack.l0, if_neg (by omega)]
 | x :: t, pre, before, h => by
  have hlen : samples.length = pre.length + (t.length + 1) := by rw [h]; simp
  have hx : rd_T51 samples (pre.length : Int) = x := by rw [h]; exact rdS_mid pre x t
  have ih := rsamples_l hn t (pre ++ [x]) x.f0 (by rw [h]; simp)
  have e2 : wrap64 ((pre.length : Int) + 1) = ((pre ++ [x]).length : Nat) := by
   rw [w64 (by omega) (by omega)]
   simp
  refine Ev.step (f := fun k => (dioramaref03_sample.f k x.f0 x.f1 x.f2 x.f3 x.f4 x.f5 (pre.length : Int) before).bind fun t => (if t = 0 then (dioramaref03_CheckTrack.l0 k x.f0 ((pre ++ [x]).length : Nat) id kind codec scale setup lang name pr edits refs samples) else (some t))) (fun k => ?_) ?_
  ·rw [dioramaref03_CheckTrack.l0, if_pos (by omega), if_pos (by omega), hx, e2]
  ·refine Ev.bind (rsample_f pre.length before x) ?_
   rw [smsV]
   by_cases h0 : smV (pre.length : Int) before x = 0
   ·rw [if_pos h0]
    refine Ev.congr (fun k => if_pos h0) ?_
    have e3 : (pre ++ [x]).length = pre.length + 1 := by simp
    rw [← e3]
    exact ih
   ·rw [if_neg h0]
    exact Ev.congr (fun k => if_neg h0) (Ev.now _)
theorem rCheckTrack_f (h1 : Bs codec) (h2 : Bs lang) (h3 : Bs name) (hrl : refs.length ≤ maxLen) (hr : ∀ r ∈ refs, Bs r.f0) : Ev (fun k => dioramaref03_CheckTrack.f k id kind codec scale setup lang name pr edits refs samples) (chkT id kind codec scale setup lang name pr edits refs samples) := by
 have hj : ∀ b : Bool, b = limB setup edits refs samples → Ev (fun k => dioramaref03_CheckTrack.j0 k b id kind codec scale setup lang name pr edits refs samples) (if limB setup edits refs samples = true then 2 else if edsB edits = true then smsV 0 0 samples else 33) := by
  intro b hb
  rw [← hb]
  cases b with
  | true =>
   rw [if_pos rfl]
   exact Ev.step (fun k => by rw [dioramaref03_CheckTrack.j0]) (Ev.congr (fun k => if_pos rfl) (Ev.now _))
  | false =>
   rw [if_neg (by decide)]
   have hb2 := hb.symm
   unfold limB at hb2
   simp only [Bool.or_eq_false_iff, decide_eq_false_iff_not] at hb2
   refine Ev.step (fun k => by rw [dioramaref03_CheckTrack.j0]) (Ev.congr (fun k => if_neg (by decide)) ?_)
   refine Ev.and (redits_f edits (by omega)) (fun hb => ?_) (fun hb => ?_)
   ·rw [if_pos hb]
    exact rsamples_l id kind codec scale setup lang name pr edits refs samples (by omega) samples [] 0 rfl
   ·rw [if_neg (by rw [hb]; decide)]
    exact Ev.now _
 unfold chkT
 refine Ev.congr (fun k => rfl) (Ev.and (rfields_f id kind codec scale setup lang name pr edits refs samples h1 h2 h3 hrl hr) (fun hb => ?_) (fun hb => ?_))
 ·rw [if_pos hb]
  by_cases h1 : 1000 < setup.length
  ·exact Ev.congr (fun k => if_pos (by omega)) (hj true (by unfold limB; rw [decide_eq_true h1]; rfl))
  refine Ev.congr (fun k => if_neg (by omega)) ?_
  by_cases h2 : 20 < edits.length
  ·exact Ev.congr (fun k => if_pos (by omega)) (hj true (by unfold limB; rw [decide_eq_false h1, decide_eq_true h2]; rfl))
  refine Ev.congr (fun k => if_neg (by omega)) ?_
  by_cases h3 : 8 < refs.length
  ·exact Ev.congr (fun k => if_pos (by omega)) (hj true (by unfold limB; rw [decide_eq_false h1, decide_eq_false h2, decide_eq_true h3]; rfl))
  refine Ev.congr (fun k => if_neg (by omega)) (hj _ ?_)
  unfold limB
  rw [decide_eq_false h1, decide_eq_false h2, decide_eq_false h3, Bool.false_or, Bool.false_or, Bool.false_or, Bool.eq_iff_iff, decide_eq_true_eq, decide_eq_true_eq]
  omega
 ·rw [if_neg (by rw [hb]; decide)]
  exact Ev.now _
end
end Go.Proofs.Ytknklchmpohjfaa.Tk
namespace Go.Proofs.Ytknklchmpohjfaa.Nd
open Go.RowKit Go Go.Proofs.YtknklchmpohjfaaW.PrintWords Go.Proofs.YtknklchmpohjfaaW.PrintLast Go.Proofs.YtknklchmpohjfaaW.PrintMore Go.Proofs.Ytknklchmpohjfaa.Ml
set_option linter.unusedVariables false
def Mag (w : World) (v : Value) (l : List Int) : Prop := ∃ A c, v = .slice A l.length c ∧ l.length ≤ c ∧ Kd.C (Kd.int .u32) w A l.length l
theorem Mag.of {w : World} {e base : Nat} {ok : Nat → Prop} {v : Value} {l : List Int} (h : Kd.V (Kd.int .u32) e w base ok v l) : Mag w v l := by
 obtain ⟨A, c, rfl, hc, hf⟩ := h
 exact ⟨A, c, rfl, hc, Kd.F_now hf⟩
theorem Mag.ofR {w : World} {e base : Nat} {ok : Nat → Prop} {v : Value} {l : List Int} (h : Kd.R (Kd.int .u32) e w base ok v l) : Mag w v l := Kd.R_reads h
theorem Mag.nil (w : World) : Mag w (.slice none 0 0) [] := ⟨none, 0, rfl, Nat.le_refl _, Kd.C_nil _ _⟩
theorem Mag.slice {w : World} {v : Value} {l : List Int} (h : Mag w v l) : ∃ A c, v = .slice A l.length c ∧ l.length ≤ c ∧ Kd.C (Kd.int .u32) w A l.length l := h
theorem Mag.step {w w' : World} {v : Value} {l : List Int} (h : Mag w v l) (hs : ∀ (a : Addr) (x : Int), w.cell? a = some (.int .u32 x) → w'.cell? a = some (.int .u32 x)) : Mag w' v l := by
 obtain ⟨A, c, rfl, hc, h1, h2, h3⟩ := h
 refine ⟨A, c, rfl, hc, h1, h2, fun hp => ?_⟩
 obtain ⟨ad, ha, hcell⟩ := h3 hp
 refine ⟨ad, ha, fun j p hj => ?_⟩
 obtain ⟨cs, hl, hK, hcc⟩ := hcell j p hj
 have hK' : cs = [.int .u32 p] := hK
 subst hK'
 refine ⟨_, hl, hK, fun i u hu => ?_⟩
 match i, hu with
 | 0, hu =>
  simp at hu
  subst hu
  exact hs _ _ (hcc 0 _ rfl)
theorem lt_of_some {w : World} {k : Nat} {o : Obj} (h : w.heap[k]? = some o) : k < w.heap.size := (Array.getElem?_eq_some_iff.1 h).1
theorem Mag.below {w w' : World} {v : Value} {l : List Int} (h : Mag w v l) (hb : Below w.heap.size w w') : Mag w' v l := h.step (fun a x hc => pw_cell_below hb hc)
theorem below_drew' {w w' : World} (h : Below w.drew.heap.size w.drew w') : Below w.heap.size w w' := ⟨h.os, h.tape, h.output, h.size, h.block⟩
def sg (neg : Bool) (x : Int) : Int := if neg then -x else x
structure Slot (w : World) (g o : Nat) (neg : Bool) (v : Value) : Prop where mk ::
 at_ : ∃ cells t, w.heap[g]? = some (.cells cells t (0, 0)) ∧ (∃ A n c, v = .slice A n c) ∧ cells[o]? = some (.bool neg) ∧ cells[o + 1]? = some v
def Room (w : World) (g o : Nat) : Prop := ∃ neg v, Slot w g o neg v
structure IsN (w : World) (g o : Nat) (z : Int) (n : Nat) : Prop where mk ::
 at_ : ∃ neg v l, Slot w g o neg v ∧ Mag w v l ∧ Cn 4294967296 l ∧ l.length ≤ n ∧ z = sg neg (dv 4294967296 l) ∧ (neg = true → l ≠ [])
theorem IsN.room {w : World} {g o : Nat} {z : Int} {n : Nat} (h : IsN w g o z n) : Room w g o := by
 obtain ⟨neg, v, l, hs, _⟩ := h.at_
 exact ⟨neg, v, hs⟩
theorem IsN.mono {w : World} {g o : Nat} {z : Int} {n m : Nat} (h : IsN w g o z n) (hm : n ≤ m) : IsN w g o z m := by
 obtain ⟨neg, v, l, h1, h2, h3, h4, h5⟩ := h.at_
 exact ⟨neg, v, l, h1, h2, h3, by omega, h5⟩
theorem Slot.lt {w : World} {g o : Nat} {neg : Bool} {v : Value} (h : Slot w g o neg v) : g < w.heap.size := by
 obtain ⟨cells, t, h1, _⟩ := h.at_
 exact lt_of_some h1
theorem Room.lt {w : World} {g o : Nat} (h : Room w g o) : g < w.heap.size := by
 obtain ⟨_, _, h⟩ := h
 exact h.lt
theorem IsN.lt {w : World} {g o : Nat} {z : Int} {n : Nat} (h : IsN w g o z n) : g < w.heap.size := h.room.lt
theorem blk_cells {w : World} {g : Nat} {cells : Array Value} {t : TypeId} (h : w.heap[g]? = some (.cells cells t (0, 0))) (o : Nat) {v : Value} (hv : cells[o]? = some v) : w.cell? ⟨g, o, none⟩ = some v := by
 rw [blk_cell h o]; exact hv
theorem Slot.cell0 {w : World} {g o : Nat} {neg : Bool} {v : Value} (h : Slot w g o neg v) : w.cell? ⟨g, o, none⟩ = some (.bool neg) := by
 obtain ⟨cells, t, h1, _, h2, _⟩ := h.at_
 exact blk_cells h1 o h2
theorem Slot.cell1 {w : World} {g o : Nat} {neg : Bool} {v : Value} (h : Slot w g o neg v) : w.cell? ⟨g, o + 1, none⟩ = some v := by
 obtain ⟨cells, t, h1, _, _, h2⟩ := h.at_
 exact blk_cells h1 (o + 1) h2
theorem Slot.free {w : World} {g o : Nat} {neg : Bool} {v : Value} (h : Slot w g o neg v) (j : Nat) : w.frozen? ⟨g, j, none⟩ = false := by
 obtain ⟨cells, t, h1, _⟩ := h.at_
 exact blk_frozen h1 j
theorem Slot.below {w w' : World} {g o : Nat} {neg : Bool} {v : Value} (h : Slot w g o neg v) (hb : Below w.heap.size w w') : Slot w' g o neg v := by
 obtain ⟨cells, t, h1, h2⟩ := h.at_
 exact ⟨cells, t, (hb.block g (lt_of_some h1)).trans h1, h2⟩
theorem Room.below {w w' : World} {g o : Nat} (h : Room w g o) (hb : Below w.heap.size w w') : Room w' g o := by
 obtain ⟨neg, v, h⟩ := h
 exact ⟨neg, v, h.below hb⟩
theorem IsN.below {w w' : World} {g o : Nat} {z : Int} {n : Nat} (h : IsN w g o z n) (hb : Below w.heap.size w w') : IsN w' g o z n := by
 obtain ⟨neg, v, l, h1, h2, h3⟩ := h.at_
 exact ⟨neg, v, l, h1.below hb, h2.below hb, h3⟩
structure Wrote (w w' : World) (g o : Nat) : Prop where
 os : w'.os = w.os
 tape : w'.tape = w.tape
 output : w'.output = w.output
 size : w.heap.size ≤ w'.heap.size
 other : ∀ k, k < w.heap.size → k ≠ g → w'.heap[k]? = w.heap[k]?
 own : ∀ cells t fr, w.heap[g]? = some (.cells cells t fr) → ∃ cells', w'.heap[g]? = some (.cells cells' t fr) ∧ cells'.size = cells.size ∧ ∀ j, j ≠ o → j ≠ o + 1 → cells'[j]? = cells[j]?
theorem Wrote.of_below {w w' : World} (h : Below w.heap.size w w') (g o : Nat) : Wrote w w' g o :=
 ⟨h.os, h.tape, h.output, h.size, fun k hk _ => h.block k hk, fun cells t fr hc => ⟨cells, (h.block g (lt_of_some hc)).trans hc, rfl, fun _ _ _ => rfl⟩⟩
theorem Wrote.trans {a b c : World} {g o : Nat} (h : Wrote a b g o) (k : Wrote b c g o) : Wrote a c g o :=
 ⟨k.os.trans h.os, k.tape.trans h.tape, k.output.trans h.output, Nat.le_trans h.size k.size, fun i hi hne => (k.other i (Nat.lt_of_lt_of_le hi h.size) hne).trans (h.other i hi hne), fun cells t fr hc => by
  obtain ⟨c1, h1, h2, h3⟩ := h.own cells t fr hc
  obtain ⟨c2, k1, k2, k3⟩ := k.own c1 t fr h1
  exact ⟨c2, k1, k2.trans h2, fun j h4 h5 => (k3 j h4 h5).trans (h3 j h4 h5)⟩⟩
theorem Wrote.below {w w' : World} {g o B : Nat} (h : Wrote w w' g o) (hB : B ≤ g) (hs : B ≤ w.heap.size) : Below B w w' :=
 ⟨h.os, h.tape, h.output, h.size, fun k hk => h.other k (by omega) (by omega)⟩
theorem Wrote.mag {w w' : World} {g o : Nat} (h : Wrote w w' g o) (hr : Room w g o) {v : Value} {l : List Int} (hm : Mag w v l) : Mag w' v l := by
 obtain ⟨_, _, hs⟩ := hr
 obtain ⟨cells, t, h1, ⟨A, n, c, rfl⟩, h3, h4⟩ := hs.at_
 refine hm.step (fun a x hc => ?_)
 by_cases e : a.block = g
 ·obtain ⟨c', k1, k2, k3⟩ := h.own _ _ _ h1
  unfold World.cell? at hc ⊢
  rw [e] at hc ⊢
  rw [h1] at hc
  rw [k1]
  simp only at hc ⊢
  by_cases hsp : a.spot.isSome
  ·simp [hsp] at hc
  ·rw [if_neg hsp] at hc ⊢
   by_cases e1 : a.off = o
   ·rw [e1, h3] at hc
    simp at hc
   ·by_cases e2 : a.off = o + 1
    ·rw [e2, h4] at hc
     simp at hc
    ·rw [k3 _ e1 e2]
     exact hc
 ·have hlt := World.block_lt_of_cell? w a hc
  rw [World.cell?_of_block (w := w) (h.other a.block hlt e)]
  exact hc
theorem Wrote.slot {w w' : World} {g o : Nat} (h : Wrote w w' g o) {g2 o2 : Nat} {neg : Bool} {v : Value} (hs : Slot w g2 o2 neg v) (hne : g2 ≠ g ∨ (o2 ≠ o ∧ o2 ≠ o + 1 ∧ o2 + 1 ≠ o)) : Slot w' g2 o2 neg v := by
 obtain ⟨cells, t, h1, h2, h3, h4⟩ := hs.at_
 by_cases e : g2 = g
 ·subst e
  obtain ⟨c', k1, k2, k3⟩ := h.own _ _ _ h1
  exact ⟨c', t, k1, h2, (k3 o2 (by omega) (by omega)).trans h3, (k3 (o2 + 1) (by omega) (by omega)).trans h4⟩
 ·exact ⟨cells, t, (h.other g2 (lt_of_some h1) e).trans h1, h2, h3, h4⟩
theorem Wrote.isN {w w' : World} {g o : Nat} (h : Wrote w w' g o) (hr : Room w g o) {g2 o2 : Nat} {z : Int} {n : Nat} (hs : IsN w g2 o2 z n) (hne : g2 ≠ g ∨ (o2 ≠ o ∧ o2 ≠ o + 1 ∧ o2 + 1 ≠ o)) : IsN w' g2 o2 z n := by
 obtain ⟨neg, v, l, h1, h2, h3⟩ := hs.at_
 exact ⟨neg, v, l, h.slot h1 hne, h.mag hr h2, h3⟩
theorem Wrote.set {w : World} {g o : Nat} {neg : Bool} {v : Value} (hs : Slot w g o neg v) (neg' : Bool) (A : Option Addr) (n c : Nat) (k : Nat) {v' : Value} (hv' : v' = .slice A n c) :
  Wrote w (((w.setCell ⟨g, o, none⟩ (.bool neg')).setCell ⟨g, o + 1, none⟩ v').drewN k) g o ∧ Slot (((w.setCell ⟨g, o, none⟩ (.bool neg')).setCell ⟨g, o + 1, none⟩ v').drewN k) g o neg' v' := by
 obtain ⟨cells, t, h1, h2, h3, h4⟩ := hs.at_
 have e3 := (Array.getElem?_eq_some_iff.1 h3).1
 have e4 := (Array.getElem?_eq_some_iff.1 h4).1
 have hb : (((w.setCell ⟨g, o, none⟩ (.bool neg')).setCell ⟨g, o + 1, none⟩ v').drewN k).heap[g]? = some (.cells ((cells.setIfInBounds o (.bool neg')).setIfInBounds (o + 1) v') t (0, 0)) := by
  refine blk_drewN ?_ k
  refine blk_put ?_ (o + 1) v' rfl
  exact blk_put h1 o _ rfl
 constructor
 ·refine ⟨?_, ?_, ?_, ?_, ?_, ?_⟩
  ·exact (pw_below_drewN (B := 0) (w := w) (W := (w.setCell ⟨g, o, none⟩ (.bool neg')).setCell ⟨g, o + 1, none⟩ v') (((Below.refl 0 w).setCell (Nat.zero_le _) _).setCell (Nat.zero_le _) _) k).os
  ·exact (pw_below_drewN (B := 0) (w := w) (W := (w.setCell ⟨g, o, none⟩ (.bool neg')).setCell ⟨g, o + 1, none⟩ v') (((Below.refl 0 w).setCell (Nat.zero_le _) _).setCell (Nat.zero_le _) _) k).tape
  ·exact (pw_below_drewN (B := 0) (w := w) (W := (w.setCell ⟨g, o, none⟩ (.bool neg')).setCell ⟨g, o + 1, none⟩ v') (((Below.refl 0 w).setCell (Nat.zero_le _) _).setCell (Nat.zero_le _) _) k).output
  ·exact (pw_below_drewN (B := 0) (w := w) (W := (w.setCell ⟨g, o, none⟩ (.bool neg')).setCell ⟨g, o + 1, none⟩ v') (((Below.refl 0 w).setCell (Nat.zero_le _) _).setCell (Nat.zero_le _) _) k).size
  ·intro j hj hne
   show (((w.setCell ⟨g, o, none⟩ (.bool neg')).setCell ⟨g, o + 1, none⟩ v')).heap[j]? = _
   rw [Below.heap_setCell _ _ _ _ hne, Below.heap_setCell _ _ _ _ hne]
  ·intro c t' fr hc
   rw [h1] at hc
   injection hc with hc
   injection hc with e1 e2 e5
   subst e1; subst e2; subst e5
   refine ⟨_, hb, by simp, fun j h5 h6 => ?_⟩
   rw [Array.getElem?_setIfInBounds_ne (by omega), Array.getElem?_setIfInBounds_ne (by omega)]
 ·refine ⟨_, t, hb, ⟨A, n, c, hv'⟩, ?_, ?_⟩
  ·rw [Array.getElem?_setIfInBounds_ne (by omega), Array.getElem?_setIfInBounds_self_of_lt e3]
  ·rw [Array.getElem?_setIfInBounds_self_of_lt (by simpa using e4)]
theorem own_cell {k : IntKind} {e base : Nat} {ok : Nat → Prop} {W : World} {g n cap : Nat} {xs : List Int} (h : Kd.R (Kd.int k) e W base ok (.slice (some ⟨g, 0, none⟩) n cap) xs) (i : Nat) (hi : i < n) : W.cell? ⟨g, i, none⟩ = some (.int k (xs.getD i 0)) ∧ W.frozen? ⟨g, i, none⟩ = false := by
 have := Kd.R_celln (0 : Int) h (i : Int) (by omega) (by omega)
 simpa [rdOf] using this
theorem own_put {k : IntKind} {e base : Nat} {ok : Nat → Prop} {W : World} {g n cap : Nat} {xs : List Int} (h : Kd.R (Kd.int k) e W base ok (.slice (some ⟨g, 0, none⟩) n cap) xs) (i : Nat) (x : Int) : Kd.R (Kd.int k) e (W.setCell ⟨g, i, none⟩ (.int k x)) base ok (.slice (some ⟨g, 0, none⟩) n cap) (xs.set i x) := by
 have := (Kd.R_putg h (i : Int) x).1
 rw [Int.toNat_natCast] at this
 exact this
theorem mag_cell {k : IntKind} {W w : World} {A : Option Addr} {n : Nat} {xs : List Int} (h : Kd.C (Kd.int k) w A n xs) (hb : Below w.heap.size w W) (i : Nat) (hi : i < n) : ∃ ad, A = some ad ∧ W.cell? (ad.add i) = some (.int k (xs.getD i 0)) := by
 obtain ⟨ad, e, hc⟩ := Kd.at_int h (i : Int) (by omega) (by omega)
 refine ⟨ad, e, ?_⟩
 have := pw_cell_below hb hc
 simpa [rd] using this
def SetP (w : World) (g o : Nat) (z : Int) (n : Nat) (e : Ending) (w' : World) : Prop := e = .returned (.pointer (some ⟨g, o, none⟩)) ∧ Wrote w w' g o ∧ IsN w' g o z n
def NewP (w : World) (z : Int) (n : Nat) (e : Ending) (w' : World) : Prop := ∃ g, w.heap.size ≤ g ∧ e = .returned (.pointer (some ⟨g, 0, none⟩)) ∧ Below w.heap.size w w' ∧ IsN w' g 0 z n
def ValP (w : World) (v : Value) (e : Ending) (w' : World) : Prop := e = .returned v ∧ Below w.heap.size w w'
theorem sg_mul (a b : Bool) (x y : Int) : sg (!a == b) (x * y) = sg a x * sg b y := by cases a <;> cases b <;> simp [sg, Int.neg_mul, Int.mul_neg]
theorem IsN.open {w : World} {g o : Nat} {z : Int} {n : Nat} (h : IsN w g o z n) : ∃ neg A c l, Slot w g o neg (.slice A l.length c) ∧ l.length ≤ c ∧ Kd.C (Kd.int .u32) w A l.length l ∧ Cn 4294967296 l ∧ l.length ≤ n ∧ z = sg neg (dv 4294967296 l) ∧ (neg = true → l ≠ []) := by
 obtain ⟨neg, v, l, h1, ⟨A, c, rfl, h2, h3⟩, h4, h5, h6, h7⟩ := h.at_
 exact ⟨neg, A, c, l, h1, h2, h3, h4, h5, h6, h7⟩
theorem sg_abs {neg : Bool} {x z : Int} (hx : 0 ≤ x) (h : z = sg neg x) : ((z.natAbs : Nat) : Int) = x := by
 cases neg <;> simp [sg] at h <;> omega
def cmpI (a b : Int) : Int := if a < b then -1 else if b < a then 1 else 0
theorem ret_i {k : IntKind} {a b : Int} (h : a = b) : Ending.returned (.int k a) = Ending.returned (.int k b) := by rw [h]
theorem ret_b {a b : Bool} (h : a = b) : Ending.returned (.bool a) = Ending.returned (.bool b) := by rw [h]
structure IsW (w : World) (g o : Nat) (z : Int) (n : Nat) : Prop where mk ::
 at_ : ∃ neg A c l, Slot w g o neg (.slice A l.length c) ∧ l.length ≤ c ∧ Kd.C (Kd.int .u32) w A l.length l ∧ Cn 4294967296 l ∧ l.length ≤ n ∧ z = sg neg (dv 4294967296 l)
theorem IsN.w {w : World} {g o : Nat} {z : Int} {n : Nat} (h : IsN w g o z n) : IsW w g o z n := by
 obtain ⟨neg, A, c, l, h1, h2, h3, h4, h5, h6, _⟩ := h.open
 exact ⟨neg, A, c, l, h1, h2, h3, h4, h5, h6⟩
end Go.Proofs.Ytknklchmpohjfaa.Nd
namespace Go.Proofs.Ytknklchmpohjfaa.Tw
open Go.RowKit Go Go.Proofs.YtknklchmpohjfaaW.PrintWords Go.Proofs.YtknklchmpohjfaaW.PrintLast Go.Proofs.YtknklchmpohjfaaW.PrintMore Go.Proofs.Ytknklchmpohjfaa.Mn Go.Proofs.Ytknklchmpohjfaa.Nd Go.Proofs.Ytknklchmpohjfaa.Z Go.Proofs.Ytknklchmpohjfaa.E Go.Proofs.Ytknklchmpohjfaa.Tk
attribute [local go_sem] max2_int min2_int
set_option linter.unusedVariables false
set_option linter.unusedSimpArgs false
theorem ten_cells {w : World} {g : Nat} {t : TypeId} {a0 a1 a2 a3 a4 a5 a6 a7 a8 a9 aa : Value} (h : w.heap[g]? = some (.cells #[a0, a1, a2, a3, a4, a5, a6, a7, a8, a9, aa] t (0, 0))) :
  w.cell? ⟨g, 0, none⟩ = some a0 ∧ w.cell? ⟨g, 1, none⟩ = some a1 ∧ w.cell? ⟨g, 2, none⟩ = some a2 ∧ w.cell? ⟨g, 3, none⟩ = some a3 ∧ w.cell? ⟨g, 4, none⟩ = some a4 ∧ w.cell? ⟨g, 5, none⟩ = some a5 ∧ w.cell? ⟨g, 6, none⟩ = some a6 ∧ w.cell? ⟨g, 7, none⟩ = some a7 ∧ w.cell? ⟨g, 8, none⟩ = some a8 ∧ w.cell? ⟨g, 9, none⟩ = some a9 ∧ w.cell? ⟨g, 10, none⟩ = some aa :=
 ⟨(blk_cell h 0).trans rfl, (blk_cell h 1).trans rfl, (blk_cell h 2).trans rfl, (blk_cell h 3).trans rfl, (blk_cell h 4).trans rfl, (blk_cell h 5).trans rfl, (blk_cell h 6).trans rfl, (blk_cell h 7).trans rfl, (blk_cell h 8).trans rfl, (blk_cell h 9).trans rfl, (blk_cell h 10).trans rfl⟩
structure Bt (w W : World) (cells : Array Value) : Prop where
 c : W.heap[w.heap.size]? = some (.cells cells 40 (0, 0))
 below : Below w.heap.size w W
theorem Bt.start (w : World) (cells : Array Value) : Bt w (w.alloc (.cells cells 40 (0, 0))) cells := ⟨blk_new w _, below_alloc (Below.refl _ w) _⟩
theorem Bt.step {w W W2 : World} {cells : Array Value} (h : Bt w W cells) (hb : Below W.heap.size W W2) : Bt w W2 cells := ⟨blk_below h.c hb, h.below.trans (hb.mono h.below.size)⟩
def okB (codec lang name : ByteArray) (refs : List Rf) : Bool := decide (codec.size ≤ maxLen) && (decide (lang.size ≤ maxLen) && (decide (name.size ≤ maxLen) && (decide (refs.length ≤ maxLen) && refs.all (fun r => decide (r.f0.size ≤ maxLen)))))
theorem letters_n (s : ByteArray) (hs : Bs s) (w : World) : Calls Try.prog 50 #[.string s, .int .i64 4, .bool true] w (ValP w (.bool (letB s))) := by
 obtain ⟨k, hk⟩ := (letters_f s hs).rounds
 refine (model_letters.calls k s 4 true _ w hk).mono ?_
 rintro e w' ⟨rfl, hb⟩
 exact ⟨rfl, Drawn0.below hb⟩
theorem lang_n (s : ByteArray) (hs : Bs s) (w : World) : Calls Try.prog 50 #[.string s, .int .i64 3, .bool false] w (ValP w (.bool (lanB s))) := by
 obtain ⟨k, hk⟩ := (lang_f s hs).rounds
 refine (model_letters.calls k s 3 false _ w hk).mono ?_
 rintro e w' ⟨rfl, hb⟩
 exact ⟨rfl, Drawn0.below hb⟩
theorem name_n (s : ByteArray) (hs : Bs s) (w : World) : Calls Try.prog 31 #[.string s] w (ValP w (.bool (namB s))) := by
 obtain ⟨k, hk⟩ := (name_f s hs).rounds
 refine (model_isName.calls k s _ w hk).mono ?_
 rintro e w' ⟨rfl, hb⟩
 exact ⟨rfl, Drawn0.below hb⟩
theorem within_n (a lo hi : Int) (w : World) : Calls Try.prog 30 #[.int .i64 a, .int .i64 lo, .int .i64 hi] w (ValP w (.bool (inB a lo hi))) := by
 refine (model_within.calls a lo hi _ w (within_f a lo hi)).mono ?_
 rintro e w' ⟨rfl, hb⟩
 exact ⟨rfl, Drawn0.below hb⟩
section
variable (id kind : Int) (codec : ByteArray) (scale : Int) (A4 : Option Addr) (c4 : Nat) (setup : List Int) (lang name : ByteArray) (pr : Int) (A8 : Option Addr) (c8 : Nat) (edits : List Ed') (A9 : Option Addr) (c9 : Nat) (refs : List Rf) (A10 : Option Addr) (c10 : Nat) (samples : List Sm)
structure Hd (W : World) : Prop where
 s : Kd.C (Kd.int .u8) W A4 setup.length setup
 e : Kd.C k86 W A8 edits.length edits
 r : Kd.C k68 W A9 refs.length refs
 p : Kd.C k51 W A10 samples.length samples
theorem Hd.below {w W : World} (h : Hd A4 setup A8 edits A9 refs A10 samples w) (hb : Below w.heap.size w W) : Hd A4 setup A8 edits A9 refs A10 samples W := ⟨Kd.C_below h.s hb, Kd.C_below h.e hb, Kd.C_below h.r hb, Kd.C_below h.p hb⟩
theorem sample_n (hc4 : setup.length ≤ c4) (hc8 : edits.length ≤ c8) (hc9 : refs.length ≤ c9) (hc10 : samples.length ≤ c10) (i : Int) (before : Int) (X : Sm) (B4 : Option Addr) (d4 : Nat) (B5 : Option Addr) (d5 : Nat) (h0 : 0 ≤ i) (h1 : i < (samples.length : Int)) (hn : samples.length ≤ 1000000) (hb : 0 < i → (rd_T51 samples (i - 1)).f0 = before) (W : World) (h : Hd A4 setup A8 edits A9 refs A10 samples W) (k4 : X.f4.length ≤ d4) (g4 : Kd.C (Kd.int .i64) W B4 X.f4.length X.f4) (k5 : X.f5.length ≤ d5) (g5 : Kd.C (Kd.int .u8) W B5 X.f5.length X.f5) :
  Calls Try.prog 51 #[.agg #[.int .i64 id, .int .i64 kind, .string codec, .int .i64 scale, .slice A4 setup.length c4, .string lang, .string name, .int .i64 pr, .slice A8 edits.length c8, .slice A9 refs.length c9, .slice A10 samples.length c10], .int .i64 i, .agg #[.int .i64 X.f0, .int .i64 X.f1, .int .i64 X.f2, .bool X.f3, .slice B4 X.f4.length d4, .slice B5 X.f5.length d5]] W (ValP W (.int .i64 (smV i before X))) := by
 obtain ⟨j, rfl⟩ : ∃ j : Nat, i = j := ⟨i.toNat, by omega⟩
 obtain ⟨k, hk⟩ := (checkSample_f id kind codec scale setup lang name pr edits refs samples j before X (by omega) hn (fun hj => hb (by omega))).rounds
 exact model_checkSample.calls k id kind codec scale A4 c4 setup lang name pr A8 c8 edits A9 c9 refs A10 c10 samples j X.f0 X.f1 X.f2 X.f3 B4 d4 X.f4 B5 d5 X.f5 _ W h.s hc4 h.e hc8 h.r hc9 h.p hc10 g4 k4 g5 k5 hk
theorem smsV_drop {i before : Int} (h0 : 0 ≤ i) (h1 : i < (samples.length : Int)) : smsV i.toNat before (samples.drop i.toNat) = if smV i before (rd_T51 samples i) = 0 then smsV (i + 1).toNat (rd_T51 samples i).f0 (samples.drop (i + 1).toNat) else smV i before (rd_T51 samples i) := by
 have hn : i.toNat < samples.length := by omega
 have hi : (i + 1).toNat = i.toNat + 1 := by omega
 have hg : rd_T51 samples i = samples[i.toNat] := by
  unfold rd_T51
  rw [List.getD_eq_getElem?_getD, List.getElem?_eq_getElem hn]
  rfl
 have he : ((i.toNat : Nat) : Int) = i := by omega
 rw [hi, hg, List.drop_eq_getElem_cons hn, smsV, he]
theorem refs_drop {i : Int} (h0 : 0 ≤ i) (h1 : i < (refs.length : Int)) : rfsB (refs.drop i.toNat) = (letB (rd_T68 refs i).f0 && rfsB (refs.drop (i + 1).toNat)) ∧ rd_T68 refs i ∈ refs := by
 have hn : i.toNat < refs.length := by omega
 have hi : (i + 1).toNat = i.toNat + 1 := by omega
 have hg : rd_T68 refs i = refs[i.toNat] := by
  unfold rd_T68
  rw [List.getD_eq_getElem?_getD, List.getElem?_eq_getElem hn]
  rfl
 rw [hi, hg, List.drop_eq_getElem_cons hn]
 exact ⟨rfl, List.getElem_mem hn⟩
def edsR (s : Int) (l : List Ed') : Bool := l.all edB && decide (s + sumE l ≤ 1099511627776)
theorem eds_drop {i s : Int} (h0 : 0 ≤ i) (h1 : i < (edits.length : Int)) : edsR s (edits.drop i.toNat) = (edB (rd_T86 edits i) && edsR (s + (rd_T86 edits i).f0) (edits.drop (i + 1).toNat)) := by
 have hn : i.toNat < edits.length := by omega
 have hi : (i + 1).toNat = i.toNat + 1 := by omega
 have hg : rd_T86 edits i = edits[i.toNat] := by
  unfold rd_T86
  rw [List.getD_eq_getElem?_getD, List.getElem?_eq_getElem hn]
  rfl
 rw [hi, hg, List.drop_eq_getElem_cons hn]
 unfold edsR
 rw [List.all_cons, sumE, Bool.and_assoc, Int.add_assoc]
def empB (X : Ed') : Bool := decide (X.f1 = -1) && (decide (X.f2 ≠ 1) || decide (X.f3 ≠ 1))
theorem edB_is (X : Ed') : edB X = (inB X.f0 1 1099511627776 && (inB X.f1 (-1) 1099511627776 && (inB X.f2 0 1000 && (inB X.f3 1 1000 && !(empB X))))) := by
 unfold edB empB
 cases (decide (X.f1 = -1) && (decide (X.f2 ≠ 1) || decide (X.f3 ≠ 1))) <;> rfl
set_option maxHeartbeats 16000000 in
set_option maxRecDepth 100000 in
theorem check_track_n (hok : okB codec lang name refs = true) (hc4 : setup.length ≤ c4) (hc8 : edits.length ≤ c8) (hc9 : refs.length ≤ c9) (hc10 : samples.length ≤ c10) (w : World) (hh : Hd A4 setup A8 edits A9 refs A10 samples w) :
  Calls Try.prog 26 #[.agg #[.int .i64 id, .int .i64 kind, .string codec, .int .i64 scale, .slice A4 setup.length c4, .string lang, .string name, .int .i64 pr, .slice A8 edits.length c8, .slice A9 refs.length c9, .slice A10 samples.length c10]] w (ValP w (.int .i64 (chkT id kind codec scale setup lang name pr edits refs samples))) := by
 have hu := Try.underlying40
 have hu2 := Try.underlying86
 have hu3 := Try.underlying51
 have hu4 := Try.underlying68
 unfold okB at hok
 simp only [Bool.and_eq_true, decide_eq_true_eq, List.all_eq_true] at hok
 have HS := Aside0.mk hok
 have HH := Aside0.mk hh
 have HN := Aside0.mk (And.intro hc4 (And.intro hc8 (And.intro hc9 hc10)))
 have HV := Aside0.mk (show chkT id kind codec scale setup lang name pr edits refs samples = if (fldB id kind codec scale lang name pr && rfsB refs) = true then (if limB setup edits refs samples = true then 2 else if edsB edits = true then smsV 0 0 samples else 33) else 1 from rfl)
 generalize chkT id kind codec scale setup lang name pr edits refs samples = V at *
 clear hok hc4 hc8 hc9 hc10 hh
 go_enter Try.func26, Try.ntmps26
 go_upto_region 1 with (first | ((with_reducible refine gate_dst (N := 1) rfl ?_); refine zB 1 40 #[.int .i64 id, .int .i64 kind, .string codec, .int .i64 scale, .slice A4 setup.length c4, .string lang, .string name, .int .i64 pr, .slice A8 edits.length c8, .slice A9 refs.length c9, .slice A10 samples.length c10] ?_; intro gb hg W0 hbox hb; subst hg; have HB := Aside0.mk (show Bt w W0 #[.int .i64 id, .int .i64 kind, .string codec, .int .i64 scale, .slice A4 setup.length c4, .string lang, .string name, .int .i64 pr, .slice A8 edits.length c8, .slice A9 refs.length c9, .slice A10 samples.length c10] from ⟨hbox, hb⟩); clear hbox hb))
 obtain ⟨q0, q1, q2, q3, q4, q5, q6, q7, q8, q9, qa⟩ := ten_cells HB.out.c
 go_wp2_with fail
 refine (within_n id 1 1000 W0).mono ?_
 rintro e W1 ⟨rfl, hb1⟩
 have HB1 := Aside0.mk (HB.out.step hb1)
 clear hb1 HB q0 q1 q2 q3 q4 q5 q6 q7 q8 q9 qa
 obtain ⟨b1, hb1⟩ : ∃ b : Bool, b = inB id 1 1000 := ⟨_, rfl⟩
 rw [← hb1]
 cases b1 with
 | false =>
  have HV2 := Aside0.mk (show V = 1 by rw [HV.out]; unfold fldB; rw [← hb1]; simp)
  clear HV hb1
  go_wp2_with fail
  go_ret
  exact ⟨ret_i HV2.out.symm, HB1.out.below⟩
 | true =>
 have HT1 := Aside0.mk hb1
 clear hb1
 obtain ⟨q0, q1, q2, q3, q4, q5, q6, q7, q8, q9, qa⟩ := ten_cells HB1.out.c
 go_wp2_with fail
 refine (within_n kind 1 7 W1).mono ?_
 rintro e W2 ⟨rfl, hb2⟩
 have HB2 := Aside0.mk (HB1.out.step hb2)
 clear hb2 HB1 q0 q1 q2 q3 q4 q5 q6 q7 q8 q9 qa
 obtain ⟨b2, hb2⟩ : ∃ b : Bool, b = inB kind 1 7 := ⟨_, rfl⟩
 rw [← hb2]
 cases b2 with
 | false =>
  have HV2 := Aside0.mk (show V = 1 by rw [HV.out]; unfold fldB; rw [← hb2]; simp)
  clear HV hb2
  go_wp2_with fail
  go_ret
  exact ⟨ret_i HV2.out.symm, HB2.out.below⟩
 | true =>
 have HT2 := Aside0.mk hb2
 clear hb2
 obtain ⟨q0, q1, q2, q3, q4, q5, q6, q7, q8, q9, qa⟩ := ten_cells HB2.out.c
 go_wp2_with fail
 refine (letters_n codec HS.out.1 W2).mono ?_
 rintro e W3 ⟨rfl, hb3⟩
 have HB3 := Aside0.mk (HB2.out.step hb3)
 clear hb3 HB2 q0 q1 q2 q3 q4 q5 q6 q7 q8 q9 qa
 obtain ⟨b3, hb3⟩ : ∃ b : Bool, b = letB codec := ⟨_, rfl⟩
 rw [← hb3]
 cases b3 with
 | false =>
  have HV2 := Aside0.mk (show V = 1 by rw [HV.out]; unfold fldB; rw [← hb3]; simp)
  clear HV hb3
  go_wp2_with fail
  go_ret
  exact ⟨ret_i HV2.out.symm, HB3.out.below⟩
 | true =>
 have HT3 := Aside0.mk hb3
 clear hb3
 obtain ⟨q0, q1, q2, q3, q4, q5, q6, q7, q8, q9, qa⟩ := ten_cells HB3.out.c
 go_wp2_with fail
 refine (within_n scale 1 1000000 W3).mono ?_
 rintro e W4 ⟨rfl, hb4⟩
 have HB4 := Aside0.mk (HB3.out.step hb4)
 clear hb4 HB3 q0 q1 q2 q3 q4 q5 q6 q7 q8 q9 qa
 obtain ⟨b4, hb4⟩ : ∃ b : Bool, b = inB scale 1 1000000 := ⟨_, rfl⟩
 rw [← hb4]
 cases b4 with
 | false =>
  have HV2 := Aside0.mk (show V = 1 by rw [HV.out]; unfold fldB; rw [← hb4]; simp)
  clear HV hb4
  go_wp2_with fail
  go_ret
  exact ⟨ret_i HV2.out.symm, HB4.out.below⟩
 | true =>
 have HT4 := Aside0.mk hb4
 clear hb4
 obtain ⟨q0, q1, q2, q3, q4, q5, q6, q7, q8, q9, qa⟩ := ten_cells HB4.out.c
 go_wp2_with fail
 refine (lang_n lang HS.out.2.1 W4).mono ?_
 rintro e W5 ⟨rfl, hb5⟩
 have HB5 := Aside0.mk (HB4.out.step hb5)
 clear hb5 HB4 q0 q1 q2 q3 q4 q5 q6 q7 q8 q9 qa
 obtain ⟨b5, hb5⟩ : ∃ b : Bool, b = lanB lang := ⟨_, rfl⟩
 rw [← hb5]
 cases b5 with
 | false =>
  have HV2 := Aside0.mk (show V = 1 by rw [HV.out]; unfold fldB; rw [← hb5]; simp)
  clear HV hb5
  go_wp2_with fail
  go_ret
  exact ⟨ret_i HV2.out.symm, HB5.out.below⟩
 | true =>
 have HT5 := Aside0.mk hb5
 clear hb5
 obtain ⟨q0, q1, q2, q3, q4, q5, q6, q7, q8, q9, qa⟩ := ten_cells HB5.out.c
 go_wp2_with fail
 refine (name_n name HS.out.2.2.1 W5).mono ?_
 rintro e W6 ⟨rfl, hb6⟩
 have HB6 := Aside0.mk (HB5.out.step hb6)
 clear hb6 HB5 q0 q1 q2 q3 q4 q5 q6 q7 q8 q9 qa
 obtain ⟨b6, hb6⟩ : ∃ b : Bool, b = namB name := ⟨_, rfl⟩
 rw [← hb6]
 cases b6 with
 | false =>
  have HV2 := Aside0.mk (show V = 1 by rw [HV.out]; unfold fldB; rw [← hb6]; simp)
  clear HV hb6
  go_wp2_with fail
  go_ret
  exact ⟨ret_i HV2.out.symm, HB6.out.below⟩
 | true =>
 have HT6 := Aside0.mk hb6
 clear hb6
 obtain ⟨q0, q1, q2, q3, q4, q5, q6, q7, q8, q9, qa⟩ := ten_cells HB6.out.c
 go_wp2_with fail
 refine (within_n pr 0 1099511627776 W6).mono ?_
 rintro e W7 ⟨rfl, hb7⟩
 have HB7 := Aside0.mk (HB6.out.step hb7)
 clear hb7 HB6 q0 q1 q2 q3 q4 q5 q6 q7 q8 q9 qa
 obtain ⟨b7, hb7⟩ : ∃ b : Bool, b = inB pr 0 1099511627776 := ⟨_, rfl⟩
 rw [← hb7]
 cases b7 with
 | false =>
  have HV2 := Aside0.mk (show V = 1 by rw [HV.out]; unfold fldB; rw [← hb7]; simp)
  clear HV hb7
  go_wp2_with fail
  go_ret
  exact ⟨ret_i HV2.out.symm, HB7.out.below⟩
 | true =>
 have HT7 := Aside0.mk hb7
 clear hb7
 have HV2 := Aside0.mk (show V = if rfsB (refs.drop (0 : Int).toNat) = true then (if limB setup edits refs samples = true then 2 else if edsB edits = true then smsV 0 0 samples else 33) else 1 by
  rw [HV.out]
  unfold fldB
  rw [← HT1.out, ← HT2.out, ← HT3.out, ← HT4.out, ← HT5.out, ← HT6.out, ← HT7.out]
  simp)
 clear HV HT1 HT2 HT3 HT4 HT5 HT6 HT7
 obtain ⟨q0, q1, q2, q3, q4, q5, q6, q7, q8, q9, qa⟩ := ten_cells HB7.out.c
 go_wp2_with fail
 clear q0 q1 q2 q3 q4 q5 q6 q7 q8 q9 qa
 go_loopg [55] refs.length (fun kq v55 w' => ∃ i : Int, v55 = .int .i64 i ∧ Aside0 (0 ≤ i ∧ i + kq = refs.length ∧ V = if rfsB (refs.drop i.toNat) = true then (if limB setup edits refs samples = true then 2 else if edsB edits = true then smsV 0 0 samples else 33) else 1) ∧ Aside0 (Bt w w' #[.int .i64 id, .int .i64 kind, .string codec, .int .i64 scale, .slice A4 setup.length c4, .string lang, .string name, .int .i64 pr, .slice A8 edits.length c8, .slice A9 refs.length c9, .slice A10 samples.length c10]))
 case atStart => exact ⟨0, rfl, ⟨by simp, by simp, HV2.out⟩, ⟨HB7.out⟩⟩
 case round =>
  clear HB7 HV2
  obtain ⟨i, rfl, hi, hB⟩ := hrel
  by_cases hlt : i < (refs.length : Int)
  ·have hlb : decide (i < (refs.length : Int)) = true := decide_eq_true hlt
   have p0 := hi.out.1
   obtain ⟨ad, hA, r0, r1⟩ := at_T68 (Kd.C_below HH.out.r hB.out.below) i p0 hlt
   have HD := Aside0.mk (refs_drop refs p0 hlt)
   obtain ⟨k1, rfl⟩ : ∃ k, gk = k + 1 := ⟨gk - 1, by have := hi.out; omega⟩
   have hwi : wrap64 (i + 1) = i + 1 := by
    have := HS.out.2.2.2.1
    unfold maxLen at this
    exact w64 (by omega) (by omega)
   have HW := Aside0.mk (And.intro hwi (show 0 ≤ i + 1 ∧ i + 1 + (k1 : Int) = refs.length by have := hi.out.2.1; omega))
   have HV3 := Aside0.mk hi.out.2.2
   subst hA
   generalize rd_T68 refs i = X at *
   have HX := Aside0.mk (HS.out.2.2.2.2 X HD.out.2)
   replace p0 := eq_true p0
   replace hlt := eq_true hlt
   have HB4 := Aside0.mk (hB.out.step (below_alloc (Below.refl wr.heap.size wr) (.cells #[.string X.f0, .int .i64 X.f1] 68 (0, 0))))
   clear hwi hi hB
   go_wp2_with fail
   generalize World.alloc wr _ = W2 at *
   have HB5 := HB4
   clear HB4 r0 r1
   refine (letters_n X.f0 HX.out W2).mono ?_
   rintro e W3 ⟨rfl, hb3⟩
   have HB6 := Aside0.mk (HB5.out.step hb3)
   clear hb3 HB5
   obtain ⟨b, hb⟩ : ∃ b : Bool, b = letB X.f0 := ⟨_, rfl⟩
   rw [← hb]
   cases b with
   | false =>
    have HV4 := Aside0.mk (show V = 1 by rw [HV3.out, HD.out.1, ← hb]; simp)
    clear HV3 hb
    go_wp2_with fail
    go_ret
    exact ⟨ret_i HV4.out.symm, HB6.out.below⟩
   | true =>
    have HV4 := Aside0.mk (show V = if rfsB (refs.drop (i + 1).toNat) = true then (if limB setup edits refs samples = true then 2 else if edsB edits = true then smsV 0 0 samples else 33) else 1 by rw [HV3.out, HD.out.1, ← hb]; simp)
    clear HV3 hb
    go_wp2_with fail
    go_roundg k1
    case measure => omega
    case rel => exact ⟨i + 1, by rw [HW.out.1], ⟨HW.out.2.1, HW.out.2.2, HV4.out⟩, ⟨HB6.out⟩⟩
  ·have hlb : decide (i < (refs.length : Int)) = false := decide_eq_false hlt
   have HV3 := Aside0.mk (show V = if limB setup edits refs samples = true then 2 else if edsB edits = true then smsV 0 0 samples else 33 by
    rw [hi.out.2.2, List.drop_of_length_le (by have := hi.out; omega)]
    simp [rfsB])
   replace hlt := eq_false hlt
   clear hi
   obtain ⟨q0, q1, q2, q3, q4, q5, q6, q7, q8, q9, qa⟩ := ten_cells hB.out.c
   obtain ⟨bl, hbl⟩ : ∃ b : Bool, b = limB setup edits refs samples := ⟨_, rfl⟩
   cases bl with
   | true =>
    have HV4 := Aside0.mk (show V = 2 by rw [HV3.out, ← hbl]; simp)
    have hb2 := hbl
    unfold limB at hb2
    clear HV3 hbl
    by_cases l1 : 1000 < setup.length
    ·have m1 : decide ((setup.length : Int) > 1000) = true := decide_eq_true (by omega)
     clear hb2 l1
     go_wp2_with fail
     go_ret
     exact ⟨ret_i HV4.out.symm, hB.out.below⟩
    have m1 : decide ((setup.length : Int) > 1000) = false := decide_eq_false (by omega)
    by_cases l2 : 20 < edits.length
    ·have m2 : decide ((edits.length : Int) > 20) = true := decide_eq_true (by omega)
     clear hb2 l1 l2
     go_wp2_with fail
     go_ret
     exact ⟨ret_i HV4.out.symm, hB.out.below⟩
    have m2 : decide ((edits.length : Int) > 20) = false := decide_eq_false (by omega)
    by_cases l3 : 8 < refs.length
    ·have m3 : decide ((refs.length : Int) > 8) = true := decide_eq_true (by omega)
     clear hb2 l1 l2 l3
     go_wp2_with fail
     go_ret
     exact ⟨ret_i HV4.out.symm, hB.out.below⟩
    have m3 : decide ((refs.length : Int) > 8) = false := decide_eq_false (by omega)
    have m4 : decide ((samples.length : Int) > 400) = true := decide_eq_true (by simp only [l1, l2, l3, decide_false, Bool.false_or] at hb2; have := of_decide_eq_true hb2.symm; omega)
    clear hb2 l1 l2 l3
    go_wp2_with fail
    go_ret
    exact ⟨ret_i HV4.out.symm, hB.out.below⟩
   | false =>
   have HL := Aside0.mk (show setup.length ≤ 1000 ∧ edits.length ≤ 20 ∧ refs.length ≤ 8 ∧ samples.length ≤ 400 by
    unfold limB at hbl
    have h := hbl.symm
    simp only [Bool.or_eq_false_iff, decide_eq_false_iff_not] at h
    omega)
   have HV4 := Aside0.mk (show V = if edsR 0 (edits.drop (0 : Int).toNat) = true then smsV 0 0 samples else 33 by
    rw [HV3.out, ← hbl, if_neg (by decide)]
    unfold edsB edsR
    simp)
   clear HV3 hbl
   have m1 : decide ((setup.length : Int) > 1000) = false := decide_eq_false (by have := HL.out; omega)
   have m2 : decide ((edits.length : Int) > 20) = false := decide_eq_false (by have := HL.out; omega)
   have m3 : decide ((refs.length : Int) > 8) = false := decide_eq_false (by have := HL.out; omega)
   have m4 : decide ((samples.length : Int) > 400) = false := decide_eq_false (by have := HL.out; omega)
   go_wp2_with fail
   clear q0 q1 q2 q3 q4 q5 q6 q7 q8 q9 qa m1 m2 m3 m4
   have HB7 := hB
   clear hB
   go_loopg [5, 89] edits.length (fun kq v5 v89 w' => ∃ s i : Int, v5 = .int .i64 s ∧ v89 = .int .i64 i ∧ Aside0 (0 ≤ i ∧ i + kq = edits.length ∧ V = if edsR s (edits.drop i.toNat) = true then smsV 0 0 samples else 33) ∧ Aside0 (0 ≤ s ∧ s ≤ 1099511627776 * i) ∧ Aside0 (Bt w w' #[.int .i64 id, .int .i64 kind, .string codec, .int .i64 scale, .slice A4 setup.length c4, .string lang, .string name, .int .i64 pr, .slice A8 edits.length c8, .slice A9 refs.length c9, .slice A10 samples.length c10]))
   case atStart => exact ⟨0, 0, rfl, rfl, ⟨by simp, by simp, HV4.out⟩, ⟨by simp⟩, ⟨HB7.out⟩⟩
   case round =>
    clear HB7 HV4
    obtain ⟨s, i, rfl, rfl, hi, hs, hB⟩ := hrel
    by_cases hlt : i < (edits.length : Int)
    ·have hlb : decide (i < (edits.length : Int)) = true := decide_eq_true hlt
     have p0 := hi.out.1
     obtain ⟨ad, hA, r0, r1, r2, r3⟩ := at_T86 (Kd.C_below HH.out.e hB.out.below) i p0 hlt
     have HD := Aside0.mk (eds_drop edits (s := s) p0 hlt)
     obtain ⟨k1, rfl⟩ : ∃ k, gk = k + 1 := ⟨gk - 1, by have := hi.out; omega⟩
     have hwi : wrap64 (i + 1) = i + 1 := by
      have := HL.out
      exact w64 (by omega) (by omega)
     have HW := Aside0.mk (And.intro hwi (show 0 ≤ i + 1 ∧ i + 1 + (k1 : Int) = edits.length by have := hi.out.2.1; omega))
     have HV3 := Aside0.mk hi.out.2.2
     have HI := Aside0.mk (show 0 ≤ s ∧ s ≤ 1099511627776 * i ∧ 0 ≤ i ∧ i ≤ 20 by have := hs.out; have := HL.out; omega)
     subst hA
     generalize rd_T86 edits i = X at *
     replace p0 := eq_true p0
     replace hlt := eq_true hlt
     have HB4 := Aside0.mk (hB.out.step (below_alloc (Below.refl wr.heap.size wr) (.cells #[.int .i64 X.f0, .int .i64 X.f1, .int .i64 X.f2, .int .i64 X.f3] 86 (0, 0))))
     have HE4 := Aside0.mk (blk_new wr (.cells #[.int .i64 X.f0, .int .i64 X.f1, .int .i64 X.f2, .int .i64 X.f3] 86 (0, 0)))
     clear hwi hi hB hs
     go_upto_region 16 with fail
     generalize World.alloc wr _ = W2 at *
     have HB5 := HB4
     have HE5 := HE4
     clear HB4 HE4 r0 r1 r2 r3
     generalize wr.heap.size = gE at *
     have e0 : W2.cell? ⟨gE, 0, none⟩ = some (.int .i64 X.f0) := (blk_cell HE5.out 0).trans rfl
     have e1 : W2.cell? ⟨gE, 1, none⟩ = some (.int .i64 X.f1) := (blk_cell HE5.out 1).trans rfl
     have e2 : W2.cell? ⟨gE, 2, none⟩ = some (.int .i64 X.f2) := (blk_cell HE5.out 2).trans rfl
     have e3 : W2.cell? ⟨gE, 3, none⟩ = some (.int .i64 X.f3) := (blk_cell HE5.out 3).trans rfl
     go_cut [8] (fun v8 wc => v8 = .bool (empB X) ∧ W2 = wc)
     case first =>
      by_cases f1 : X.f1 = -1
      ·have b1 : (X.f1 == -1) = true := by rw [f1]; rfl
       by_cases f2 : X.f2 = 1
       ·have b2 : (X.f2 != 1) = false := by rw [f2]; rfl
        have HE := Aside0.mk (show empB X = (X.f3 != 1) by unfold empB; rw [f1, f2]; simp [bne]; rfl)
        clear f1 f2
        go_wp2_with fail
        go_meet
        case rel => exact ⟨by rw [HE.out], rfl⟩
       ·have b2 : (X.f2 != 1) = true := by simpa using f2
        have HE := Aside0.mk (show empB X = true by unfold empB; rw [f1]; simp [f2])
        clear f1 f2
        go_wp2_with fail
        go_meet
        case rel => exact ⟨by rw [HE.out], rfl⟩
      ·have b1 : (X.f1 == -1) = false := by simpa using f1
       have HE := Aside0.mk (show empB X = false by unfold empB; simp [f1])
       clear f1
       go_wp2_with fail
       go_meet
       case rel => exact ⟨by rw [HE.out], rfl⟩
     case rest =>
     obtain ⟨rfl, rfl⟩ := hcut
     go_wp2_with fail
     refine (within_n X.f0 1 1099511627776 W2).mono ?_
     rintro e W4 ⟨rfl, hb4⟩
     have HB7 := Aside0.mk (HB5.out.step hb4)
     have HE7 := Aside0.mk (blk_below HE5.out hb4)
     clear hb4 HB5 HE5 e0 e1 e2 e3
     have e0 : W4.cell? ⟨gE, 0, none⟩ = some (.int .i64 X.f0) := (blk_cell HE7.out 0).trans rfl
     have e1 : W4.cell? ⟨gE, 1, none⟩ = some (.int .i64 X.f1) := (blk_cell HE7.out 1).trans rfl
     have e2 : W4.cell? ⟨gE, 2, none⟩ = some (.int .i64 X.f2) := (blk_cell HE7.out 2).trans rfl
     have e3 : W4.cell? ⟨gE, 3, none⟩ = some (.int .i64 X.f3) := (blk_cell HE7.out 3).trans rfl
     obtain ⟨b3, hc3⟩ : ∃ b : Bool, b = inB X.f0 1 1099511627776 := ⟨_, rfl⟩
     rw [← hc3]
     cases b3 with
     | false =>
      have HV4 := Aside0.mk (show V = 33 by rw [HV3.out, HD.out, show edB X = false by unfold edB; rw [← hc3]; simp]; rfl)
      clear HV3 hc3
      go_wp2_with fail
      go_ret
      exact ⟨ret_i HV4.out.symm, HB7.out.below⟩
     | true =>
     have HT3 := Aside0.mk hc3
     clear hc3
     go_wp2_with fail
     refine (within_n X.f1 (-1) 1099511627776 W4).mono ?_
     rintro e W5 ⟨rfl, hb5⟩
     have HB8 := Aside0.mk (HB7.out.step hb5)
     have HE8 := Aside0.mk (blk_below HE7.out hb5)
     clear hb5 HB7 HE7 e0 e1 e2 e3
     have e0 : W5.cell? ⟨gE, 0, none⟩ = some (.int .i64 X.f0) := (blk_cell HE8.out 0).trans rfl
     have e1 : W5.cell? ⟨gE, 1, none⟩ = some (.int .i64 X.f1) := (blk_cell HE8.out 1).trans rfl
     have e2 : W5.cell? ⟨gE, 2, none⟩ = some (.int .i64 X.f2) := (blk_cell HE8.out 2).trans rfl
     have e3 : W5.cell? ⟨gE, 3, none⟩ = some (.int .i64 X.f3) := (blk_cell HE8.out 3).trans rfl
     obtain ⟨b4, hc4⟩ : ∃ b : Bool, b = inB X.f1 (-1) 1099511627776 := ⟨_, rfl⟩
     rw [← hc4]
     cases b4 with
     | false =>
      have HV4 := Aside0.mk (show V = 33 by rw [HV3.out, HD.out, show edB X = false by unfold edB; rw [← hc4]; simp]; rfl)
      clear HV3 hc4
      go_wp2_with fail
      go_ret
      exact ⟨ret_i HV4.out.symm, HB8.out.below⟩
     | true =>
     have HT4 := Aside0.mk hc4
     clear hc4
     go_wp2_with fail
     refine (within_n X.f2 0 1000 W5).mono ?_
     rintro e W6 ⟨rfl, hb6⟩
     have HB9 := Aside0.mk (HB8.out.step hb6)
     have HE9 := Aside0.mk (blk_below HE8.out hb6)
     clear hb6 HB8 HE8 e0 e1 e2 e3
     have e0 : W6.cell? ⟨gE, 0, none⟩ = some (.int .i64 X.f0) := (blk_cell HE9.out 0).trans rfl
     have e1 : W6.cell? ⟨gE, 1, none⟩ = some (.int .i64 X.f1) := (blk_cell HE9.out 1).trans rfl
     have e2 : W6.cell? ⟨gE, 2, none⟩ = some (.int .i64 X.f2) := (blk_cell HE9.out 2).trans rfl
     have e3 : W6.cell? ⟨gE, 3, none⟩ = some (.int .i64 X.f3) := (blk_cell HE9.out 3).trans rfl
     obtain ⟨b5, hc5⟩ : ∃ b : Bool, b = inB X.f2 0 1000 := ⟨_, rfl⟩
     rw [← hc5]
     cases b5 with
     | false =>
      have HV4 := Aside0.mk (show V = 33 by rw [HV3.out, HD.out, show edB X = false by unfold edB; rw [← hc5]; simp]; rfl)
      clear HV3 hc5
      go_wp2_with fail
      go_ret
      exact ⟨ret_i HV4.out.symm, HB9.out.below⟩
     | true =>
     have HT5 := Aside0.mk hc5
     clear hc5
     go_wp2_with fail
     refine (within_n X.f3 1 1000 W6).mono ?_
     rintro e W7 ⟨rfl, hb7⟩
     have HB10 := Aside0.mk (HB9.out.step hb7)
     have HE10 := Aside0.mk (blk_below HE9.out hb7)
     clear hb7 HB9 HE9 e0 e1 e2 e3
     have e0 : W7.cell? ⟨gE, 0, none⟩ = some (.int .i64 X.f0) := (blk_cell HE10.out 0).trans rfl
     have e1 : W7.cell? ⟨gE, 1, none⟩ = some (.int .i64 X.f1) := (blk_cell HE10.out 1).trans rfl
     have e2 : W7.cell? ⟨gE, 2, none⟩ = some (.int .i64 X.f2) := (blk_cell HE10.out 2).trans rfl
     have e3 : W7.cell? ⟨gE, 3, none⟩ = some (.int .i64 X.f3) := (blk_cell HE10.out 3).trans rfl
     obtain ⟨b6, hc6⟩ : ∃ b : Bool, b = inB X.f3 1 1000 := ⟨_, rfl⟩
     rw [← hc6]
     cases b6 with
     | false =>
      have HV4 := Aside0.mk (show V = 33 by rw [HV3.out, HD.out, show edB X = false by unfold edB; rw [← hc6]; simp]; rfl)
      clear HV3 hc6
      go_wp2_with fail
      go_ret
      exact ⟨ret_i HV4.out.symm, HB10.out.below⟩
     | true =>
     have HT6 := Aside0.mk hc6
     clear hc6
     have HX := Aside0.mk (show 1 ≤ X.f0 ∧ X.f0 ≤ 1099511627776 by
      have h := HT3.out.symm
      unfold inB at h
      simpa using h)
     obtain ⟨b7, hc7⟩ : ∃ b : Bool, b = empB X := ⟨_, rfl⟩
     rw [← hc7]
     cases b7 with
     | true =>
      have HV4 := Aside0.mk (show V = 33 by rw [HV3.out, HD.out, show edB X = false by rw [edB_is, ← hc7]; simp]; rfl)
      clear HV3 hc7
      go_wp2_with fail
      go_ret
      exact ⟨ret_i HV4.out.symm, HB10.out.below⟩
     | false =>
      have HV4 := Aside0.mk (show V = if edsR (s + X.f0) (edits.drop (i + 1).toNat) = true then smsV 0 0 samples else 33 by rw [HV3.out, HD.out, show edB X = true by rw [edB_is, ← hc7, ← HT3.out, ← HT4.out, ← HT5.out, ← HT6.out]; rfl, Bool.true_and])
      have HM := Aside0.mk (show wrap64 (s + min X.f0 1099511627776) = s + X.f0 by
       have := HX.out
       have := HI.out
       rw [Int.min_eq_left (show X.f0 ≤ 1099511627776 by omega)]
       exact w64 (by omega) (by omega))
      clear HV3 hc7
      go_wp2_with fail
      go_roundg k1
      case measure => omega
      case rel => exact ⟨s + X.f0, i + 1, by rw [HM.out], by rw [HW.out.1], ⟨HW.out.2.1, HW.out.2.2, HV4.out⟩, ⟨by have := HX.out; have := HI.out; omega⟩, ⟨HB10.out⟩⟩
    ·have hlb : decide (i < (edits.length : Int)) = false := decide_eq_false hlt
     have HV3 := Aside0.mk (show V = if s ≤ 1099511627776 then smsV 0 0 samples else 33 by
      rw [hi.out.2.2, List.drop_of_length_le (by have := hi.out; omega)]
      simp [edsR, sumE])
     replace hlt := eq_false hlt
     clear hi hs
     by_cases hbig : s > 1099511627776
     ·have bb : decide (s > 1099511627776) = true := decide_eq_true hbig
      have HV4 := Aside0.mk (show V = 33 by rw [HV3.out, if_neg (by omega)])
      clear HV3 hbig
      go_wp2_with fail
      go_ret
      exact ⟨ret_i HV4.out.symm, hB.out.below⟩
     have bb : decide (s > 1099511627776) = false := decide_eq_false hbig
     have HV4 := Aside0.mk (show V = smsV (0 : Int).toNat 0 (samples.drop (0 : Int).toNat) by rw [HV3.out, if_pos (by omega)]; simp)
     clear HV3 hbig
     obtain ⟨q0, q1, q2, q3, q4, q5, q6, q7, q8, q9, qa⟩ := ten_cells hB.out.c
     go_wp2_with fail
     clear q0 q1 q2 q3 q4 q5 q6 q7 q8 q9 qa bb hlb hlt
     have HB7 := hB
     clear hB
     go_loopg [142] samples.length (fun kq v142 w' => ∃ i before : Int, v142 = .int .i64 i ∧ Aside0 (0 ≤ i ∧ i + kq = samples.length ∧ V = smsV i.toNat before (samples.drop i.toNat) ∧ (0 < i → (rd_T51 samples (i - 1)).f0 = before)) ∧ Aside0 (Bt w w' #[.int .i64 id, .int .i64 kind, .string codec, .int .i64 scale, .slice A4 setup.length c4, .string lang, .string name, .int .i64 pr, .slice A8 edits.length c8, .slice A9 refs.length c9, .slice A10 samples.length c10]))
     case atStart => exact ⟨0, 0, rfl, ⟨by simp, by simp, HV4.out, fun h => by omega⟩, ⟨HB7.out⟩⟩
     case round =>
      clear HB7 HV4
      obtain ⟨i, before, rfl, hi, hB⟩ := hrel
      by_cases hlt : i < (samples.length : Int)
      ·have hlb : decide (i < (samples.length : Int)) = true := decide_eq_true hlt
       have p0 := hi.out.1
       obtain ⟨ad, B4, d4, B5, d5, hA, r0, r1, r2, r3, r4, r5, t4, t5, t6, t7⟩ := at_T51 (Kd.C_below HH.out.p hB.out.below) i p0 hlt
       have HD := Aside0.mk (smsV_drop samples (before := before) p0 hlt)
       have HQ := Aside0.mk (And.intro t4 (And.intro t5 (And.intro t6 t7)))
       obtain ⟨k1, rfl⟩ : ∃ k, gk = k + 1 := ⟨gk - 1, by have := hi.out; omega⟩
       have hwi : wrap64 (i + 1) = i + 1 := by
        have := HL.out
        exact w64 (by omega) (by omega)
       have HW := Aside0.mk (And.intro hwi (show 0 ≤ i + 1 ∧ i + 1 + (k1 : Int) = samples.length by have := hi.out.2.1; omega))
       have HV3 := Aside0.mk hi.out.2.2.1
       have HC := Aside0.mk (fun W (hb : Below w.heap.size w W) g4 g5 => sample_n id kind codec scale A4 c4 setup lang name pr A8 c8 edits A9 c9 refs A10 c10 samples HN.out.1 HN.out.2.1 HN.out.2.2.1 HN.out.2.2.2 i before (rd_T51 samples i) B4 d4 B5 d5 p0 hlt (by have := HL.out; omega) hi.out.2.2.2 W (Hd.below A4 setup A8 edits A9 refs A10 samples HH.out hb) t4 g4 t6 g5)
       have HF := Aside0.mk (show i + 1 - 1 = i by omega)
       subst hA
       generalize hX : rd_T51 samples i = X at *
       have HX := Aside0.mk hX
       replace p0 := eq_true p0
       replace hlt := eq_true hlt
       have HB4 := Aside0.mk (hB.out.step (below_alloc (Below.refl wr.heap.size wr) (.cells #[.int .i64 X.f0, .int .i64 X.f1, .int .i64 X.f2, .bool X.f3, .slice B4 X.f4.length d4, .slice B5 X.f5.length d5] 51 (0, 0))))
       have HE4 := Aside0.mk (blk_new wr (.cells #[.int .i64 X.f0, .int .i64 X.f1, .int .i64 X.f2, .bool X.f3, .slice B4 X.f4.length d4, .slice B5 X.f5.length d5] 51 (0, 0)))
       have HY := Aside0.mk (And.intro (Kd.C_below t5 (below_alloc (Below.refl wr.heap.size wr) (.cells #[.int .i64 X.f0, .int .i64 X.f1, .int .i64 X.f2, .bool X.f3, .slice B4 X.f4.length d4, .slice B5 X.f5.length d5] 51 (0, 0)))) (Kd.C_below t7 (below_alloc (Below.refl wr.heap.size wr) (.cells #[.int .i64 X.f0, .int .i64 X.f1, .int .i64 X.f2, .bool X.f3, .slice B4 X.f4.length d4, .slice B5 X.f5.length d5] 51 (0, 0)))))
       clear hwi hi hB hX t4 t5 t6 t7 HQ
       go_upto_region 25 with fail
       generalize World.alloc wr _ = W2 at *
       generalize wr.heap.size = gE at *
       clear r0 r1 r2 r3 r4 r5
       obtain ⟨q0, q1, q2, q3, q4, q5, q6, q7, q8, q9, qa⟩ := ten_cells HB4.out.c
       have e0 : W2.cell? ⟨gE, 0, none⟩ = some (.int .i64 X.f0) := (blk_cell HE4.out 0).trans rfl
       have e1 : W2.cell? ⟨gE, 1, none⟩ = some (.int .i64 X.f1) := (blk_cell HE4.out 1).trans rfl
       have e2 : W2.cell? ⟨gE, 2, none⟩ = some (.int .i64 X.f2) := (blk_cell HE4.out 2).trans rfl
       have e3 : W2.cell? ⟨gE, 3, none⟩ = some (.bool X.f3) := (blk_cell HE4.out 3).trans rfl
       have e4 : W2.cell? ⟨gE, 4, none⟩ = some (.slice B4 X.f4.length d4) := (blk_cell HE4.out 4).trans rfl
       have e5 : W2.cell? ⟨gE, 5, none⟩ = some (.slice B5 X.f5.length d5) := (blk_cell HE4.out 5).trans rfl
       go_wp2_with fail
       refine (HC.out W2 HB4.out.below HY.out.1 HY.out.2).mono ?_
       rintro e W3 ⟨rfl, hb3⟩
       have HB5 := Aside0.mk (HB4.out.step hb3)
       clear hb3 HB4 HE4 HC HY q0 q1 q2 q3 q4 q5 q6 q7 q8 q9 qa e0 e1 e2 e3 e4 e5
       by_cases hz : smV i before X = 0
       ·have HV4 := Aside0.mk (show V = smsV (i + 1).toNat X.f0 (samples.drop (i + 1).toNat) by rw [HV3.out, HD.out, if_pos hz])
        rw [hz]
        clear HV3 hz HD
        go_wp2_with fail
        go_roundg k1
        case measure => omega
        case rel => exact ⟨i + 1, X.f0, by rw [HW.out.1], ⟨HW.out.2.1, HW.out.2.2, HV4.out, fun _ => by rw [HF.out, HX.out]⟩, ⟨HB5.out⟩⟩
       ·have HV4 := Aside0.mk (show V = smV i before X by rw [HV3.out, HD.out, if_neg hz])
        generalize smV i before X = Y at *
        clear HV3 HD
        go_wp2_with fail
        go_ret
        exact ⟨ret_i HV4.out.symm, HB5.out.below⟩
      ·have hlb : decide (i < (samples.length : Int)) = false := decide_eq_false hlt
       have HV3 := Aside0.mk (show V = 0 by
        rw [hi.out.2.2.1, List.drop_of_length_le (by have := hi.out; omega)]
        rfl)
       replace hlt := eq_false hlt
       clear hi
       go_wp2_with fail
       go_ret
       exact ⟨ret_i HV3.out.symm, hB.out.below⟩
end
end Go.Proofs.Ytknklchmpohjfaa.Tw

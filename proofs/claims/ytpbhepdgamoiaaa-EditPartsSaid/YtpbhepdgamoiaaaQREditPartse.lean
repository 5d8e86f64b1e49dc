/-
  The normal list of a list of edits as a plain value, and that the code tells it. Whether lists are equal, alike; the first example of the chapter. Whether two lists show the same. The reference's natural numbers, in digits of nine decimal places: what its printed functions compute.
-/
import Derived.Test.YtpbhepdgamoiaaaQREditPartsa
import Derived.Test.YtpbhepdgamoiaaaQREditPartsd
import Derived.Test.YtpbhepdgamoiaaaQREditPartsc
namespace Go.Proofs.Ytpbhepdgamoiaaa.E
open Go.Proofs.Ytpbhepdgamoiaaa.Z Go.RowKit Go.Proofs.YtpbhepdgamoiaaaW.PrintWords Go.Proofs.YtpbhepdgamoiaaaW.PrintLast Go.Proofs.YtpbhepdgamoiaaaW.PrintMore
attribute [local go_sem] max2_int min2_int max_two min_two max_three min_three max_four min_four
set_option linter.unusedVariables false
set_option linter.unusedSimpArgs false
mutual
def dioramaref02_Over.l0 : Nat → List Int → List Int → List Int → List Int → Int → Option (List Int × List Int)
  | 0, _, _, _, _, _ => none
  | k + 1, x0, x1, x6, x7, x8 => if x8 ≥ 0 then (if 0 ≤ x8 then (if x8 < (x0.length : Int) then ((some (([rd x0 x8] : List Int) : List Int)).bind fun y415 => (if y415.length + x7.length < 17592186044416 then ((dioramaref02_trimmed.f k (y415 ++ x7)).bind fun t421 => (dioramaref02_Over.l1 k x0 x1 x6 t421 x8 0 999999999)) else (none))) else (none)) else (none)) else ((dioramaref02_trimmed.f k x6).bind fun t411 => (some (t411, x7)))
def dioramaref02_Over.l1 : Nat → List Int → List Int → List Int → List Int → Int → Int → Int → Option (List Int × List Int)
  | 0, _, _, _, _, _, _, _ => none
  | k + 1, x0, x1, x6, x7, x8, x10, x11 => if x10 < x11 then ((dioramaref02_Of.f k (wrap64 (Int.tdiv (wrap64 ((wrap64 (x10 + x11)) + 1)) 2))).bind fun t434 => ((dioramaref02_Times.f k x1 t434).bind fun t437 => ((dioramaref02_Compare.f k t437 x7).bind fun t440 => (if t440 ≤ 0 then (dioramaref02_Over.l1 k x0 x1 x6 x7 x8 (wrap64 (Int.tdiv (wrap64 ((wrap64 (x10 + x11)) + 1)) 2)) x11) else (dioramaref02_Over.l1 k x0 x1 x6 x7 x8 x10 (wrap64 ((wrap64 (Int.tdiv (wrap64 ((wrap64 (x10 + x11)) + 1)) 2)) - 1))))))) else (if 0 ≤ x8 then (if x8 < (x6.length : Int) then ((dioramaref02_Of.f k x10).bind fun t425 => ((dioramaref02_Times.f k x1 t425).bind fun t428 => ((dioramaref02_Minus.f k x7 t428).bind fun t431 => (dioramaref02_Over.l0 k x0 x1 (x6.set (x8 : Int).toNat x10) t431 (wrap64 (x8 - 1)))))) else (none)) else (none))
end
def dioramaref02_Over.f (k : Nat) (l0 : List Int) (l1 : List Int) : Option (List Int × List Int) := if 0 ≤ (l0.length : Int) then (if ((l0.length : Int) : Int).toNat ≤ 35184372088832 then (dioramaref02_Over.l0 k l0 l1 (List.replicate ((l0.length : Int) : Int).toNat 0) ([] : List Int) (wrap64 ((l0.length : Int) - 1))) else (none)) else (none)
set_option maxHeartbeats 8000000 in
set_option maxRecDepth 100000 in
theorem dioramaref02_Over.calls (k : Nat) (A0 : Option Addr) (c0 : Nat) (l0 : List Int) (A1 : Option Addr) (c1 : Nat) (l1 : List Int) (r1 : List Int) (r2 : List Int) (w : World) (hr0 : Kd.C (Kd.int .i64) w A0 l0.length l0) (hc0 : l0.length ≤ c0) (hr1 : Kd.C (Kd.int .i64) w A1 l1.length l1) (hc1 : l1.length ≤ c1) (h : dioramaref02_Over.f k l0 l1 = some (r1, r2)) :
  Calls Try.prog 123 #[.slice A0 l0.length c0, .slice A1 l1.length c1] w fun e w' => ∃ v0_ v1_ : Value, e = .returned (.tuple #[v0_, v1_]) ∧ Kd.R (Kd.int .i64) 3 w' w.heap.size (fun k_ => some k_ ≠ (v1_ : Value).ownBlock) v0_ r1 ∧ Kd.R (Kd.int .i64) 3 w' w.heap.size (fun k_ => some k_ ≠ (v0_ : Value).ownBlock) v1_ r2 ∧ Below w.heap.size w w' := by
 have HR0 := Aside0.mk hr0; have HC0 := Aside0.mk hc0; clear hr0 hc0; have HR1 := Aside0.mk hr1; have HC1 := Aside0.mk hc1; clear hr1 hc1; have HB := Aside0.mk (Below.refl w.heap.size w); have H : (if 0 ≤ (l0.length : Int) then (if ((l0.length : Int) : Int).toNat ≤ 35184372088832 then (dioramaref02_Over.l0 k l0 l1 (List.replicate ((l0.length : Int) : Int).toNat 0) ([] : List Int) (wrap64 ((l0.length : Int) - 1))) else (none)) else (none)) = some (r1, r2) := h; clear h
 by_cases c3 : 0 ≤ (l0.length : Int)
 ·rw [if_pos c3] at H; have c3b0 := eq_true c3; have c3b1 : decide (0 ≤ (l0.length : Int)) = true := decide_eq_true c3; clear c3
  by_cases c4 : ((l0.length : Int) : Int).toNat ≤ 35184372088832
  ·rw [if_pos c4] at H; have c4b0 := eq_true c4; have c4b1 : decide (((l0.length : Int) : Int).toNat ≤ 35184372088832) = true := decide_eq_true c4; clear c4; obtain ⟨y408, hy408⟩ : ∃ y_ : List Int, y_ = (List.replicate ((l0.length : Int) : Int).toNat 0) := ⟨_, rfl⟩; replace H : (dioramaref02_Over.l0 k l0 l1 y408 ([] : List Int) (wrap64 ((l0.length : Int) - 1))) = some (r1, r2) := by first | (rw [hy408]; with_reducible exact H) | (have H2_ := (Option.bind_some _ _).symm.trans H; rw [hy408]; with_reducible exact H2_) | (have H2_ := (Option.bind_some _ _).symm.trans H; with_reducible exact H2_) | with_reducible exact H | (rw [hy408]; exact H) | exact H
   have Ny408 := Aside0.mk hy408; clear hy408; have H' := Aside0.mk H; clear H
   go_enter Try.func123, Try.ntmps123
   go_wp2_with (first | ((with_reducible refine gate_dst (N := 15) rfl ?_); refine Kd.R_make (Kd.int .i64) _ 3 rfl (N := 15) rfl 93 _ _ rfl (l0.length : Int) rfl rfl Try.underlying93 (.int .i64 0) 8 info3 rfl (by decide) (by omega) 0 (ok := fun _ => True) (okp := fun _ => True) rfl (fun _ hk => hk) trivial (od) (Nat.le_trans (Nat.mul_le_mul_right _ (od : (l0.length : Int).toNat ≤ 35184372088832)) (by omega)) (Below.refl _ _) (Nat.le_refl _) ?_; intro v409 w5 ho6 hb hg_ hnew_; clear hg_ hnew_; (first | rw [← Ny408.out] at ho6 | (simp only [Int.reduceToNat] at ho6; rw [← Ny408.out] at ho6)); have HO410 := Aside0.mk (Kd.R_lower ho6 sz); replace HB := bp hb; clear hb ho6))
   go_loopg [7, 8] k (fun kq v7 v8 w' => ∃ (x6_1 : List Int) (x7_1 : List Int) (x8_1 : Int), v8 = .int .i64 x8_1 ∧ Aside0 (dioramaref02_Over.l0 kq l0 l1 x6_1 x7_1 x8_1 = some (r1, r2)) ∧ Aside0 (kq ≤ k) ∧ Aside0 (Kd.R (Kd.int .i64) 3 w' w.heap.size (fun k_ => some k_ ≠ (v7 : Value).ownBlock) v409 x6_1) ∧ Aside0 (Kd.R (Kd.int .i64) 3 w' w.heap.size (fun k_ => some k_ ≠ (v409 : Value).ownBlock) v7 x7_1) ∧ Aside0 (Below w.heap.size w w'))
   case atStart => exact ⟨(y408), (([] : List Int)), (wrap64 ((l0.length : Int) - 1)), jz, H', ⟨Nat.le_refl _⟩, ⟨by (with_reducible repeat (first | apply Kd.R_alloc | apply Kd.R_drewN | apply Kd.R_drew)); exact Kd.R_mono HO410.out (fun _ hk => (by simp [Value.ownBlock]))⟩, ⟨by first | exact Kd.R_nil _ _ _ _ _ | exact Kd.N_nil _ _ _ _ _ | exact Kd.V_nil _ _ _ _ _ | exact Kd.Q_nil _ _ _ _ _ | exact Kd.S_nil _ _ _ _ _⟩, ⟨bz⟩⟩
   case round =>
    clear H'
    try clear c1
    try clear p2
    try clear c3
    try clear c3b0
    try clear c3b1
    try clear c4
    try clear c4b0
    try clear c4b1
    try clear p6
    obtain ⟨x6_1, x7_1, x8_1, rfl, HA, HK1, HO_6, HO_7, HB⟩ := hrel
    cases gk with
    | zero => exact absurd HA.out (by simp [dioramaref02_Over.l0])
    | succ k1 =>
     have H := HA.out; clear HA; simp only [dioramaref02_Over.l0] at H
     by_cases c7 : x8_1 ≥ 0
     ·rw [if_pos c7] at H; have c7b0 : decide (0 ≤ x8_1) = true := decide_eq_true c7; clear c7
      by_cases c8 : 0 ≤ x8_1
      ·rw [if_pos c8] at H; have c8b0 : decide (0 ≤ x8_1) = true := decide_eq_true c8; clear c8
       by_cases c9 : x8_1 < (l0.length : Int)
       ·rw [if_pos c9] at H; have c9b0 : decide (x8_1 < (l0.length : Int)) = true := decide_eq_true c9; clear c9; obtain ⟨y415, hy415⟩ : ∃ y_ : List Int, y_ = (([rd l0 x8_1] : List Int)) := ⟨_, rfl⟩; replace H : (if y415.length + x7_1.length < 17592186044416 then ((dioramaref02_trimmed.f k1 (y415 ++ x7_1)).bind fun t421 => (dioramaref02_Over.l1 k1 l0 l1 x6_1 t421 x8_1 0 999999999)) else (none)) = some (r1, r2) := by first | (rw [hy415]; with_reducible exact H) | (have H2_ := (Option.bind_some _ _).symm.trans H; rw [hy415]; with_reducible exact H2_) | (have H2_ := (Option.bind_some _ _).symm.trans H; with_reducible exact H2_) | with_reducible exact H | (rw [hy415]; exact H) | exact H
        have Ny415 := Aside0.mk hy415; clear hy415
        by_cases c10 : y415.length + x7_1.length < 17592186044416
        ·rw [if_pos c10] at H; have LMc10 := Aside0.mk c10; clear c10; obtain ⟨y418, hy418⟩ : ∃ y_ : List Int, y_ = (y415 ++ x7_1) := ⟨_, rfl⟩; replace H : ((dioramaref02_trimmed.f k1 y418).bind fun t421 => (dioramaref02_Over.l1 k1 l0 l1 x6_1 t421 x8_1 0 999999999)) = some (r1, r2) := by first | (rw [hy418]; with_reducible exact H) | (have H2_ := (Option.bind_some _ _).symm.trans H; rw [hy418]; with_reducible exact H2_) | (have H2_ := (Option.bind_some _ _).symm.trans H; with_reducible exact H2_) | with_reducible exact H | (rw [hy418]; exact H) | exact H
         have Ny418 := Aside0.mk hy418; clear hy418; obtain ⟨t421, A11, H⟩ := ob H; have H' := Aside0.mk H; clear H; have p414 : 0 ≤ (x8_1 : Int) := od; have q414 : x8_1 < (l0.length : Int) := od; obtain ⟨ad414, e414, hx414_0⟩ := Kd.at_int HR0.out x8_1 p414 q414
         cases e414
         replace hx414_0 := cl HB hx414_0; replace p414 := eq_true p414; replace q414 := eq_true q414
         go_wp2_with (first | ((with_reducible refine gate_dst (N := 27) rfl ?_); refine Kd.R_lit (Kd.int .i64) _ 3 ?hg (N := 27) ?hd (xs := ([rd l0 x8_1] : List Int)) (inner := [.int .i64 (rd l0 x8_1)]) (ok := fun _ => True) (okp := fun _ => True) ?hr ?hp (fun _ hk => hk) trivial (Below.refl _ _) (Nat.le_refl _) (by simp) ?_; (case hd => rfl); (case hg => rfl); (case hr => first | (go_simp; done) | (go_simp; rfl)); (case hp => exact (Reps.one (show Kd.M (Kd.int .i64) _ _ _ (rd l0 x8_1) [.int .i64 (rd l0 x8_1)] from rfl) (Reps.none _ _))); intro v416 w12 ho13 hb hg_ hnew_; clear hg_ hnew_; (first | rw [← Ny415.out] at ho13 | (simp only [Int.reduceToNat] at ho13; rw [← Ny415.out] at ho13)); have HO417 := Aside0.mk (Kd.R_lower (Kd.R_new' (Kd.R_new' ho13 (Kd.R_lt (rz HO_6))) (Kd.R_lt (rz HO_7))) sz); replace HO_6 := Aside0.mk (Kd.R_elder' (rz HO_6) (Kd.R_base ho13) hb); replace HO_7 := Aside0.mk (Kd.R_elder' (rz HO_7) (Kd.R_base ho13) hb); replace HB := bp hb; clear hb ho13; obtain ⟨Ao15, co15, eo15⟩ := Kd.R_slice HO_7.out; subst eo15) | ((with_reducible refine gate_builtin (b := .append) (xs := #[.tmp 28, .tmp 29]) rfl ?_); at_builtin; refine Kd.R_append_rows (Kd.int .i64) (w0 := w) w.heap.size rfl (.tmp 28) (.tmp 29) 93 3 (.int .i64 0) 8 rfl Try.underlying93 info3 rfl (by decide) (by omega) v416 y415 x7_1 _ _ _ (fun k_ => some k_ ≠ (v409 : Value).ownBlock ∧ some k_ ≠ (.slice Ao15 x7_1.length co15 : Value).ownBlock) (fun _ => False) rfl rfl ?aO ?aR (fun _ _ h => h) (fun _ h => h.elim) ?aF ?aB ?aS ?aL ?_; (case aR => repeat (first | exact (Kd.R_reads' HO_7.out).2.2 | (with_reducible refine Kd.C_alloc ?_ _) | (with_reducible refine Kd.C_drewN ?_ _) | (with_reducible refine Kd.C_drew ?_))); (case aB => exact bz); (case aF => exact (fun k_ hk => ⟨Kd.fresh' (Kd.R_lt (rz HO_6)) k_ hk, Kd.fresh' (Kd.R_lt (rz HO_7)) k_ hk⟩)); (case aO => exact (by (with_reducible repeat (first | apply Kd.R_alloc | apply Kd.R_drewN | apply Kd.R_drew)); exact Kd.R_mono HO417.out (fun _ hk => ⟨hk.1.2, hk.2⟩))); (case aS => exact sz); (case aL => have := LMc10.out; omega); intro v419 w14 ho hb hg hat; rw [← Ny418.out] at ho; replace HO_6 := Aside0.mk (Kd.R_after (ok := (fun k_ => some k_ ≠ (.slice Ao15 x7_1.length co15 : Value).ownBlock)) (rz HO_6) hg hat); replace HO_7 := Aside0.mk (Kd.R_after (ok := (fun k_ => some k_ ≠ (v409 : Value).ownBlock)) (rz HO_7) hg hat); replace HB := Aside0.mk (hb); have HO420 := Aside0.mk (ho); clear HO417; clear ho hb hg hat; obtain ⟨Ao16, co16, eo16⟩ := Kd.R_slice HO420.out; subst eo16) | ((with_reducible refine gate_callee (f := 154) rfl ?_); refine zC 31 Try.func154 #[.slice Ao16 y418.length co16] ?_; (with_reducible refine (dioramaref02_trimmed.calls k1 (fun k_ => some k_ = (.slice Ao16 y418.length co16 : Value).ownBlock) (.slice Ao16 y418.length co16) y418 t421 w _ ?side1 ?side2 A11.out).mono ?_); (case side1 => repeat (first | (with_reducible first | exact HB.out | apply below_alloc | apply pw_below_drewN | apply below_drew1) | exact HB.out)); (case side2 => exact Kd.R_tight rfl HO420.out); rintro e w17 ⟨v422, rfl, ho0, hb, hkp⟩; refine ⟨_, rfl, ?_⟩; have HO423 := Aside0.mk (Kd.R_mono (ok' := fun k_ => some k_ ≠ (v409 : Value).ownBlock ∧ some k_ ≠ (.slice Ao15 x7_1.length co15 : Value).ownBlock) ho0 (fun k_ hk_ => ⟨Or.elim hk_ (fun hs_ => fun e_ => (((HO_6.out).1 k_ e_.symm).2) hs_) (fun hn_ => (Kd.fresh' (Kd.R_lt (rz HO_6)) k_ hn_)), Or.elim hk_ (fun hs_ => fun e_ => (((HO_7.out).1 k_ e_.symm).2) hs_) (fun hn_ => (Kd.fresh' (Kd.R_lt (rz HO_7)) k_ hn_))⟩)); replace HO_6 := Aside0.mk (Kd.R_mono (ok' := fun k_ => some k_ ≠ (.slice Ao15 x7_1.length co15 : Value).ownBlock ∧ some k_ ≠ (v422 : Value).ownBlock) (Kd.R_keptB (HO_6.out) hkp (fun k_ hk_ hs_ => (hk_.2) hs_)) (fun k_ hk_ => ⟨hk_.1.1, fun e_ => Or.elim (ho0.1 k_ e_.symm) (fun hs_ => hk_.2.1 hs_) (fun hn_ => Nat.not_le.2 hk_.2.2 hn_)⟩)); replace HO_7 := Aside0.mk (Kd.R_mono (ok' := fun k_ => some k_ ≠ (v409 : Value).ownBlock ∧ some k_ ≠ (v422 : Value).ownBlock) (Kd.R_keptB (HO_7.out) hkp (fun k_ hk_ hs_ => (hk_.2) hs_)) (fun k_ hk_ => ⟨hk_.1.1, fun e_ => Or.elim (ho0.1 k_ e_.symm) (fun hs_ => hk_.2.1 hs_) (fun hn_ => Nat.not_le.2 hk_.2.2 hn_)⟩)); replace HB := Aside0.mk (hb); clear HO420; clear hb hkp ho0))
         go_loopg [10, 11] k1 (fun kq v10 v11 w' => ∃ (x10_2 : Int) (x11_2 : Int), v10 = .int .i64 x10_2 ∧ v11 = .int .i64 x11_2 ∧ Aside0 (dioramaref02_Over.l1 kq l0 l1 x6_1 t421 x8_1 x10_2 x11_2 = some (r1, r2)) ∧ Aside0 (kq ≤ k1) ∧ Aside0 (Kd.R (Kd.int .i64) 3 w' w.heap.size (fun k_ => some k_ ≠ (v422 : Value).ownBlock) v409 x6_1) ∧ Aside0 (Kd.R (Kd.int .i64) 3 w' w.heap.size (fun k_ => some k_ ≠ (v409 : Value).ownBlock) v422 t421) ∧ Aside0 (Below w.heap.size w w'))
         case atStart => exact ⟨(0), (999999999), jz, jz, H', ⟨Nat.le_refl _⟩, ⟨by (with_reducible repeat (first | apply Kd.R_alloc | apply Kd.R_drewN | apply Kd.R_drew)); exact Kd.R_mono HO_6.out (fun _ hk => hk.2)⟩, ⟨by (with_reducible repeat (first | apply Kd.R_alloc | apply Kd.R_drewN | apply Kd.R_drew)); exact Kd.R_mono HO423.out (fun _ hk => hk.1)⟩, ⟨bz⟩⟩
         case round =>
          clear H'
          try clear c1
          try clear p2
          try clear c3
          try clear c3b0
          try clear c3b1
          try clear c4
          try clear c4b0
          try clear c4b1
          try clear p4
          try clear q4
          try clear hx4
          try clear p6
          try clear c7
          try clear c7b0
          try clear c8
          try clear c8b0
          try clear c9
          try clear c9b0
          try clear c10
          try clear c12
          try clear c15
          try clear hx414_0
          try clear p2
          try clear p414
          try clear p6
          try clear q414
          obtain ⟨x10_2, x11_2, rfl, rfl, HA, HK2, HO_6, HO_7, HB⟩ := hrel
          cases gk with
          | zero => exact absurd HA.out (by simp [dioramaref02_Over.l1])
          | succ k2 =>
           have H := HA.out; clear HA; simp only [dioramaref02_Over.l1] at H
           by_cases c18 : x10_2 < x11_2
           ·rw [if_pos c18] at H; have c18b0 : decide (x10_2 < x11_2) = true := decide_eq_true c18; clear c18; obtain ⟨t434, A19, H⟩ := ob H; obtain ⟨t437, A20, H⟩ := ob H; obtain ⟨t440, A21, H⟩ := ob H
            by_cases c22 : t440 ≤ 0
            ·rw [if_pos c22] at H; have c22b0 : decide (t440 ≤ 0) = true := decide_eq_true c22; clear c22; have H' := Aside0.mk H; clear H
             go_wp2_with (first | ((with_reducible refine gate_callee (f := 121) rfl ?_); refine zC 42 Try.func121 #[.int .i64 (wrap64 (Int.tdiv (wrap64 ((wrap64 (x10_2 + x11_2)) + 1)) 2))] ?_; (with_reducible refine (dioramaref02_Of.calls k2 (wrap64 (Int.tdiv (wrap64 ((wrap64 (x10_2 + x11_2)) + 1)) 2)) t434 _ A19.out).mono ?_); rintro e w23 ⟨v435, rfl, ho0, hb⟩; refine ⟨_, rfl, ?_⟩; have HO436 := Aside0.mk (Kd.R_lower (Kd.R_new' (Kd.R_new' ho0 (Kd.R_lt (rz HO_6))) (Kd.R_lt (rz HO_7))) sz); replace HO_6 := Aside0.mk (Kd.R_elder' (rz HO_6) (Kd.R_base ho0) hb); replace HO_7 := Aside0.mk (Kd.R_elder' (rz HO_7) (Kd.R_base ho0) hb); replace HB := bp hb; clear hb ho0; obtain ⟨Ao24, co24, eo24⟩ := Kd.R_slice HO436.out; subst eo24) | ((with_reducible refine gate_callee (f := 124) rfl ?_); refine zC 43 Try.func124 #[.slice A1 l1.length c1, .slice Ao24 t434.length co24] ?_; (with_reducible refine (dioramaref02_Times.calls k2 _ _ l1 _ _ t434 t437 _ ?side1 ?side2 ?side3 ?side4 A20.out).mono ?_); (case side1 => exact cz HR1); (case side2 => exact HC1.out); (case side3 => exact cr HO436); (case side4 => exact (Kd.R_reads' HO436.out).2.1); rintro e w25 ⟨v438, rfl, ho0, hb⟩; refine ⟨_, rfl, ?_⟩; have HO439 := Aside0.mk (Kd.R_lower (Kd.R_new' (Kd.R_new' (Kd.R_new' ho0 (Kd.R_lt (rz HO_6))) (Kd.R_lt (rz HO_7))) (Kd.R_lt (rz HO436))) sz); replace HO_6 := Aside0.mk (Kd.R_elder' (rz HO_6) (Kd.R_base ho0) hb); replace HO_7 := Aside0.mk (Kd.R_elder' (rz HO_7) (Kd.R_base ho0) hb); replace HO436 := Aside0.mk (Kd.R_elder' (rz HO436) (Kd.R_base ho0) hb); replace HB := bp hb; clear hb ho0; obtain ⟨Ao26, co26, eo26⟩ := Kd.R_slice HO439.out; subst eo26; obtain ⟨Ao27, co27, eo27⟩ := Kd.R_slice HO_7.out; subst eo27) | ((with_reducible refine gate_callee (f := 122) rfl ?_); refine zC 45 Try.func122 #[.slice Ao26 t437.length co26, .slice Ao27 t421.length co27] ?_; (with_reducible refine (dioramaref02_Compare.calls k2 _ _ t437 _ _ t421 t440 _ ?side1 ?side2 ?side3 ?side4 A21.out).mono ?_); (case side1 => exact cr HO439); (case side2 => exact (Kd.R_reads' HO439.out).2.1); (case side3 => exact cr HO_7); (case side4 => exact (Kd.R_reads' HO_7.out).2.1); rintro e w' ⟨rfl, ⟨nd, rfl⟩⟩; refine ⟨_, rfl, ?_⟩))
             go_roundg k2
             case measure => have := HK1.out; have := HK2.out; omega
             case rel => exact ⟨(wrap64 (Int.tdiv (wrap64 ((wrap64 (x10_2 + x11_2)) + 1)) 2)), (x11_2), jz, jz, H', ⟨by have := HK1.out; have := HK2.out; omega⟩, ⟨by (with_reducible repeat (first | apply Kd.R_alloc | apply Kd.R_drewN | apply Kd.R_drew)); exact Kd.R_mono HO_6.out (fun _ hk => hk.1.1)⟩, ⟨by (with_reducible repeat (first | apply Kd.R_alloc | apply Kd.R_drewN | apply Kd.R_drew)); exact Kd.R_mono HO_7.out (fun _ hk => hk.1.1)⟩, ⟨bz⟩⟩
            ·rw [if_neg c22] at H; have c22b0 : decide (t440 ≤ 0) = false := decide_eq_false c22; clear c22; have H' := Aside0.mk H; clear H
             go_wp2_with (first | ((with_reducible refine gate_callee (f := 121) rfl ?_); refine zC 42 Try.func121 #[.int .i64 (wrap64 (Int.tdiv (wrap64 ((wrap64 (x10_2 + x11_2)) + 1)) 2))] ?_; (with_reducible refine (dioramaref02_Of.calls k2 (wrap64 (Int.tdiv (wrap64 ((wrap64 (x10_2 + x11_2)) + 1)) 2)) t434 _ A19.out).mono ?_); rintro e w28 ⟨v435, rfl, ho0, hb⟩; refine ⟨_, rfl, ?_⟩; have HO436 := Aside0.mk (Kd.R_lower (Kd.R_new' (Kd.R_new' ho0 (Kd.R_lt (rz HO_6))) (Kd.R_lt (rz HO_7))) sz); replace HO_6 := Aside0.mk (Kd.R_elder' (rz HO_6) (Kd.R_base ho0) hb); replace HO_7 := Aside0.mk (Kd.R_elder' (rz HO_7) (Kd.R_base ho0) hb); replace HB := bp hb; clear hb ho0; obtain ⟨Ao29, co29, eo29⟩ := Kd.R_slice HO436.out; subst eo29) | ((with_reducible refine gate_callee (f := 124) rfl ?_); refine zC 43 Try.func124 #[.slice A1 l1.length c1, .slice Ao29 t434.length co29] ?_; (with_reducible refine (dioramaref02_Times.calls k2 _ _ l1 _ _ t434 t437 _ ?side1 ?side2 ?side3 ?side4 A20.out).mono ?_); (case side1 => exact cz HR1); (case side2 => exact HC1.out); (case side3 => exact cr HO436); (case side4 => exact (Kd.R_reads' HO436.out).2.1); rintro e w30 ⟨v438, rfl, ho0, hb⟩; refine ⟨_, rfl, ?_⟩; have HO439 := Aside0.mk (Kd.R_lower (Kd.R_new' (Kd.R_new' (Kd.R_new' ho0 (Kd.R_lt (rz HO_6))) (Kd.R_lt (rz HO_7))) (Kd.R_lt (rz HO436))) sz); replace HO_6 := Aside0.mk (Kd.R_elder' (rz HO_6) (Kd.R_base ho0) hb); replace HO_7 := Aside0.mk (Kd.R_elder' (rz HO_7) (Kd.R_base ho0) hb); replace HO436 := Aside0.mk (Kd.R_elder' (rz HO436) (Kd.R_base ho0) hb); replace HB := bp hb; clear hb ho0; obtain ⟨Ao31, co31, eo31⟩ := Kd.R_slice HO439.out; subst eo31; obtain ⟨Ao32, co32, eo32⟩ := Kd.R_slice HO_7.out; subst eo32) | ((with_reducible refine gate_callee (f := 122) rfl ?_); refine zC 45 Try.func122 #[.slice Ao31 t437.length co31, .slice Ao32 t421.length co32] ?_; (with_reducible refine (dioramaref02_Compare.calls k2 _ _ t437 _ _ t421 t440 _ ?side1 ?side2 ?side3 ?side4 A21.out).mono ?_); (case side1 => exact cr HO439); (case side2 => exact (Kd.R_reads' HO439.out).2.1); (case side3 => exact cr HO_7); (case side4 => exact (Kd.R_reads' HO_7.out).2.1); rintro e w' ⟨rfl, ⟨nd, rfl⟩⟩; refine ⟨_, rfl, ?_⟩))
             go_roundg k2
             case measure => have := HK1.out; have := HK2.out; omega
             case rel => exact ⟨(x10_2), (wrap64 ((wrap64 (Int.tdiv (wrap64 ((wrap64 (x10_2 + x11_2)) + 1)) 2)) - 1)), jz, jz, H', ⟨by have := HK1.out; have := HK2.out; omega⟩, ⟨by (with_reducible repeat (first | apply Kd.R_alloc | apply Kd.R_drewN | apply Kd.R_drew)); exact Kd.R_mono HO_6.out (fun _ hk => hk.1.1)⟩, ⟨by (with_reducible repeat (first | apply Kd.R_alloc | apply Kd.R_drewN | apply Kd.R_drew)); exact Kd.R_mono HO_7.out (fun _ hk => hk.1.1)⟩, ⟨bz⟩⟩
           ·rw [if_neg c18] at H; have c18b0 : decide (x10_2 < x11_2) = false := decide_eq_false c18; clear c18
            by_cases c33 : 0 ≤ x8_1
            ·rw [if_pos c33] at H; have c33b0 : decide (0 ≤ x8_1) = true := decide_eq_true c33; clear c33
             by_cases c34 : x8_1 < (x6_1.length : Int)
             ·rw [if_pos c34] at H; have c34b0 : decide (x8_1 < (x6_1.length : Int)) = true := decide_eq_true c34; clear c34; obtain ⟨y424, hy424⟩ : ∃ y_ : List Int, y_ = (x6_1.set (x8_1 : Int).toNat x10_2) := ⟨_, rfl⟩; replace H : ((dioramaref02_Of.f k2 x10_2).bind fun t425 => ((dioramaref02_Times.f k2 l1 t425).bind fun t428 => ((dioramaref02_Minus.f k2 t421 t428).bind fun t431 => (dioramaref02_Over.l0 k2 l0 l1 y424 t431 (wrap64 (x8_1 - 1)))))) = some (r1, r2) := by first | (rw [hy424]; with_reducible exact H) | (have H2_ := (Option.bind_some _ _).symm.trans H; rw [hy424]; with_reducible exact H2_) | (have H2_ := (Option.bind_some _ _).symm.trans H; with_reducible exact H2_) | with_reducible exact H | (rw [hy424]; exact H) | exact H
              have Ny424 := Aside0.mk hy424; clear hy424; obtain ⟨t425, A36, H⟩ := ob H; obtain ⟨t428, A37, H⟩ := ob H; obtain ⟨t431, A38, H⟩ := ob H; have H' := Aside0.mk H; clear H; have p35 : 0 ≤ (x8_1 : Int) := od; have q35 : (x8_1 : Int) < ((x6_1.length : Int) : Int) := od; obtain ⟨go35, co35, eo35, gb35, gl35, cl35, HG35⟩ := Kd.R_form HO_6.out (by omega)
              (first | cases eo35 | (injection eo35 with ea_ en_ ec_; (first | subst ea_ | (injection ea_ with ea_; subst ea_)); subst ec_; clear en_))
              have GB35 := Aside0.mk gb35; have GG35 := Aside0.mk HG35; clear gb35 gl35 HG35; obtain ⟨hx35_0, hf35_0⟩ := Kd.R_celln 0 HO_6.out (x8_1 : Int) p35 q35; replace p35 := eq_true p35; replace q35 := eq_true q35; have HP39 := Kd.R_putg HO_6.out (x8_1 : Int) x10_2
              go_wp2_with (first | ((with_reducible refine gate_store (t := 3) (p := 53) rfl ?_); refine store_event (t := 3) (p := 53) (v := ?vo_w40) (w1 := (wr.setCell ⟨go35, (x8_1 : Int).toNat, none⟩ (.int .i64 x10_2))) ?hg ?ho ?hn ?hr ?_; (case ho => rfl); (case hg => rfl); (case hn => rfl); (case hr => first | (go_simp; done) | (go_simp; rfl)); intro w40 hw; have hg : wr.grownBy w40 (some go35) := (by rw [hw]; exact HP39.2); have hp_ : Kd.R (Kd.int .i64) 3 w40 w.heap.size (fun k_ => some k_ ≠ (v422 : Value).ownBlock) (.slice (some ⟨go35, 0, none⟩) x6_1.length co35) y424 := (by rw [hw, Ny424.out]; exact HP39.1); clear HP39; replace HO_6 := Aside0.mk (hp_); replace HO_7 := Aside0.mk (Kd.R_after (v := (.slice (some ⟨go35, 0, none⟩) x6_1.length co35)) (v1 := (.slice (some ⟨go35, 0, none⟩) x6_1.length co35)) (ok := (fun _ => True)) (by (with_reducible repeat (first | apply Kd.R_alloc | apply Kd.R_drewN | apply Kd.R_drew)); exact Kd.R_mono HO_7.out (fun _ hk => ⟨trivial, hk⟩)) hg (.inl rfl)); replace HB := Aside0.mk ((by rw [hw]; exact below_set (HB.out) GB35.out : Below w.heap.size w w40)); clear hg hw hp_) | ((with_reducible refine gate_callee (f := 121) rfl ?_); refine zC 57 Try.func121 #[.int .i64 x10_2] ?_; (with_reducible refine (dioramaref02_Of.calls k2 x10_2 t425 _ A36.out).mono ?_); rintro e w41 ⟨v426, rfl, ho0, hb⟩; refine ⟨_, rfl, ?_⟩; have HO427 := Aside0.mk (Kd.R_lower (Kd.R_new' (Kd.R_new' ho0 (Kd.R_lt (rz HO_6))) (Kd.R_lt (rz HO_7))) sz); replace HO_6 := Aside0.mk (Kd.R_elder' (rz HO_6) (Kd.R_base ho0) hb); replace HO_7 := Aside0.mk (Kd.R_elder' (rz HO_7) (Kd.R_base ho0) hb); replace HB := bp hb; clear hb ho0; obtain ⟨Ao42, co42, eo42⟩ := Kd.R_slice HO427.out; subst eo42) | ((with_reducible refine gate_callee (f := 124) rfl ?_); refine zC 58 Try.func124 #[.slice A1 l1.length c1, .slice Ao42 t425.length co42] ?_; (with_reducible refine (dioramaref02_Times.calls k2 _ _ l1 _ _ t425 t428 _ ?side1 ?side2 ?side3 ?side4 A37.out).mono ?_); (case side1 => exact cz HR1); (case side2 => exact HC1.out); (case side3 => exact cr HO427); (case side4 => exact (Kd.R_reads' HO427.out).2.1); rintro e w43 ⟨v429, rfl, ho0, hb⟩; refine ⟨_, rfl, ?_⟩; have HO430 := Aside0.mk (Kd.R_lower (Kd.R_new' (Kd.R_new' (Kd.R_new' ho0 (Kd.R_lt (rz HO_6))) (Kd.R_lt (rz HO_7))) (Kd.R_lt (rz HO427))) sz); replace HO_6 := Aside0.mk (Kd.R_elder' (rz HO_6) (Kd.R_base ho0) hb); replace HO_7 := Aside0.mk (Kd.R_elder' (rz HO_7) (Kd.R_base ho0) hb); replace HO427 := Aside0.mk (Kd.R_elder' (rz HO427) (Kd.R_base ho0) hb); replace HB := bp hb; clear hb ho0; obtain ⟨Ao44, co44, eo44⟩ := Kd.R_slice HO_7.out; subst eo44; obtain ⟨Ao45, co45, eo45⟩ := Kd.R_slice HO430.out; subst eo45) | ((with_reducible refine gate_callee (f := 138) rfl ?_); refine zC 59 Try.func138 #[.slice Ao44 t421.length co44, .slice Ao45 t428.length co45] ?_; (with_reducible refine (dioramaref02_Minus.calls k2 _ _ t421 _ _ t428 t431 _ ?side1 ?side2 ?side3 ?side4 A38.out).mono ?_); (case side1 => exact cr HO_7); (case side2 => exact (Kd.R_reads' HO_7.out).2.1); (case side3 => exact cr HO430); (case side4 => exact (Kd.R_reads' HO430.out).2.1); rintro e w46 ⟨v432, rfl, ho0, hb⟩; refine ⟨_, rfl, ?_⟩; have HO433 := Aside0.mk (Kd.R_lower (Kd.R_new' (Kd.R_new' (Kd.R_new' (Kd.R_new' ho0 (Kd.R_lt (rz HO_6))) (Kd.R_lt (rz HO_7))) (Kd.R_lt (rz HO427))) (Kd.R_lt (rz HO430))) sz); replace HO_6 := Aside0.mk (Kd.R_elder' (rz HO_6) (Kd.R_base ho0) hb); replace HO_7 := Aside0.mk (Kd.R_elder' (rz HO_7) (Kd.R_base ho0) hb); replace HO427 := Aside0.mk (Kd.R_elder' (rz HO427) (Kd.R_base ho0) hb); replace HO430 := Aside0.mk (Kd.R_elder' (rz HO430) (Kd.R_base ho0) hb); replace HB := bp hb; clear hb ho0))
              go_roundg k2
              case measure => have := HK1.out; have := HK2.out; omega
              case rel => exact ⟨(y424), (t431), (wrap64 (x8_1 - 1)), jz, H', ⟨by have := HK1.out; have := HK2.out; omega⟩, ⟨by (with_reducible repeat (first | apply Kd.R_alloc | apply Kd.R_drewN | apply Kd.R_drew)); exact Kd.R_mono HO_6.out (fun _ hk => hk.2)⟩, ⟨by (with_reducible repeat (first | apply Kd.R_alloc | apply Kd.R_drewN | apply Kd.R_drew)); exact Kd.R_mono HO433.out (fun _ hk => hk.1.1.1.2)⟩, ⟨bz⟩⟩
             ·rw [if_neg c34] at H
              exact absurd H (by simp)
            ·rw [if_neg c33] at H
             exact absurd H (by simp)
        ·rw [if_neg c10] at H
         exact absurd H (by simp)
       ·rw [if_neg c9] at H
        exact absurd H (by simp)
      ·rw [if_neg c8] at H
       exact absurd H (by simp)
     ·rw [if_neg c7] at H; have c7b0 : decide (0 ≤ x8_1) = false := decide_eq_false c7; clear c7; obtain ⟨t411, A47, H⟩ := ob H; simp only [Option.some.injEq, Prod.mk.injEq] at H; obtain ⟨rfl, rfl⟩ := H; obtain ⟨Ao48, co48, eo48⟩ := Kd.R_slice HO_6.out; subst eo48
      go_wp2_with (first | ((with_reducible refine gate_callee (f := 154) rfl ?_); refine zC 61 Try.func154 #[.slice Ao48 x6_1.length co48] ?_; (with_reducible refine (dioramaref02_trimmed.calls k1 (fun k_ => some k_ = (.slice Ao48 x6_1.length co48 : Value).ownBlock) (.slice Ao48 x6_1.length co48) x6_1 t411 w _ ?side1 ?side2 A47.out).mono ?_); (case side1 => repeat (first | (with_reducible first | exact HB.out | apply below_alloc | apply pw_below_drewN | apply below_drew1) | exact HB.out)); (case side2 => exact Kd.R_tight rfl HO_6.out); rintro e w49 ⟨v412, rfl, ho0, hb, hkp⟩; refine ⟨_, rfl, ?_⟩; have HO413 := Aside0.mk (Kd.R_mono (ok' := fun k_ => some k_ ≠ (u7 : Value).ownBlock) ho0 (fun k_ hk_ => Or.elim hk_ (fun hs_ => fun e_ => (((HO_7.out).1 k_ e_.symm)) hs_) (fun hn_ => (Kd.fresh' (Kd.R_lt (rz HO_7)) k_ hn_)))); replace HO_7 := Aside0.mk (Kd.R_mono (ok' := fun k_ => some k_ ≠ (v412 : Value).ownBlock) (Kd.R_keptB (HO_7.out) hkp (fun k_ hk_ hs_ => (hk_) hs_)) (fun k_ hk_ => fun e_ => Or.elim (ho0.1 k_ e_.symm) (fun hs_ => hk_.2.1 hs_) (fun hn_ => Nat.not_le.2 hk_.2.2 hn_))); replace HB := Aside0.mk (hb); clear HO_6; clear hb hkp ho0))
      go_ret2
      exact ⟨_, _, ez, by (with_reducible repeat (first | apply Kd.R_alloc | apply Kd.R_drewN | apply Kd.R_drew)); exact HO413.out, by (with_reducible repeat (first | apply Kd.R_alloc | apply Kd.R_drewN | apply Kd.R_drew)); exact HO_7.out, bz⟩
  ·rw [if_neg c4] at H
   exact absurd H (by simp)
 ·rw [if_neg c3] at H
  exact absurd H (by simp)
end Go.Proofs.Ytpbhepdgamoiaaa.E
namespace Go.Proofs.Ytpbhepdgamoiaaa.E
open Go.Proofs.Ytpbhepdgamoiaaa.Z Go.RowKit Go.Proofs.YtpbhepdgamoiaaaW.PrintWords Go.Proofs.YtpbhepdgamoiaaaW.PrintLast Go.Proofs.YtpbhepdgamoiaaaW.PrintMore
attribute [local go_sem] max2_int min2_int max_two min_two max_three min_three max_four min_four
set_option linter.unusedVariables false
set_option linter.unusedSimpArgs false
attribute [local go_sem high] eqA77
end Go.Proofs.Ytpbhepdgamoiaaa.E
namespace Go.Proofs.Ytpbhepdgamoiaaa.E
open Go.Proofs.Ytpbhepdgamoiaaa.Z Go.RowKit Go.Proofs.YtpbhepdgamoiaaaW.PrintWords Go.Proofs.YtpbhepdgamoiaaaW.PrintLast Go.Proofs.YtpbhepdgamoiaaaW.PrintMore
attribute [local go_sem] max2_int min2_int max_two min_two max_three min_three max_four min_four
set_option linter.unusedVariables false
set_option linter.unusedSimpArgs false
theorem eqA37 (d : Nat) (w : World) (x0 y0 : Int) (x1 y1 : Int) :
  (Op.equalIn (d + 2) 37 (.agg #[.int .i64 x0, .int .i64 x1]) (.agg #[.int .i64 y0, .int .i64 y1])).run Try.prog w = .ok (x0 == y0 && (x1 == y1)) w := by
 refine eqA_of Try.underlying37 (by kernel_rfl) ?_
 refine eqf_cons (by rfl) (by go_simp; rfl) (by go_simp; rfl) (by go_simp) ?_
 exact eqf_last (by rfl) (by go_simp; rfl) (by go_simp; rfl) (by go_simp)
end Go.Proofs.Ytpbhepdgamoiaaa.E
namespace Go.Proofs.Ytpbhepdgamoiaaa.E
open Go.Proofs.Ytpbhepdgamoiaaa.Z Go.RowKit Go.Proofs.YtpbhepdgamoiaaaW.PrintWords Go.Proofs.YtpbhepdgamoiaaaW.PrintLast Go.Proofs.YtpbhepdgamoiaaaW.PrintMore
attribute [local go_sem] max2_int min2_int max_two min_two max_three min_three max_four min_four
set_option linter.unusedVariables false
set_option linter.unusedSimpArgs false
attribute [local go_sem high] eqA37
end Go.Proofs.Ytpbhepdgamoiaaa.E
namespace Go.Proofs.Ytpbhepdgamoiaaa.E
open Go.Proofs.Ytpbhepdgamoiaaa.Z Go.RowKit Go.Proofs.YtpbhepdgamoiaaaW.PrintWords Go.Proofs.YtpbhepdgamoiaaaW.PrintLast Go.Proofs.YtpbhepdgamoiaaaW.PrintMore
attribute [local go_sem] max2_int min2_int max_two min_two max_three min_three max_four min_four
set_option linter.unusedVariables false
set_option linter.unusedSimpArgs false
def edit_isTick.f (a0 : Int) : Option (Bool) := if a0 ≥ 0 then (some (decide (a0 ≤ 1099511627776))) else (some false)
set_option maxHeartbeats 8000000 in
set_option maxRecDepth 100000 in
theorem edit_isTick.calls (a0 : Int) (r : Bool) (w : World) (h : edit_isTick.f a0 = some r) :
  Calls Try.prog 92 #[.int .i64 a0] w fun e w' => e = .returned (.bool r) ∧ Drawn0 w w' := by
 have H : (if a0 ≥ 0 then (some (decide (a0 ≤ 1099511627776))) else (some false)) = some r := h; clear h
 by_cases c2 : a0 ≥ 0
 ·rw [if_pos c2] at H; have c2b0 : decide (0 ≤ a0) = true := decide_eq_true c2; clear c2; obtain rfl := Option.some.inj H
  go_enter Try.func92, Try.ntmps92
  go_wp2
  go_ret
  exact ⟨by first | rfl | (simp; done) | (simp [*]; done), by repeat (first | exact Drawn0.refl _ | apply Drawn0.step)⟩
 ·rw [if_neg c2] at H; have c2b0 : decide (0 ≤ a0) = false := decide_eq_false c2; clear c2; obtain rfl := Option.some.inj H
  go_enter Try.func92, Try.ntmps92
  go_wp2
  go_ret
  exact ⟨by first | rfl | (simp; done) | (simp [*]; done), by repeat (first | exact Drawn0.refl _ | apply Drawn0.step)⟩
def edit_clocks_cut.l0 : Nat → Int → Int → List (S77) → Int → List (S77) → Int → Int → Int → Int → Option ((List (S77)) × Int)
  | 0, _, _, _, _, _, _, _, _, _ => none
  | k + 1, x2, x3, x10, x11, x19, x20, x21, x866000, x866001 => if x21 < x20 then (if 0 ≤ x21 then (if x21 < (x19.length : Int) then (if (mx x11 x2) ≥ (mn (wrap64 (x11 + ((rd_T77 x19 x21).f0))) x3) then (edit_clocks_cut.l0 k x2 x3 x10 (wrap64 (x11 + ((rd_T77 x19 x21).f0))) x19 x20 (wrap64 (x21 + 1)) x866000 x866001) else (if ((rd_T77 x19 x21).f1) ≥ 0 then ((edit_clocks_after.f x866000 x866001 (wrap64 ((mn (wrap64 (x11 + ((rd_T77 x19 x21).f0))) x3) - (mx x11 x2))) ((rd_T77 x19 x21).f1) ((rd_T77 x19 x21).f2) ((rd_T77 x19 x21).f3) (wrap64 ((mx x11 x2) - x11))).bind fun bt872 => (if bt872.2 = 0 then (if x10.length < 4398046511104 then (edit_clocks_cut.l0 k x2 x3 (x10 ++ [(⟨wrap64 ((mn (wrap64 (x11 + ((rd_T77 x19 x21).f0))) x3) - (mx x11 x2)), bt872.1, (rd_T77 x19 x21).f2, (rd_T77 x19 x21).f3⟩ : S77)]) (wrap64 (x11 + ((rd_T77 x19 x21).f0))) x19 x20 (wrap64 (x21 + 1)) x866000 x866001) else (none)) else (some (([] : List (S77)), bt872.2)))) else (if x10.length < 4398046511104 then (edit_clocks_cut.l0 k x2 x3 (x10 ++ [(⟨wrap64 ((mn (wrap64 (x11 + ((rd_T77 x19 x21).f0))) x3) - (mx x11 x2)), (rd_T77 x19 x21).f1, (rd_T77 x19 x21).f2, (rd_T77 x19 x21).f3⟩ : S77)]) (wrap64 (x11 + ((rd_T77 x19 x21).f0))) x19 x20 (wrap64 (x21 + 1)) x866000 x866001) else (none)))) else (none)) else (none)) else ((edit_clocks_normal.f k x866000 x866001 x10).bind fun bt866 => (some (bt866.1, bt866.2)))
def edit_clocks_cut.f (k : Nat) (a0_0 : Int) (a0_1 : Int) (l1 : List (S77)) (a2 : Int) (a3 : Int) : Option ((List (S77)) × Int) := edit_clocks_cut.l0 k a2 a3 ([] : List (S77)) 0 l1 (l1.length : Int) 0 a0_0 a0_1
set_option maxHeartbeats 8000000 in
set_option maxRecDepth 100000 in
theorem edit_clocks_cut.calls (k : Nat) (a0_0 : Int) (a0_1 : Int) (A1 : Option Addr) (c1 : Nat) (l1 : List (S77)) (a2 : Int) (a3 : Int) (r1 : List (S77)) (r2 : Int) (w : World) (hr1 : Kd.C k77 w A1 l1.length l1) (hc1 : l1.length ≤ c1) (h : edit_clocks_cut.f k a0_0 a0_1 l1 a2 a3 = some (r1, r2)) :
  Calls Try.prog 93 #[.agg #[.int .i64 a0_0, .int .i64 a0_1], .slice A1 l1.length c1, .int .i64 a2, .int .i64 a3] w fun e w' => ∃ v0_ : Value, e = .returned (.tuple #[v0_, .int .i64 r2]) ∧ Kd.R k77 77 w' w.heap.size (fun _ => True) v0_ r1 ∧ Below w.heap.size w w' := by
 have hu79 := Try.underlying79; have hu77 := Try.underlying77; have HR1 := Aside0.mk hr1; have HC1 := Aside0.mk hc1; clear hr1 hc1; have HB := Aside0.mk (Below.refl w.heap.size w); have H : (edit_clocks_cut.l0 k a2 a3 ([] : List (S77)) 0 l1 (l1.length : Int) 0 a0_0 a0_1) = some (r1, r2) := h; clear h; have H' := Aside0.mk H; clear H
 go_enter Try.func93, Try.ntmps93
 go_wp2_with (first | ((with_reducible refine gate_dst (N := 4) rfl ?_); refine zB 4 79 #[.int .i64 a0_0, .int .i64 a0_1] ?_; intro gb865 hg w5 hbox hb; have BK865 := Aside0.mk hbox; have GW865 := gz hg; have GE865 := gz hg; replace HB := bp hb; clear hb hbox hg))
 repeat (go_quiet (first | ((with_reducible refine gate_dst (N := 4) rfl ?_); refine zB 4 79 #[.int .i64 a0_0, .int .i64 a0_1] ?_; intro gb865 hg w5 hbox hb; have n0_ := bp hb; have n1_ := Aside0.mk hbox; have n2_ := gz hg; have n3_ := gz hg; clear HB; have HB := n0_; have BK865 := n1_; have GW865 := n2_; have GE865 := n3_; clear n0_ n1_ n2_ n3_; clear hb hbox hg)); try go_wp2_with (first | ((with_reducible refine gate_dst (N := 4) rfl ?_); refine zB 4 79 #[.int .i64 a0_0, .int .i64 a0_1] ?_; intro gb865 hg w5 hbox hb; have BK865 := Aside0.mk hbox; have GW865 := gz hg; have GE865 := gz hg; replace HB := bp hb; clear hb hbox hg)))
 go_loopg [10, 11, 21] k (fun kq v10 v11 v21 w' => ∃ (x10_1 : List (S77)) (x11_1 : Int) (x21_1 : Int), v11 = .int .i64 x11_1 ∧ v21 = .int .i64 x21_1 ∧ Aside0 (edit_clocks_cut.l0 kq a2 a3 x10_1 x11_1 l1 (l1.length : Int) x21_1 a0_0 a0_1 = some (r1, r2)) ∧ Aside0 (kq ≤ k) ∧ Aside0 (Kd.R k77 77 w' w.heap.size (fun _ => True) v10 x10_1) ∧ Aside0 (w'.heap[gb865]? = some (.cells #[.int .i64 a0_0, .int .i64 a0_1] 79 (0, 0))) ∧ Aside0 (Below w.heap.size w w'))
 case atStart => exact ⟨(([] : List (S77))), (0), (0), jz, jz, H', ⟨Nat.le_refl _⟩, ⟨by first | exact Kd.R_nil _ _ _ _ _ | exact Kd.N_nil _ _ _ _ _ | exact Kd.V_nil _ _ _ _ _ | exact Kd.Q_nil _ _ _ _ _ | exact Kd.S_nil _ _ _ _ _⟩, ⟨kz⟩, ⟨bz⟩⟩
 case round =>
  clear H'
  try clear c1
  try clear p2
  obtain ⟨x10_1, x11_1, x21_1, rfl, rfl, HA, HK1, HO_10, BK865, HB⟩ := hrel
  cases gk with
  | zero => exact absurd HA.out (by simp [edit_clocks_cut.l0])
  | succ k1 =>
   have H := HA.out; clear HA; simp only [edit_clocks_cut.l0] at H
   by_cases c6 : x21_1 < (l1.length : Int)
   ·rw [if_pos c6] at H; have c6b0 : decide (x21_1 < (l1.length : Int)) = true := decide_eq_true c6; clear c6
    by_cases c7 : 0 ≤ x21_1
    ·rw [if_pos c7] at H; have c7b0 : decide (0 ≤ x21_1) = true := decide_eq_true c7; clear c7
     by_cases c8 : x21_1 < (l1.length : Int)
     ·rw [if_pos c8] at H; have c8b0 : decide (x21_1 < (l1.length : Int)) = true := decide_eq_true c8; clear c8; obtain ⟨ji9, hji9⟩ : ∃ j_ : Int, (mx x11_1 a2) = j_ := ⟨_, rfl⟩; replace H : (if (ji9) ≥ (mn (wrap64 (x11_1 + ((rd_T77 l1 x21_1).f0))) a3) then (edit_clocks_cut.l0 k1 a2 a3 x10_1 (wrap64 (x11_1 + ((rd_T77 l1 x21_1).f0))) l1 (l1.length : Int) (wrap64 (x21_1 + 1)) a0_0 a0_1) else (if ((rd_T77 l1 x21_1).f1) ≥ 0 then ((edit_clocks_after.f a0_0 a0_1 (wrap64 ((mn (wrap64 (x11_1 + ((rd_T77 l1 x21_1).f0))) a3) - (ji9))) ((rd_T77 l1 x21_1).f1) ((rd_T77 l1 x21_1).f2) ((rd_T77 l1 x21_1).f3) (wrap64 ((ji9) - x11_1))).bind fun bt872 => (if bt872.2 = 0 then (if x10_1.length < 4398046511104 then (edit_clocks_cut.l0 k1 a2 a3 (x10_1 ++ [(⟨wrap64 ((mn (wrap64 (x11_1 + ((rd_T77 l1 x21_1).f0))) a3) - (ji9)), bt872.1, (rd_T77 l1 x21_1).f2, (rd_T77 l1 x21_1).f3⟩ : S77)]) (wrap64 (x11_1 + ((rd_T77 l1 x21_1).f0))) l1 (l1.length : Int) (wrap64 (x21_1 + 1)) a0_0 a0_1) else (none)) else (some (([] : List (S77)), bt872.2)))) else (if x10_1.length < 4398046511104 then (edit_clocks_cut.l0 k1 a2 a3 (x10_1 ++ [(⟨wrap64 ((mn (wrap64 (x11_1 + ((rd_T77 l1 x21_1).f0))) a3) - (ji9)), (rd_T77 l1 x21_1).f1, (rd_T77 l1 x21_1).f2, (rd_T77 l1 x21_1).f3⟩ : S77)]) (wrap64 (x11_1 + ((rd_T77 l1 x21_1).f0))) l1 (l1.length : Int) (wrap64 (x21_1 + 1)) a0_0 a0_1) else (none)))) = some (r1, r2) := by first | (rw [hji9] at H; exact H) | (simp only [hji9] at H ⊢; exact H)
      have hji9_ : (if x11_1 < a2 then a2 else x11_1) = ji9 := hji9; obtain ⟨ji10, hji10⟩ : ∃ j_ : Int, (mn (wrap64 (x11_1 + ((rd_T77 l1 x21_1).f0))) a3) = j_ := ⟨_, rfl⟩; replace H : (if (ji9) ≥ (ji10) then (edit_clocks_cut.l0 k1 a2 a3 x10_1 (wrap64 (x11_1 + ((rd_T77 l1 x21_1).f0))) l1 (l1.length : Int) (wrap64 (x21_1 + 1)) a0_0 a0_1) else (if ((rd_T77 l1 x21_1).f1) ≥ 0 then ((edit_clocks_after.f a0_0 a0_1 (wrap64 ((ji10) - (ji9))) ((rd_T77 l1 x21_1).f1) ((rd_T77 l1 x21_1).f2) ((rd_T77 l1 x21_1).f3) (wrap64 ((ji9) - x11_1))).bind fun bt872 => (if bt872.2 = 0 then (if x10_1.length < 4398046511104 then (edit_clocks_cut.l0 k1 a2 a3 (x10_1 ++ [(⟨wrap64 ((ji10) - (ji9)), bt872.1, (rd_T77 l1 x21_1).f2, (rd_T77 l1 x21_1).f3⟩ : S77)]) (wrap64 (x11_1 + ((rd_T77 l1 x21_1).f0))) l1 (l1.length : Int) (wrap64 (x21_1 + 1)) a0_0 a0_1) else (none)) else (some (([] : List (S77)), bt872.2)))) else (if x10_1.length < 4398046511104 then (edit_clocks_cut.l0 k1 a2 a3 (x10_1 ++ [(⟨wrap64 ((ji10) - (ji9)), (rd_T77 l1 x21_1).f1, (rd_T77 l1 x21_1).f2, (rd_T77 l1 x21_1).f3⟩ : S77)]) (wrap64 (x11_1 + ((rd_T77 l1 x21_1).f0))) l1 (l1.length : Int) (wrap64 (x21_1 + 1)) a0_0 a0_1) else (none)))) = some (r1, r2) := by first | (rw [hji10] at H; exact H) | (simp only [hji10] at H ⊢; exact H)
      have hji10_ : (if a3 < (wrap64 (x11_1 + ((rd_T77 l1 x21_1).f0))) then a3 else (wrap64 (x11_1 + ((rd_T77 l1 x21_1).f0)))) = ji10 := hji10
      by_cases c11 : (ji9) ≥ (ji10)
      ·rw [if_pos c11] at H; have c11b0 : decide ((ji10) ≤ (ji9)) = true := decide_eq_true c11; clear c11; have H' := Aside0.mk H; clear H; have p870 : 0 ≤ (x21_1 : Int) := od; have q870 : x21_1 < (l1.length : Int) := od; obtain ⟨ad870, e870, hx870_0, hx870_1, hx870_2, hx870_3⟩ := at_T77 HR1.out x21_1 p870 q870
       cases e870
       replace hx870_0 := cl HB hx870_0; replace hx870_1 := cl HB hx870_1; replace hx870_2 := cl HB hx870_2; replace hx870_3 := cl HB hx870_3; replace p870 := eq_true p870; replace q870 := eq_true q870
       go_wp2_with (first | ((with_reducible refine gate_dst (N := 13) rfl ?_); refine zB 13 77 #[.int .i64 0, .int .i64 0, .int .i64 0, .int .i64 0] ?_; intro gb871 hg w12 hbox hb; replace HO_10 := Aside0.mk (Kd.R_below (Kd.R_elderB (rz HO_10) gb871 (Nat.le_of_eq hg.symm)) hb); have BK871 := Aside0.mk hbox; have GW871 := gz hg; have GE871 := gz hg; replace HB := bp hb; have NB865_871 := Aside0.mk ((by rw [hg]; exact Nat.ne_of_lt (bl BK865) : gb865 ≠ gb871)); have NB871_865 := Aside0.mk ((by rw [hg]; exact Nat.ne_of_gt (bl BK865) : gb871 ≠ gb865)); replace BK865 := kb BK865 hb; clear hb hbox hg; have hnb13 := NB871_865.out; have hnc13 := NB865_871.out; obtain ⟨hcz14_0, hcz14_1, hcz14_2, hcz14_3, hfz14_0, hfz14_1, hfz14_2, hfz14_3⟩ := xc4 BK871))
       repeat (go_quiet (first | ((with_reducible refine gate_dst (N := 13) rfl ?_); refine zB 13 77 #[.int .i64 0, .int .i64 0, .int .i64 0, .int .i64 0] ?_; intro gb871 hg w12 hbox hb; have n0_ := Aside0.mk (Kd.R_below (Kd.R_elderB (rz HO_10) gb871 (Nat.le_of_eq hg.symm)) hb); have n1_ := kb BK865 hb; have n2_ := bp hb; have n3_ := Aside0.mk hbox; have n4_ := gz hg; have n5_ := gz hg; have n6_ := Aside0.mk ((by rw [hg]; exact Nat.ne_of_lt (bl BK865) : gb865 ≠ gb871)); have n7_ := Aside0.mk ((by rw [hg]; exact Nat.ne_of_gt (bl BK865) : gb871 ≠ gb865)); clear HO_10; clear BK865; clear HB; have HO_10 := n0_; have BK865 := n1_; have HB := n2_; have BK871 := n3_; have GW871 := n4_; have GE871 := n5_; have NB865_871 := n6_; have NB871_865 := n7_; clear n0_ n1_ n2_ n3_ n4_ n5_ n6_ n7_; clear hb hbox hg; have hnb13 := NB871_865.out; have hnc13 := NB865_871.out; have hcz14_0 : w12.cell? ⟨gb871, 0, none⟩ = some (.int .i64 0) := ct BK871 0; have hcz14_1 : w12.cell? ⟨gb871, 1, none⟩ = some (.int .i64 0) := ct BK871 1; have hcz14_2 : w12.cell? ⟨gb871, 2, none⟩ = some (.int .i64 0) := ct BK871 2; have hcz14_3 : w12.cell? ⟨gb871, 3, none⟩ = some (.int .i64 0) := ct BK871 3; have hfz14_0 := blk_frozen BK871.out 0; have hfz14_1 := blk_frozen BK871.out 1; have hfz14_2 := blk_frozen BK871.out 2; have hfz14_3 := blk_frozen BK871.out 3)); try go_wp2_with (first | ((with_reducible refine gate_dst (N := 13) rfl ?_); refine zB 13 77 #[.int .i64 0, .int .i64 0, .int .i64 0, .int .i64 0] ?_; intro gb871 hg w12 hbox hb; replace HO_10 := Aside0.mk (Kd.R_below (Kd.R_elderB (rz HO_10) gb871 (Nat.le_of_eq hg.symm)) hb); have BK871 := Aside0.mk hbox; have GW871 := gz hg; have GE871 := gz hg; replace HB := bp hb; have NB865_871 := Aside0.mk ((by rw [hg]; exact Nat.ne_of_lt (bl BK865) : gb865 ≠ gb871)); have NB871_865 := Aside0.mk ((by rw [hg]; exact Nat.ne_of_gt (bl BK865) : gb871 ≠ gb865)); replace BK865 := kb BK865 hb; clear hb hbox hg; have hnb13 := NB871_865.out; have hnc13 := NB865_871.out; have hcz14_0 : w12.cell? ⟨gb871, 0, none⟩ = some (.int .i64 0) := ct BK871 0; have hcz14_1 : w12.cell? ⟨gb871, 1, none⟩ = some (.int .i64 0) := ct BK871 1; have hcz14_2 : w12.cell? ⟨gb871, 2, none⟩ = some (.int .i64 0) := ct BK871 2; have hcz14_3 : w12.cell? ⟨gb871, 3, none⟩ = some (.int .i64 0) := ct BK871 3; have hfz14_0 := blk_frozen BK871.out 0; have hfz14_1 := blk_frozen BK871.out 1; have hfz14_2 := blk_frozen BK871.out 2; have hfz14_3 := blk_frozen BK871.out 3)))
       go_roundg k1
       case measure => have := HK1.out; omega
       case rel => exact ⟨(x10_1), (wrap64 (x11_1 + ((rd_T77 l1 x21_1).f0))), (wrap64 (x21_1 + 1)), jz, jz, H', ⟨by have := HK1.out; omega⟩, ⟨by (with_reducible repeat (first | apply Kd.R_alloc | apply Kd.R_drewN | apply Kd.R_drew)); exact Kd.R_mono (Kd.R_far (p := ⟨gb871, 3, none⟩) (Kd.R_far (p := ⟨gb871, 2, none⟩) (Kd.R_far (p := ⟨gb871, 1, none⟩) (Kd.R_far (p := ⟨gb871, 0, none⟩) (Kd.R_mono HO_10.out (fun k_ hk => (⟨hk, hk.2⟩ : _ ∧ k_ ≠ gb871))) (fun _ hk => hk.2) (.int .i64 ((rd_T77 l1 x21_1).f0))) (fun _ hk => hk.2) (.int .i64 ((rd_T77 l1 x21_1).f1))) (fun _ hk => hk.2) (.int .i64 ((rd_T77 l1 x21_1).f2))) (fun _ hk => hk.2) (.int .i64 ((rd_T77 l1 x21_1).f3))) (fun _ hk => trivial)⟩, ⟨by (with_reducible repeat (first | refine blk_drewN ?_ _ | refine blk_drew ?_ | refine blk_alloc ?_ _)); refine blk_far ?_ NB865_871.out _; (with_reducible repeat (first | refine blk_drewN ?_ _ | refine blk_drew ?_ | refine blk_alloc ?_ _)); refine blk_far ?_ NB865_871.out _; (with_reducible repeat (first | refine blk_drewN ?_ _ | refine blk_drew ?_ | refine blk_alloc ?_ _)); refine blk_far ?_ NB865_871.out _; (with_reducible repeat (first | refine blk_drewN ?_ _ | refine blk_drew ?_ | refine blk_alloc ?_ _)); refine blk_far ?_ NB865_871.out _; (with_reducible repeat (first | refine blk_drewN ?_ _ | refine blk_drew ?_ | refine blk_alloc ?_ _)); exact BK865.out⟩, ⟨bz⟩⟩
      ·rw [if_neg c11] at H; have c11b0 : decide ((ji10) ≤ (ji9)) = false := decide_eq_false c11; clear c11
       by_cases c15 : ((rd_T77 l1 x21_1).f1) ≥ 0
       ·rw [if_pos c15] at H; have c15b0 : decide (0 ≤ ((rd_T77 l1 x21_1).f1)) = true := decide_eq_true c15; clear c15; obtain ⟨⟨t872, t873⟩, A16, H⟩ := ob H
        (try dsimp only at H)
        by_cases c17 : t873 = 0
        ·rw [if_pos c17] at H; have c17b0 : (t873 == 0) = true := beq_iff_eq.mpr c17; have c17b1 : (t873 != 0) = false := bne_eq_false_iff_eq.mpr c17; clear c17
         by_cases c18 : x10_1.length < 4398046511104
         ·rw [if_pos c18] at H; have LMc18 := Aside0.mk c18; clear c18; obtain ⟨y874, hy874⟩ : ∃ y_ : List (S77), y_ = (x10_1 ++ [(⟨wrap64 ((ji10) - (ji9)), t872, (rd_T77 l1 x21_1).f2, (rd_T77 l1 x21_1).f3⟩ : S77)]) := ⟨_, rfl⟩; replace H : (edit_clocks_cut.l0 k1 a2 a3 y874 (wrap64 (x11_1 + ((rd_T77 l1 x21_1).f0))) l1 (l1.length : Int) (wrap64 (x21_1 + 1)) a0_0 a0_1) = some (r1, r2) := by first | (rw [hy874]; with_reducible exact H) | (have H2_ := (Option.bind_some _ _).symm.trans H; rw [hy874]; with_reducible exact H2_) | (have H2_ := (Option.bind_some _ _).symm.trans H; with_reducible exact H2_) | with_reducible exact H | (rw [hy874]; exact H) | exact H
          have Ny874 := Aside0.mk hy874; clear hy874; have H' := Aside0.mk H; clear H; have p870 : 0 ≤ (x21_1 : Int) := od; have q870 : x21_1 < (l1.length : Int) := od; obtain ⟨ad870, e870, hx870_0, hx870_1, hx870_2, hx870_3⟩ := at_T77 HR1.out x21_1 p870 q870
          cases e870
          replace hx870_0 := cl HB hx870_0; replace hx870_1 := cl HB hx870_1; replace hx870_2 := cl HB hx870_2; replace hx870_3 := cl HB hx870_3; replace p870 := eq_true p870; replace q870 := eq_true q870
          go_wp2_with (first | ((with_reducible refine gate_dst (N := 13) rfl ?_); refine zB 13 77 #[.int .i64 0, .int .i64 0, .int .i64 0, .int .i64 0] ?_; intro gb871 hg w19 hbox hb; replace HO_10 := Aside0.mk (Kd.R_below (Kd.R_elderB (rz HO_10) gb871 (Nat.le_of_eq hg.symm)) hb); have BK871 := Aside0.mk hbox; have GW871 := gz hg; have GE871 := gz hg; replace HB := bp hb; have NB865_871 := Aside0.mk ((by rw [hg]; exact Nat.ne_of_lt (bl BK865) : gb865 ≠ gb871)); have NB871_865 := Aside0.mk ((by rw [hg]; exact Nat.ne_of_gt (bl BK865) : gb871 ≠ gb865)); replace BK865 := kb BK865 hb; clear hb hbox hg; have hnb20 := NB871_865.out; have hnc20 := NB865_871.out; obtain ⟨hcz21_0, hcz21_1, hcz21_2, hcz21_3, hfz21_0, hfz21_1, hfz21_2, hfz21_3⟩ := xc4 BK871; obtain ⟨hcz22_0, hcz22_1, hfz22_0, hfz22_1⟩ := xc2 BK865) | (go_at_call 135; (with_reducible refine (wa1 A16.out _).mono ?_); rintro e w23a ⟨gq1, rfl, hs_⟩; have HS1 := Aside0.mk hs_; clear hs_) | (go_at_call 76; (with_reducible refine (wa2 A16.out HS1.out).mono ?_); rintro e w23 ⟨rfl, hb⟩; clear HS1; replace HO_10 := Aside0.mk (Kd.R_below (by (with_reducible repeat (first | apply Kd.R_alloc | apply Kd.R_drewN | apply Kd.R_drew)); exact (Kd.R_mono (Kd.R_far (p := ⟨gb871, 0, none⟩) (Kd.R_far (p := ⟨gb871, 3, none⟩) (Kd.R_far (p := ⟨gb871, 2, none⟩) (Kd.R_far (p := ⟨gb871, 1, none⟩) (Kd.R_far (p := ⟨gb871, 0, none⟩) (Kd.R_mono HO_10.out (fun k_ hk => (⟨hk, hk.2⟩ : _ ∧ k_ ≠ gb871))) (fun _ hk => hk.2) (.int .i64 ((rd_T77 l1 x21_1).f0))) (fun _ hk => hk.2) (.int .i64 ((rd_T77 l1 x21_1).f1))) (fun _ hk => hk.2) (.int .i64 ((rd_T77 l1 x21_1).f2))) (fun _ hk => hk.2) (.int .i64 ((rd_T77 l1 x21_1).f3))) (fun _ hk => hk.2) (.int .i64 (wrap64 ((ji10) - (ji9))))) (fun _ h_ => h_.1))) hb); replace BK865 := Aside0.mk (blk_below (g := gb865) (o := .cells #[.int .i64 a0_0, .int .i64 a0_1] 79 (0, 0)) (by (with_reducible repeat (first | refine blk_drewN ?_ _ | refine blk_drew ?_ | refine blk_alloc ?_ _)); refine blk_far ?_ NB865_871.out _; (with_reducible repeat (first | refine blk_drewN ?_ _ | refine blk_drew ?_ | refine blk_alloc ?_ _)); refine blk_far ?_ NB865_871.out _; (with_reducible repeat (first | refine blk_drewN ?_ _ | refine blk_drew ?_ | refine blk_alloc ?_ _)); refine blk_far ?_ NB865_871.out _; (with_reducible repeat (first | refine blk_drewN ?_ _ | refine blk_drew ?_ | refine blk_alloc ?_ _)); refine blk_far ?_ NB865_871.out _; (with_reducible repeat (first | refine blk_drewN ?_ _ | refine blk_drew ?_ | refine blk_alloc ?_ _)); refine blk_far ?_ NB865_871.out _; (with_reducible repeat (first | refine blk_drewN ?_ _ | refine blk_drew ?_ | refine blk_alloc ?_ _)); exact BK865.out) hb); replace BK871 := Aside0.mk (blk_below (g := gb871) (o := .cells #[.int .i64 (wrap64 ((ji10) - (ji9))), .int .i64 ((rd_T77 l1 x21_1).f1), .int .i64 ((rd_T77 l1 x21_1).f2), .int .i64 ((rd_T77 l1 x21_1).f3)] 77 (0, 0)) (by (with_reducible repeat (first | refine blk_drewN ?_ _ | refine blk_drew ?_ | refine blk_alloc ?_ _)); refine blk_put (cs := #[.int .i64 ((rd_T77 l1 x21_1).f0), .int .i64 ((rd_T77 l1 x21_1).f1), .int .i64 ((rd_T77 l1 x21_1).f2), .int .i64 ((rd_T77 l1 x21_1).f3)]) ?_ 0 _ rfl; (with_reducible repeat (first | refine blk_drewN ?_ _ | refine blk_drew ?_ | refine blk_alloc ?_ _)); refine blk_put (cs := #[.int .i64 ((rd_T77 l1 x21_1).f0), .int .i64 ((rd_T77 l1 x21_1).f1), .int .i64 ((rd_T77 l1 x21_1).f2), .int .i64 0]) ?_ 3 _ rfl; (with_reducible repeat (first | refine blk_drewN ?_ _ | refine blk_drew ?_ | refine blk_alloc ?_ _)); refine blk_put (cs := #[.int .i64 ((rd_T77 l1 x21_1).f0), .int .i64 ((rd_T77 l1 x21_1).f1), .int .i64 0, .int .i64 0]) ?_ 2 _ rfl; (with_reducible repeat (first | refine blk_drewN ?_ _ | refine blk_drew ?_ | refine blk_alloc ?_ _)); refine blk_put (cs := #[.int .i64 ((rd_T77 l1 x21_1).f0), .int .i64 0, .int .i64 0, .int .i64 0]) ?_ 1 _ rfl; (with_reducible repeat (first | refine blk_drewN ?_ _ | refine blk_drew ?_ | refine blk_alloc ?_ _)); refine blk_put (cs := #[.int .i64 0, .int .i64 0, .int .i64 0, .int .i64 0]) ?_ 0 _ rfl; (with_reducible repeat (first | refine blk_drewN ?_ _ | refine blk_drew ?_ | refine blk_alloc ?_ _)); exact BK871.out) hb); replace HB := bp hb; clear hb; obtain ⟨hcz24_0, hcz24_1, hcz24_2, hcz24_3, hfz24_0, hfz24_1, hfz24_2, hfz24_3⟩ := xc4 BK871) | ((with_reducible refine gate_builtin (b := .append) (xs := #[.tmp 64, .tmp 66]) rfl ?_); at_builtin; refine Kd.R_append k77 (w0 := w) w.heap.size rfl (.tmp 64) (.tmp 66) 22 77 (.agg #[(.int .i64 0), (.int .i64 0), (.int .i64 0), (.int .i64 0)]) 32 rfl Try.underlying22 info77 rfl (by decide) (by omega) u10 x10_1 (⟨wrap64 ((ji10) - (ji9)), t872, (rd_T77 l1 x21_1).f2, (rd_T77 l1 x21_1).f3⟩ : S77) [.int .i64 (wrap64 ((ji10) - (ji9))), .int .i64 t872, .int .i64 ((rd_T77 l1 x21_1).f2), .int .i64 ((rd_T77 l1 x21_1).f3)] (fun k_ => k_ ≠ gb871) (fun _ => False) rfl (by first | (go_simp; done) | (go_simp; rfl)) ?aP (fun _ hk => hk.elim) ?aF ?aO ?aB ?aS ?aL ?_; (case aP => exact k77_mkM _ _ _ (⟨wrap64 ((ji10) - (ji9)), t872, (rd_T77 l1 x21_1).f2, (rd_T77 l1 x21_1).f3⟩ : S77)); (case aB => exact bz); (case aF => exact (fun k_ hk => Kd.freshB (g := gb871) (o := .cells #[.int .i64 (wrap64 ((ji10) - (ji9))), .int .i64 t872, .int .i64 ((rd_T77 l1 x21_1).f2), .int .i64 ((rd_T77 l1 x21_1).f3)] 77 (0, 0)) (by (with_reducible repeat (first | refine blk_drewN ?_ _ | refine blk_drew ?_ | refine blk_alloc ?_ _)); refine blk_put (cs := #[.int .i64 (wrap64 ((ji10) - (ji9))), .int .i64 ((rd_T77 l1 x21_1).f1), .int .i64 ((rd_T77 l1 x21_1).f2), .int .i64 ((rd_T77 l1 x21_1).f3)]) ?_ 1 _ rfl; (with_reducible repeat (first | refine blk_drewN ?_ _ | refine blk_drew ?_ | refine blk_alloc ?_ _)); exact BK871.out) k_ hk)); (case aO => exact (by (with_reducible repeat (first | apply Kd.R_alloc | apply Kd.R_drewN | apply Kd.R_drew)); exact Kd.R_mono (Kd.R_far (p := ⟨gb871, 1, none⟩) (Kd.R_mono HO_10.out (fun k_ hk => (⟨hk, hk.2⟩ : _ ∧ k_ ≠ gb871))) (fun _ hk => hk.2) (.int .i64 t872)) (fun _ hk => hk.1.2))); (case aS => exact sz); (case aL => have := LMc18.out; omega); intro v875 w25 ho hb hg hat; rw [← Ny874.out] at ho; replace BK865 := Aside0.mk (blk_grown (g := gb865) (o := .cells #[.int .i64 a0_0, .int .i64 a0_1] 79 (0, 0)) (by (with_reducible repeat (first | refine blk_drewN ?_ _ | refine blk_drew ?_ | refine blk_alloc ?_ _)); refine blk_far ?_ NB865_871.out _; (with_reducible repeat (first | refine blk_drewN ?_ _ | refine blk_drew ?_ | refine blk_alloc ?_ _)); exact BK865.out) hg (Kd.R_ne HO_10.out BK865.out (by decide))); replace BK871 := Aside0.mk (blk_grown (g := gb871) (o := .cells #[.int .i64 (wrap64 ((ji10) - (ji9))), .int .i64 t872, .int .i64 ((rd_T77 l1 x21_1).f2), .int .i64 ((rd_T77 l1 x21_1).f3)] 77 (0, 0)) (by (with_reducible repeat (first | refine blk_drewN ?_ _ | refine blk_drew ?_ | refine blk_alloc ?_ _)); refine blk_put (cs := #[.int .i64 (wrap64 ((ji10) - (ji9))), .int .i64 ((rd_T77 l1 x21_1).f1), .int .i64 ((rd_T77 l1 x21_1).f2), .int .i64 ((rd_T77 l1 x21_1).f3)]) ?_ 1 _ rfl; (with_reducible repeat (first | refine blk_drewN ?_ _ | refine blk_drew ?_ | refine blk_alloc ?_ _)); exact BK871.out) hg (Kd.R_away HO_10.out (fun _ hk => hk.2))); replace HB := Aside0.mk (hb); have HO876 := Aside0.mk (ho); clear HO_10; clear ho hb hg hat))
          repeat (go_quiet (first | ((with_reducible refine gate_dst (N := 13) rfl ?_); refine zB 13 77 #[.int .i64 0, .int .i64 0, .int .i64 0, .int .i64 0] ?_; intro gb871 hg w19 hbox hb; replace HO_10 := Aside0.mk (Kd.R_below (Kd.R_elderB (rz HO_10) gb871 (Nat.le_of_eq hg.symm)) hb); have BK871 := Aside0.mk hbox; have GW871 := gz hg; have GE871 := gz hg; replace HB := bp hb; have NB865_871 := Aside0.mk ((by rw [hg]; exact Nat.ne_of_lt (bl BK865) : gb865 ≠ gb871)); have NB871_865 := Aside0.mk ((by rw [hg]; exact Nat.ne_of_gt (bl BK865) : gb871 ≠ gb865)); replace BK865 := kb BK865 hb; clear hb hbox hg; have hnb20 := NB871_865.out; have hnc20 := NB865_871.out; obtain ⟨hcz21_0, hcz21_1, hcz21_2, hcz21_3, hfz21_0, hfz21_1, hfz21_2, hfz21_3⟩ := xc4 BK871; obtain ⟨hcz22_0, hcz22_1, hfz22_0, hfz22_1⟩ := xc2 BK865) | (go_at_call 135; (with_reducible refine (wa1 A16.out _).mono ?_); rintro e w23a ⟨gq1, rfl, hs_⟩; have HS1 := Aside0.mk hs_; clear hs_) | (go_at_call 76; (with_reducible refine (wa2 A16.out HS1.out).mono ?_); rintro e w23 ⟨rfl, hb⟩; clear HS1; replace HO_10 := Aside0.mk (Kd.R_below (by (with_reducible repeat (first | apply Kd.R_alloc | apply Kd.R_drewN | apply Kd.R_drew)); exact (Kd.R_mono (Kd.R_far (p := ⟨gb871, 0, none⟩) (Kd.R_far (p := ⟨gb871, 3, none⟩) (Kd.R_far (p := ⟨gb871, 2, none⟩) (Kd.R_far (p := ⟨gb871, 1, none⟩) (Kd.R_far (p := ⟨gb871, 0, none⟩) (Kd.R_mono HO_10.out (fun k_ hk => (⟨hk, hk.2⟩ : _ ∧ k_ ≠ gb871))) (fun _ hk => hk.2) (.int .i64 ((rd_T77 l1 x21_1).f0))) (fun _ hk => hk.2) (.int .i64 ((rd_T77 l1 x21_1).f1))) (fun _ hk => hk.2) (.int .i64 ((rd_T77 l1 x21_1).f2))) (fun _ hk => hk.2) (.int .i64 ((rd_T77 l1 x21_1).f3))) (fun _ hk => hk.2) (.int .i64 (wrap64 ((ji10) - (ji9))))) (fun _ h_ => h_.1))) hb); replace BK865 := Aside0.mk (blk_below (g := gb865) (o := .cells #[.int .i64 a0_0, .int .i64 a0_1] 79 (0, 0)) (by (with_reducible repeat (first | refine blk_drewN ?_ _ | refine blk_drew ?_ | refine blk_alloc ?_ _)); refine blk_far ?_ NB865_871.out _; (with_reducible repeat (first | refine blk_drewN ?_ _ | refine blk_drew ?_ | refine blk_alloc ?_ _)); refine blk_far ?_ NB865_871.out _; (with_reducible repeat (first | refine blk_drewN ?_ _ | refine blk_drew ?_ | refine blk_alloc ?_ _)); refine blk_far ?_ NB865_871.out _; (with_reducible repeat (first | refine blk_drewN ?_ _ | refine blk_drew ?_ | refine blk_alloc ?_ _)); refine blk_far ?_ NB865_871.out _; (with_reducible repeat (first | refine blk_drewN ?_ _ | refine blk_drew ?_ | refine blk_alloc ?_ _)); refine blk_far ?_ NB865_871.out _; (with_reducible repeat (first | refine blk_drewN ?_ _ | refine blk_drew ?_ | refine blk_alloc ?_ _)); exact BK865.out) hb); replace BK871 := Aside0.mk (blk_below (g := gb871) (o := .cells #[.int .i64 (wrap64 ((ji10) - (ji9))), .int .i64 ((rd_T77 l1 x21_1).f1), .int .i64 ((rd_T77 l1 x21_1).f2), .int .i64 ((rd_T77 l1 x21_1).f3)] 77 (0, 0)) (by (with_reducible repeat (first | refine blk_drewN ?_ _ | refine blk_drew ?_ | refine blk_alloc ?_ _)); refine blk_put (cs := #[.int .i64 ((rd_T77 l1 x21_1).f0), .int .i64 ((rd_T77 l1 x21_1).f1), .int .i64 ((rd_T77 l1 x21_1).f2), .int .i64 ((rd_T77 l1 x21_1).f3)]) ?_ 0 _ rfl; (with_reducible repeat (first | refine blk_drewN ?_ _ | refine blk_drew ?_ | refine blk_alloc ?_ _)); refine blk_put (cs := #[.int .i64 ((rd_T77 l1 x21_1).f0), .int .i64 ((rd_T77 l1 x21_1).f1), .int .i64 ((rd_T77 l1 x21_1).f2), .int .i64 0]) ?_ 3 _ rfl; (with_reducible repeat (first | refine blk_drewN ?_ _ | refine blk_drew ?_ | refine blk_alloc ?_ _)); refine blk_put (cs := #[.int .i64 ((rd_T77 l1 x21_1).f0), .int .i64 ((rd_T77 l1 x21_1).f1), .int .i64 0, .int .i64 0]) ?_ 2 _ rfl; (with_reducible repeat (first | refine blk_drewN ?_ _ | refine blk_drew ?_ | refine blk_alloc ?_ _)); refine blk_put (cs := #[.int .i64 ((rd_T77 l1 x21_1).f0), .int .i64 0, .int .i64 0, .int .i64 0]) ?_ 1 _ rfl; (with_reducible repeat (first | refine blk_drewN ?_ _ | refine blk_drew ?_ | refine blk_alloc ?_ _)); refine blk_put (cs := #[.int .i64 0, .int .i64 0, .int .i64 0, .int .i64 0]) ?_ 0 _ rfl; (with_reducible repeat (first | refine blk_drewN ?_ _ | refine blk_drew ?_ | refine blk_alloc ?_ _)); exact BK871.out) hb); replace HB := bp hb; clear hb; obtain ⟨hcz24_0, hcz24_1, hcz24_2, hcz24_3, hfz24_0, hfz24_1, hfz24_2, hfz24_3⟩ := xc4 BK871) | ((with_reducible refine gate_builtin (b := .append) (xs := #[.tmp 64, .tmp 66]) rfl ?_); at_builtin; refine Kd.R_append k77 (w0 := w) w.heap.size rfl (.tmp 64) (.tmp 66) 22 77 (.agg #[(.int .i64 0), (.int .i64 0), (.int .i64 0), (.int .i64 0)]) 32 rfl Try.underlying22 info77 rfl (by decide) (by omega) u10 x10_1 (⟨wrap64 ((ji10) - (ji9)), t872, (rd_T77 l1 x21_1).f2, (rd_T77 l1 x21_1).f3⟩ : S77) [.int .i64 (wrap64 ((ji10) - (ji9))), .int .i64 t872, .int .i64 ((rd_T77 l1 x21_1).f2), .int .i64 ((rd_T77 l1 x21_1).f3)] (fun k_ => k_ ≠ gb871) (fun _ => False) rfl (by first | (go_simp; done) | (go_simp; rfl)) ?aP (fun _ hk => hk.elim) ?aF ?aO ?aB ?aS ?aL ?_; (case aP => exact k77_mkM _ _ _ (⟨wrap64 ((ji10) - (ji9)), t872, (rd_T77 l1 x21_1).f2, (rd_T77 l1 x21_1).f3⟩ : S77)); (case aB => exact bz); (case aF => exact (fun k_ hk => Kd.freshB (g := gb871) (o := .cells #[.int .i64 (wrap64 ((ji10) - (ji9))), .int .i64 t872, .int .i64 ((rd_T77 l1 x21_1).f2), .int .i64 ((rd_T77 l1 x21_1).f3)] 77 (0, 0)) (by (with_reducible repeat (first | refine blk_drewN ?_ _ | refine blk_drew ?_ | refine blk_alloc ?_ _)); refine blk_put (cs := #[.int .i64 (wrap64 ((ji10) - (ji9))), .int .i64 ((rd_T77 l1 x21_1).f1), .int .i64 ((rd_T77 l1 x21_1).f2), .int .i64 ((rd_T77 l1 x21_1).f3)]) ?_ 1 _ rfl; (with_reducible repeat (first | refine blk_drewN ?_ _ | refine blk_drew ?_ | refine blk_alloc ?_ _)); exact BK871.out) k_ hk)); (case aO => exact (by (with_reducible repeat (first | apply Kd.R_alloc | apply Kd.R_drewN | apply Kd.R_drew)); exact Kd.R_mono (Kd.R_far (p := ⟨gb871, 1, none⟩) (Kd.R_mono HO_10.out (fun k_ hk => (⟨hk, hk.2⟩ : _ ∧ k_ ≠ gb871))) (fun _ hk => hk.2) (.int .i64 t872)) (fun _ hk => hk.1.2))); (case aS => exact sz); (case aL => have := LMc18.out; omega); intro v875 w25 ho hb hg hat; rw [← Ny874.out] at ho; have n0_ := Aside0.mk (blk_grown (g := gb865) (o := .cells #[.int .i64 a0_0, .int .i64 a0_1] 79 (0, 0)) (by (with_reducible repeat (first | refine blk_drewN ?_ _ | refine blk_drew ?_ | refine blk_alloc ?_ _)); refine blk_far ?_ NB865_871.out _; (with_reducible repeat (first | refine blk_drewN ?_ _ | refine blk_drew ?_ | refine blk_alloc ?_ _)); exact BK865.out) hg (Kd.R_ne HO_10.out BK865.out (by decide))); have n1_ := Aside0.mk (blk_grown (g := gb871) (o := .cells #[.int .i64 (wrap64 ((ji10) - (ji9))), .int .i64 t872, .int .i64 ((rd_T77 l1 x21_1).f2), .int .i64 ((rd_T77 l1 x21_1).f3)] 77 (0, 0)) (by (with_reducible repeat (first | refine blk_drewN ?_ _ | refine blk_drew ?_ | refine blk_alloc ?_ _)); refine blk_put (cs := #[.int .i64 (wrap64 ((ji10) - (ji9))), .int .i64 ((rd_T77 l1 x21_1).f1), .int .i64 ((rd_T77 l1 x21_1).f2), .int .i64 ((rd_T77 l1 x21_1).f3)]) ?_ 1 _ rfl; (with_reducible repeat (first | refine blk_drewN ?_ _ | refine blk_drew ?_ | refine blk_alloc ?_ _)); exact BK871.out) hg (Kd.R_away HO_10.out (fun _ hk => hk.2))); have n2_ := Aside0.mk (hb); have n3_ := Aside0.mk (ho); clear BK865; clear BK871; clear HB; clear HO_10; have BK865 := n0_; have BK871 := n1_; have HB := n2_; have HO876 := n3_; clear n0_ n1_ n2_ n3_; clear ho hb hg hat)); try go_wp2_with (first | ((with_reducible refine gate_dst (N := 13) rfl ?_); refine zB 13 77 #[.int .i64 0, .int .i64 0, .int .i64 0, .int .i64 0] ?_; intro gb871 hg w19 hbox hb; replace HO_10 := Aside0.mk (Kd.R_below (Kd.R_elderB (rz HO_10) gb871 (Nat.le_of_eq hg.symm)) hb); have BK871 := Aside0.mk hbox; have GW871 := gz hg; have GE871 := gz hg; replace HB := bp hb; have NB865_871 := Aside0.mk ((by rw [hg]; exact Nat.ne_of_lt (bl BK865) : gb865 ≠ gb871)); have NB871_865 := Aside0.mk ((by rw [hg]; exact Nat.ne_of_gt (bl BK865) : gb871 ≠ gb865)); replace BK865 := kb BK865 hb; clear hb hbox hg; have hnb20 := NB871_865.out; have hnc20 := NB865_871.out; obtain ⟨hcz21_0, hcz21_1, hcz21_2, hcz21_3, hfz21_0, hfz21_1, hfz21_2, hfz21_3⟩ := xc4 BK871; obtain ⟨hcz22_0, hcz22_1, hfz22_0, hfz22_1⟩ := xc2 BK865) | (go_at_call 135; (with_reducible refine (wa1 A16.out _).mono ?_); rintro e w23a ⟨gq1, rfl, hs_⟩; have HS1 := Aside0.mk hs_; clear hs_) | (go_at_call 76; (with_reducible refine (wa2 A16.out HS1.out).mono ?_); rintro e w23 ⟨rfl, hb⟩; clear HS1; replace HO_10 := Aside0.mk (Kd.R_below (by (with_reducible repeat (first | apply Kd.R_alloc | apply Kd.R_drewN | apply Kd.R_drew)); exact (Kd.R_mono (Kd.R_far (p := ⟨gb871, 0, none⟩) (Kd.R_far (p := ⟨gb871, 3, none⟩) (Kd.R_far (p := ⟨gb871, 2, none⟩) (Kd.R_far (p := ⟨gb871, 1, none⟩) (Kd.R_far (p := ⟨gb871, 0, none⟩) (Kd.R_mono HO_10.out (fun k_ hk => (⟨hk, hk.2⟩ : _ ∧ k_ ≠ gb871))) (fun _ hk => hk.2) (.int .i64 ((rd_T77 l1 x21_1).f0))) (fun _ hk => hk.2) (.int .i64 ((rd_T77 l1 x21_1).f1))) (fun _ hk => hk.2) (.int .i64 ((rd_T77 l1 x21_1).f2))) (fun _ hk => hk.2) (.int .i64 ((rd_T77 l1 x21_1).f3))) (fun _ hk => hk.2) (.int .i64 (wrap64 ((ji10) - (ji9))))) (fun _ h_ => h_.1))) hb); replace BK865 := Aside0.mk (blk_below (g := gb865) (o := .cells #[.int .i64 a0_0, .int .i64 a0_1] 79 (0, 0)) (by (with_reducible repeat (first | refine blk_drewN ?_ _ | refine blk_drew ?_ | refine blk_alloc ?_ _)); refine blk_far ?_ NB865_871.out _; (with_reducible repeat (first | refine blk_drewN ?_ _ | refine blk_drew ?_ | refine blk_alloc ?_ _)); refine blk_far ?_ NB865_871.out _; (with_reducible repeat (first | refine blk_drewN ?_ _ | refine blk_drew ?_ | refine blk_alloc ?_ _)); refine blk_far ?_ NB865_871.out _; (with_reducible repeat (first | refine blk_drewN ?_ _ | refine blk_drew ?_ | refine blk_alloc ?_ _)); refine blk_far ?_ NB865_871.out _; (with_reducible repeat (first | refine blk_drewN ?_ _ | refine blk_drew ?_ | refine blk_alloc ?_ _)); refine blk_far ?_ NB865_871.out _; (with_reducible repeat (first | refine blk_drewN ?_ _ | refine blk_drew ?_ | refine blk_alloc ?_ _)); exact BK865.out) hb); replace BK871 := Aside0.mk (blk_below (g := gb871) (o := .cells #[.int .i64 (wrap64 ((ji10) - (ji9))), .int .i64 ((rd_T77 l1 x21_1).f1), .int .i64 ((rd_T77 l1 x21_1).f2), .int .i64 ((rd_T77 l1 x21_1).f3)] 77 (0, 0)) (by (with_reducible repeat (first | refine blk_drewN ?_ _ | refine blk_drew ?_ | refine blk_alloc ?_ _)); refine blk_put (cs := #[.int .i64 ((rd_T77 l1 x21_1).f0), .int .i64 ((rd_T77 l1 x21_1).f1), .int .i64 ((rd_T77 l1 x21_1).f2), .int .i64 ((rd_T77 l1 x21_1).f3)]) ?_ 0 _ rfl; (with_reducible repeat (first | refine blk_drewN ?_ _ | refine blk_drew ?_ | refine blk_alloc ?_ _)); refine blk_put (cs := #[.int .i64 ((rd_T77 l1 x21_1).f0), .int .i64 ((rd_T77 l1 x21_1).f1), .int .i64 ((rd_T77 l1 x21_1).f2), .int .i64 0]) ?_ 3 _ rfl; (with_reducible repeat (first | refine blk_drewN ?_ _ | refine blk_drew ?_ | refine blk_alloc ?_ _)); refine blk_put (cs := #[.int .i64 ((rd_T77 l1 x21_1).f0), .int .i64 ((rd_T77 l1 x21_1).f1), .int .i64 0, .int .i64 0]) ?_ 2 _ rfl; (with_reducible repeat (first | refine blk_drewN ?_ _ | refine blk_drew ?_ | refine blk_alloc ?_ _)); refine blk_put (cs := #[.int .i64 ((rd_T77 l1 x21_1).f0), .int .i64 0, .int .i64 0, .int .i64 0]) ?_ 1 _ rfl; (with_reducible repeat (first | refine blk_drewN ?_ _ | refine blk_drew ?_ | refine blk_alloc ?_ _)); refine blk_put (cs := #[.int .i64 0, .int .i64 0, .int .i64 0, .int .i64 0]) ?_ 0 _ rfl; (with_reducible repeat (first | refine blk_drewN ?_ _ | refine blk_drew ?_ | refine blk_alloc ?_ _)); exact BK871.out) hb); replace HB := bp hb; clear hb; obtain ⟨hcz24_0, hcz24_1, hcz24_2, hcz24_3, hfz24_0, hfz24_1, hfz24_2, hfz24_3⟩ := xc4 BK871) | ((with_reducible refine gate_builtin (b := .append) (xs := #[.tmp 64, .tmp 66]) rfl ?_); at_builtin; refine Kd.R_append k77 (w0 := w) w.heap.size rfl (.tmp 64) (.tmp 66) 22 77 (.agg #[(.int .i64 0), (.int .i64 0), (.int .i64 0), (.int .i64 0)]) 32 rfl Try.underlying22 info77 rfl (by decide) (by omega) u10 x10_1 (⟨wrap64 ((ji10) - (ji9)), t872, (rd_T77 l1 x21_1).f2, (rd_T77 l1 x21_1).f3⟩ : S77) [.int .i64 (wrap64 ((ji10) - (ji9))), .int .i64 t872, .int .i64 ((rd_T77 l1 x21_1).f2), .int .i64 ((rd_T77 l1 x21_1).f3)] (fun k_ => k_ ≠ gb871) (fun _ => False) rfl (by first | (go_simp; done) | (go_simp; rfl)) ?aP (fun _ hk => hk.elim) ?aF ?aO ?aB ?aS ?aL ?_; (case aP => exact k77_mkM _ _ _ (⟨wrap64 ((ji10) - (ji9)), t872, (rd_T77 l1 x21_1).f2, (rd_T77 l1 x21_1).f3⟩ : S77)); (case aB => exact bz); (case aF => exact (fun k_ hk => Kd.freshB (g := gb871) (o := .cells #[.int .i64 (wrap64 ((ji10) - (ji9))), .int .i64 t872, .int .i64 ((rd_T77 l1 x21_1).f2), .int .i64 ((rd_T77 l1 x21_1).f3)] 77 (0, 0)) (by (with_reducible repeat (first | refine blk_drewN ?_ _ | refine blk_drew ?_ | refine blk_alloc ?_ _)); refine blk_put (cs := #[.int .i64 (wrap64 ((ji10) - (ji9))), .int .i64 ((rd_T77 l1 x21_1).f1), .int .i64 ((rd_T77 l1 x21_1).f2), .int .i64 ((rd_T77 l1 x21_1).f3)]) ?_ 1 _ rfl; (with_reducible repeat (first | refine blk_drewN ?_ _ | refine blk_drew ?_ | refine blk_alloc ?_ _)); exact BK871.out) k_ hk)); (case aO => exact (by (with_reducible repeat (first | apply Kd.R_alloc | apply Kd.R_drewN | apply Kd.R_drew)); exact Kd.R_mono (Kd.R_far (p := ⟨gb871, 1, none⟩) (Kd.R_mono HO_10.out (fun k_ hk => (⟨hk, hk.2⟩ : _ ∧ k_ ≠ gb871))) (fun _ hk => hk.2) (.int .i64 t872)) (fun _ hk => hk.1.2))); (case aS => exact sz); (case aL => have := LMc18.out; omega); intro v875 w25 ho hb hg hat; rw [← Ny874.out] at ho; replace BK865 := Aside0.mk (blk_grown (g := gb865) (o := .cells #[.int .i64 a0_0, .int .i64 a0_1] 79 (0, 0)) (by (with_reducible repeat (first | refine blk_drewN ?_ _ | refine blk_drew ?_ | refine blk_alloc ?_ _)); refine blk_far ?_ NB865_871.out _; (with_reducible repeat (first | refine blk_drewN ?_ _ | refine blk_drew ?_ | refine blk_alloc ?_ _)); exact BK865.out) hg (Kd.R_ne HO_10.out BK865.out (by decide))); replace BK871 := Aside0.mk (blk_grown (g := gb871) (o := .cells #[.int .i64 (wrap64 ((ji10) - (ji9))), .int .i64 t872, .int .i64 ((rd_T77 l1 x21_1).f2), .int .i64 ((rd_T77 l1 x21_1).f3)] 77 (0, 0)) (by (with_reducible repeat (first | refine blk_drewN ?_ _ | refine blk_drew ?_ | refine blk_alloc ?_ _)); refine blk_put (cs := #[.int .i64 (wrap64 ((ji10) - (ji9))), .int .i64 ((rd_T77 l1 x21_1).f1), .int .i64 ((rd_T77 l1 x21_1).f2), .int .i64 ((rd_T77 l1 x21_1).f3)]) ?_ 1 _ rfl; (with_reducible repeat (first | refine blk_drewN ?_ _ | refine blk_drew ?_ | refine blk_alloc ?_ _)); exact BK871.out) hg (Kd.R_away HO_10.out (fun _ hk => hk.2))); replace HB := Aside0.mk (hb); have HO876 := Aside0.mk (ho); clear HO_10; clear ho hb hg hat)))
          go_roundg k1
          case measure => have := HK1.out; omega
          case rel => exact ⟨(y874), (wrap64 (x11_1 + ((rd_T77 l1 x21_1).f0))), (wrap64 (x21_1 + 1)), jz, jz, H', ⟨by have := HK1.out; omega⟩, ⟨by (with_reducible repeat (first | apply Kd.R_alloc | apply Kd.R_drewN | apply Kd.R_drew)); exact Kd.R_mono HO876.out (fun _ hk => trivial)⟩, ⟨kz⟩, ⟨bz⟩⟩
         ·rw [if_neg c18] at H
          exact absurd H (by simp)
        ·rw [if_neg c17] at H; have c17b0 : (t873 == 0) = false := beq_eq_false_iff_ne.mpr c17; have c17b1 : (t873 != 0) = true := bne_iff_ne.mpr c17; simp only [Option.some.injEq, Prod.mk.injEq] at H; obtain ⟨rfl, rfl⟩ := H; have p870 : 0 ≤ (x21_1 : Int) := od; have q870 : x21_1 < (l1.length : Int) := od; obtain ⟨ad870, e870, hx870_0, hx870_1, hx870_2, hx870_3⟩ := at_T77 HR1.out x21_1 p870 q870
         cases e870
         replace hx870_0 := cl HB hx870_0; replace hx870_1 := cl HB hx870_1; replace hx870_2 := cl HB hx870_2; replace hx870_3 := cl HB hx870_3; replace p870 := eq_true p870; replace q870 := eq_true q870
         go_wp2_with (first | ((with_reducible refine gate_dst (N := 13) rfl ?_); refine zB 13 77 #[.int .i64 0, .int .i64 0, .int .i64 0, .int .i64 0] ?_; intro gb871 hg w26 hbox hb; replace HO_10 := Aside0.mk (Kd.R_below (Kd.R_elderB (rz HO_10) gb871 (Nat.le_of_eq hg.symm)) hb); have BK871 := Aside0.mk hbox; have GW871 := gz hg; have GE871 := gz hg; replace HB := bp hb; have NB865_871 := Aside0.mk ((by rw [hg]; exact Nat.ne_of_lt (bl BK865) : gb865 ≠ gb871)); have NB871_865 := Aside0.mk ((by rw [hg]; exact Nat.ne_of_gt (bl BK865) : gb871 ≠ gb865)); replace BK865 := kb BK865 hb; clear hb hbox hg; have hnb27 := NB871_865.out; have hnc27 := NB865_871.out; obtain ⟨hcz28_0, hcz28_1, hcz28_2, hcz28_3, hfz28_0, hfz28_1, hfz28_2, hfz28_3⟩ := xc4 BK871; obtain ⟨hcz29_0, hcz29_1, hfz29_0, hfz29_1⟩ := xc2 BK865) | (go_at_call 135; (with_reducible refine (wa1 A16.out _).mono ?_); rintro e w30a ⟨gq1, rfl, hs_⟩; have HS1 := Aside0.mk hs_; clear hs_) | (go_at_call 76; (with_reducible refine (wa2 A16.out HS1.out).mono ?_); rintro e w30 ⟨rfl, hb⟩; clear HS1; replace HO_10 := Aside0.mk (Kd.R_below (by (with_reducible repeat (first | apply Kd.R_alloc | apply Kd.R_drewN | apply Kd.R_drew)); exact (Kd.R_mono (Kd.R_far (p := ⟨gb871, 0, none⟩) (Kd.R_far (p := ⟨gb871, 3, none⟩) (Kd.R_far (p := ⟨gb871, 2, none⟩) (Kd.R_far (p := ⟨gb871, 1, none⟩) (Kd.R_far (p := ⟨gb871, 0, none⟩) (Kd.R_mono HO_10.out (fun k_ hk => (⟨hk, hk.2⟩ : _ ∧ k_ ≠ gb871))) (fun _ hk => hk.2) (.int .i64 ((rd_T77 l1 x21_1).f0))) (fun _ hk => hk.2) (.int .i64 ((rd_T77 l1 x21_1).f1))) (fun _ hk => hk.2) (.int .i64 ((rd_T77 l1 x21_1).f2))) (fun _ hk => hk.2) (.int .i64 ((rd_T77 l1 x21_1).f3))) (fun _ hk => hk.2) (.int .i64 (wrap64 ((ji10) - (ji9))))) (fun _ h_ => h_.1))) hb); replace BK865 := Aside0.mk (blk_below (g := gb865) (o := .cells #[.int .i64 a0_0, .int .i64 a0_1] 79 (0, 0)) (by (with_reducible repeat (first | refine blk_drewN ?_ _ | refine blk_drew ?_ | refine blk_alloc ?_ _)); refine blk_far ?_ NB865_871.out _; (with_reducible repeat (first | refine blk_drewN ?_ _ | refine blk_drew ?_ | refine blk_alloc ?_ _)); refine blk_far ?_ NB865_871.out _; (with_reducible repeat (first | refine blk_drewN ?_ _ | refine blk_drew ?_ | refine blk_alloc ?_ _)); refine blk_far ?_ NB865_871.out _; (with_reducible repeat (first | refine blk_drewN ?_ _ | refine blk_drew ?_ | refine blk_alloc ?_ _)); refine blk_far ?_ NB865_871.out _; (with_reducible repeat (first | refine blk_drewN ?_ _ | refine blk_drew ?_ | refine blk_alloc ?_ _)); refine blk_far ?_ NB865_871.out _; (with_reducible repeat (first | refine blk_drewN ?_ _ | refine blk_drew ?_ | refine blk_alloc ?_ _)); exact BK865.out) hb); replace BK871 := Aside0.mk (blk_below (g := gb871) (o := .cells #[.int .i64 (wrap64 ((ji10) - (ji9))), .int .i64 ((rd_T77 l1 x21_1).f1), .int .i64 ((rd_T77 l1 x21_1).f2), .int .i64 ((rd_T77 l1 x21_1).f3)] 77 (0, 0)) (by (with_reducible repeat (first | refine blk_drewN ?_ _ | refine blk_drew ?_ | refine blk_alloc ?_ _)); refine blk_put (cs := #[.int .i64 ((rd_T77 l1 x21_1).f0), .int .i64 ((rd_T77 l1 x21_1).f1), .int .i64 ((rd_T77 l1 x21_1).f2), .int .i64 ((rd_T77 l1 x21_1).f3)]) ?_ 0 _ rfl; (with_reducible repeat (first | refine blk_drewN ?_ _ | refine blk_drew ?_ | refine blk_alloc ?_ _)); refine blk_put (cs := #[.int .i64 ((rd_T77 l1 x21_1).f0), .int .i64 ((rd_T77 l1 x21_1).f1), .int .i64 ((rd_T77 l1 x21_1).f2), .int .i64 0]) ?_ 3 _ rfl; (with_reducible repeat (first | refine blk_drewN ?_ _ | refine blk_drew ?_ | refine blk_alloc ?_ _)); refine blk_put (cs := #[.int .i64 ((rd_T77 l1 x21_1).f0), .int .i64 ((rd_T77 l1 x21_1).f1), .int .i64 0, .int .i64 0]) ?_ 2 _ rfl; (with_reducible repeat (first | refine blk_drewN ?_ _ | refine blk_drew ?_ | refine blk_alloc ?_ _)); refine blk_put (cs := #[.int .i64 ((rd_T77 l1 x21_1).f0), .int .i64 0, .int .i64 0, .int .i64 0]) ?_ 1 _ rfl; (with_reducible repeat (first | refine blk_drewN ?_ _ | refine blk_drew ?_ | refine blk_alloc ?_ _)); refine blk_put (cs := #[.int .i64 0, .int .i64 0, .int .i64 0, .int .i64 0]) ?_ 0 _ rfl; (with_reducible repeat (first | refine blk_drewN ?_ _ | refine blk_drew ?_ | refine blk_alloc ?_ _)); exact BK871.out) hb); replace HB := bp hb; clear hb))
         repeat (go_quiet (first | ((with_reducible refine gate_dst (N := 13) rfl ?_); refine zB 13 77 #[.int .i64 0, .int .i64 0, .int .i64 0, .int .i64 0] ?_; intro gb871 hg w26 hbox hb; replace HO_10 := Aside0.mk (Kd.R_below (Kd.R_elderB (rz HO_10) gb871 (Nat.le_of_eq hg.symm)) hb); have BK871 := Aside0.mk hbox; have GW871 := gz hg; have GE871 := gz hg; replace HB := bp hb; have NB865_871 := Aside0.mk ((by rw [hg]; exact Nat.ne_of_lt (bl BK865) : gb865 ≠ gb871)); have NB871_865 := Aside0.mk ((by rw [hg]; exact Nat.ne_of_gt (bl BK865) : gb871 ≠ gb865)); replace BK865 := kb BK865 hb; clear hb hbox hg; have hnb27 := NB871_865.out; have hnc27 := NB865_871.out; obtain ⟨hcz28_0, hcz28_1, hcz28_2, hcz28_3, hfz28_0, hfz28_1, hfz28_2, hfz28_3⟩ := xc4 BK871; obtain ⟨hcz29_0, hcz29_1, hfz29_0, hfz29_1⟩ := xc2 BK865) | (go_at_call 135; (with_reducible refine (wa1 A16.out _).mono ?_); rintro e w30a ⟨gq1, rfl, hs_⟩; have HS1 := Aside0.mk hs_; clear hs_) | (go_at_call 76; (with_reducible refine (wa2 A16.out HS1.out).mono ?_); rintro e w30 ⟨rfl, hb⟩; clear HS1; have n0_ := Aside0.mk (Kd.R_below (by (with_reducible repeat (first | apply Kd.R_alloc | apply Kd.R_drewN | apply Kd.R_drew)); exact (Kd.R_mono (Kd.R_far (p := ⟨gb871, 0, none⟩) (Kd.R_far (p := ⟨gb871, 3, none⟩) (Kd.R_far (p := ⟨gb871, 2, none⟩) (Kd.R_far (p := ⟨gb871, 1, none⟩) (Kd.R_far (p := ⟨gb871, 0, none⟩) (Kd.R_mono HO_10.out (fun k_ hk => (⟨hk, hk.2⟩ : _ ∧ k_ ≠ gb871))) (fun _ hk => hk.2) (.int .i64 ((rd_T77 l1 x21_1).f0))) (fun _ hk => hk.2) (.int .i64 ((rd_T77 l1 x21_1).f1))) (fun _ hk => hk.2) (.int .i64 ((rd_T77 l1 x21_1).f2))) (fun _ hk => hk.2) (.int .i64 ((rd_T77 l1 x21_1).f3))) (fun _ hk => hk.2) (.int .i64 (wrap64 ((ji10) - (ji9))))) (fun _ h_ => h_.1))) hb); have n1_ := Aside0.mk (blk_below (g := gb865) (o := .cells #[.int .i64 a0_0, .int .i64 a0_1] 79 (0, 0)) (by (with_reducible repeat (first | refine blk_drewN ?_ _ | refine blk_drew ?_ | refine blk_alloc ?_ _)); refine blk_far ?_ NB865_871.out _; (with_reducible repeat (first | refine blk_drewN ?_ _ | refine blk_drew ?_ | refine blk_alloc ?_ _)); refine blk_far ?_ NB865_871.out _; (with_reducible repeat (first | refine blk_drewN ?_ _ | refine blk_drew ?_ | refine blk_alloc ?_ _)); refine blk_far ?_ NB865_871.out _; (with_reducible repeat (first | refine blk_drewN ?_ _ | refine blk_drew ?_ | refine blk_alloc ?_ _)); refine blk_far ?_ NB865_871.out _; (with_reducible repeat (first | refine blk_drewN ?_ _ | refine blk_drew ?_ | refine blk_alloc ?_ _)); refine blk_far ?_ NB865_871.out _; (with_reducible repeat (first | refine blk_drewN ?_ _ | refine blk_drew ?_ | refine blk_alloc ?_ _)); exact BK865.out) hb); have n2_ := Aside0.mk (blk_below (g := gb871) (o := .cells #[.int .i64 (wrap64 ((ji10) - (ji9))), .int .i64 ((rd_T77 l1 x21_1).f1), .int .i64 ((rd_T77 l1 x21_1).f2), .int .i64 ((rd_T77 l1 x21_1).f3)] 77 (0, 0)) (by (with_reducible repeat (first | refine blk_drewN ?_ _ | refine blk_drew ?_ | refine blk_alloc ?_ _)); refine blk_put (cs := #[.int .i64 ((rd_T77 l1 x21_1).f0), .int .i64 ((rd_T77 l1 x21_1).f1), .int .i64 ((rd_T77 l1 x21_1).f2), .int .i64 ((rd_T77 l1 x21_1).f3)]) ?_ 0 _ rfl; (with_reducible repeat (first | refine blk_drewN ?_ _ | refine blk_drew ?_ | refine blk_alloc ?_ _)); refine blk_put (cs := #[.int .i64 ((rd_T77 l1 x21_1).f0), .int .i64 ((rd_T77 l1 x21_1).f1), .int .i64 ((rd_T77 l1 x21_1).f2), .int .i64 0]) ?_ 3 _ rfl; (with_reducible repeat (first | refine blk_drewN ?_ _ | refine blk_drew ?_ | refine blk_alloc ?_ _)); refine blk_put (cs := #[.int .i64 ((rd_T77 l1 x21_1).f0), .int .i64 ((rd_T77 l1 x21_1).f1), .int .i64 0, .int .i64 0]) ?_ 2 _ rfl; (with_reducible repeat (first | refine blk_drewN ?_ _ | refine blk_drew ?_ | refine blk_alloc ?_ _)); refine blk_put (cs := #[.int .i64 ((rd_T77 l1 x21_1).f0), .int .i64 0, .int .i64 0, .int .i64 0]) ?_ 1 _ rfl; (with_reducible repeat (first | refine blk_drewN ?_ _ | refine blk_drew ?_ | refine blk_alloc ?_ _)); refine blk_put (cs := #[.int .i64 0, .int .i64 0, .int .i64 0, .int .i64 0]) ?_ 0 _ rfl; (with_reducible repeat (first | refine blk_drewN ?_ _ | refine blk_drew ?_ | refine blk_alloc ?_ _)); exact BK871.out) hb); have n3_ := bp hb; clear HO_10; clear BK865; clear BK871; clear HB; have HO_10 := n0_; have BK865 := n1_; have BK871 := n2_; have HB := n3_; clear n0_ n1_ n2_ n3_; (try clear hb); (try clear hb2); (try clear hk); (try clear hi))); try go_wp2_with (first | ((with_reducible refine gate_dst (N := 13) rfl ?_); refine zB 13 77 #[.int .i64 0, .int .i64 0, .int .i64 0, .int .i64 0] ?_; intro gb871 hg w26 hbox hb; replace HO_10 := Aside0.mk (Kd.R_below (Kd.R_elderB (rz HO_10) gb871 (Nat.le_of_eq hg.symm)) hb); have BK871 := Aside0.mk hbox; have GW871 := gz hg; have GE871 := gz hg; replace HB := bp hb; have NB865_871 := Aside0.mk ((by rw [hg]; exact Nat.ne_of_lt (bl BK865) : gb865 ≠ gb871)); have NB871_865 := Aside0.mk ((by rw [hg]; exact Nat.ne_of_gt (bl BK865) : gb871 ≠ gb865)); replace BK865 := kb BK865 hb; clear hb hbox hg; have hnb27 := NB871_865.out; have hnc27 := NB865_871.out; obtain ⟨hcz28_0, hcz28_1, hcz28_2, hcz28_3, hfz28_0, hfz28_1, hfz28_2, hfz28_3⟩ := xc4 BK871; obtain ⟨hcz29_0, hcz29_1, hfz29_0, hfz29_1⟩ := xc2 BK865) | (go_at_call 135; (with_reducible refine (wa1 A16.out _).mono ?_); rintro e w30a ⟨gq1, rfl, hs_⟩; have HS1 := Aside0.mk hs_; clear hs_) | (go_at_call 76; (with_reducible refine (wa2 A16.out HS1.out).mono ?_); rintro e w30 ⟨rfl, hb⟩; clear HS1; replace HO_10 := Aside0.mk (Kd.R_below (by (with_reducible repeat (first | apply Kd.R_alloc | apply Kd.R_drewN | apply Kd.R_drew)); exact (Kd.R_mono (Kd.R_far (p := ⟨gb871, 0, none⟩) (Kd.R_far (p := ⟨gb871, 3, none⟩) (Kd.R_far (p := ⟨gb871, 2, none⟩) (Kd.R_far (p := ⟨gb871, 1, none⟩) (Kd.R_far (p := ⟨gb871, 0, none⟩) (Kd.R_mono HO_10.out (fun k_ hk => (⟨hk, hk.2⟩ : _ ∧ k_ ≠ gb871))) (fun _ hk => hk.2) (.int .i64 ((rd_T77 l1 x21_1).f0))) (fun _ hk => hk.2) (.int .i64 ((rd_T77 l1 x21_1).f1))) (fun _ hk => hk.2) (.int .i64 ((rd_T77 l1 x21_1).f2))) (fun _ hk => hk.2) (.int .i64 ((rd_T77 l1 x21_1).f3))) (fun _ hk => hk.2) (.int .i64 (wrap64 ((ji10) - (ji9))))) (fun _ h_ => h_.1))) hb); replace BK865 := Aside0.mk (blk_below (g := gb865) (o := .cells #[.int .i64 a0_0, .int .i64 a0_1] 79 (0, 0)) (by (with_reducible repeat (first | refine blk_drewN ?_ _ | refine blk_drew ?_ | refine blk_alloc ?_ _)); refine blk_far ?_ NB865_871.out _; (with_reducible repeat (first | refine blk_drewN ?_ _ | refine blk_drew ?_ | refine blk_alloc ?_ _)); refine blk_far ?_ NB865_871.out _; (with_reducible repeat (first | refine blk_drewN ?_ _ | refine blk_drew ?_ | refine blk_alloc ?_ _)); refine blk_far ?_ NB865_871.out _; (with_reducible repeat (first | refine blk_drewN ?_ _ | refine blk_drew ?_ | refine blk_alloc ?_ _)); refine blk_far ?_ NB865_871.out _; (with_reducible repeat (first | refine blk_drewN ?_ _ | refine blk_drew ?_ | refine blk_alloc ?_ _)); refine blk_far ?_ NB865_871.out _; (with_reducible repeat (first | refine blk_drewN ?_ _ | refine blk_drew ?_ | refine blk_alloc ?_ _)); exact BK865.out) hb); replace BK871 := Aside0.mk (blk_below (g := gb871) (o := .cells #[.int .i64 (wrap64 ((ji10) - (ji9))), .int .i64 ((rd_T77 l1 x21_1).f1), .int .i64 ((rd_T77 l1 x21_1).f2), .int .i64 ((rd_T77 l1 x21_1).f3)] 77 (0, 0)) (by (with_reducible repeat (first | refine blk_drewN ?_ _ | refine blk_drew ?_ | refine blk_alloc ?_ _)); refine blk_put (cs := #[.int .i64 ((rd_T77 l1 x21_1).f0), .int .i64 ((rd_T77 l1 x21_1).f1), .int .i64 ((rd_T77 l1 x21_1).f2), .int .i64 ((rd_T77 l1 x21_1).f3)]) ?_ 0 _ rfl; (with_reducible repeat (first | refine blk_drewN ?_ _ | refine blk_drew ?_ | refine blk_alloc ?_ _)); refine blk_put (cs := #[.int .i64 ((rd_T77 l1 x21_1).f0), .int .i64 ((rd_T77 l1 x21_1).f1), .int .i64 ((rd_T77 l1 x21_1).f2), .int .i64 0]) ?_ 3 _ rfl; (with_reducible repeat (first | refine blk_drewN ?_ _ | refine blk_drew ?_ | refine blk_alloc ?_ _)); refine blk_put (cs := #[.int .i64 ((rd_T77 l1 x21_1).f0), .int .i64 ((rd_T77 l1 x21_1).f1), .int .i64 0, .int .i64 0]) ?_ 2 _ rfl; (with_reducible repeat (first | refine blk_drewN ?_ _ | refine blk_drew ?_ | refine blk_alloc ?_ _)); refine blk_put (cs := #[.int .i64 ((rd_T77 l1 x21_1).f0), .int .i64 0, .int .i64 0, .int .i64 0]) ?_ 1 _ rfl; (with_reducible repeat (first | refine blk_drewN ?_ _ | refine blk_drew ?_ | refine blk_alloc ?_ _)); refine blk_put (cs := #[.int .i64 0, .int .i64 0, .int .i64 0, .int .i64 0]) ?_ 0 _ rfl; (with_reducible repeat (first | refine blk_drewN ?_ _ | refine blk_drew ?_ | refine blk_alloc ?_ _)); exact BK871.out) hb); replace HB := bp hb; clear hb; (try clear hi))))
         go_ret2
         exact ⟨_, by first | rfl | (simp [errW_none, errW_some] <;> rfl) | (simp only [← hji9, ← hji10]; first | rfl | (simp [errW_none, errW_some] <;> rfl)) | (simp [*, errW_none, errW_some] <;> rfl), by first | exact Kd.R_nil _ _ _ _ _ | exact Kd.N_nil _ _ _ _ _ | exact Kd.V_nil _ _ _ _ _ | exact Kd.Q_nil _ _ _ _ _ | exact Kd.S_nil _ _ _ _ _, bz⟩
       ·rw [if_neg c15] at H; have c15b0 : decide (0 ≤ ((rd_T77 l1 x21_1).f1)) = false := decide_eq_false c15; clear c15
        by_cases c31 : x10_1.length < 4398046511104
        ·rw [if_pos c31] at H; have LMc31 := Aside0.mk c31; clear c31; obtain ⟨y877, hy877⟩ : ∃ y_ : List (S77), y_ = (x10_1 ++ [(⟨wrap64 ((ji10) - (ji9)), (rd_T77 l1 x21_1).f1, (rd_T77 l1 x21_1).f2, (rd_T77 l1 x21_1).f3⟩ : S77)]) := ⟨_, rfl⟩; replace H : (edit_clocks_cut.l0 k1 a2 a3 y877 (wrap64 (x11_1 + ((rd_T77 l1 x21_1).f0))) l1 (l1.length : Int) (wrap64 (x21_1 + 1)) a0_0 a0_1) = some (r1, r2) := by first | (rw [hy877]; with_reducible exact H) | (have H2_ := (Option.bind_some _ _).symm.trans H; rw [hy877]; with_reducible exact H2_) | (have H2_ := (Option.bind_some _ _).symm.trans H; with_reducible exact H2_) | with_reducible exact H | (rw [hy877]; exact H) | exact H
         have Ny877 := Aside0.mk hy877; clear hy877; have H' := Aside0.mk H; clear H; have p870 : 0 ≤ (x21_1 : Int) := od; have q870 : x21_1 < (l1.length : Int) := od; obtain ⟨ad870, e870, hx870_0, hx870_1, hx870_2, hx870_3⟩ := at_T77 HR1.out x21_1 p870 q870
         cases e870
         replace hx870_0 := cl HB hx870_0; replace hx870_1 := cl HB hx870_1; replace hx870_2 := cl HB hx870_2; replace hx870_3 := cl HB hx870_3; replace p870 := eq_true p870; replace q870 := eq_true q870
         go_wp2_with (first | ((with_reducible refine gate_dst (N := 13) rfl ?_); refine zB 13 77 #[.int .i64 0, .int .i64 0, .int .i64 0, .int .i64 0] ?_; intro gb871 hg w32 hbox hb; replace HO_10 := Aside0.mk (Kd.R_below (Kd.R_elderB (rz HO_10) gb871 (Nat.le_of_eq hg.symm)) hb); have BK871 := Aside0.mk hbox; have GW871 := gz hg; have GE871 := gz hg; replace HB := bp hb; have NB865_871 := Aside0.mk ((by rw [hg]; exact Nat.ne_of_lt (bl BK865) : gb865 ≠ gb871)); have NB871_865 := Aside0.mk ((by rw [hg]; exact Nat.ne_of_gt (bl BK865) : gb871 ≠ gb865)); replace BK865 := kb BK865 hb; clear hb hbox hg; have hnb33 := NB871_865.out; have hnc33 := NB865_871.out; obtain ⟨hcz34_0, hcz34_1, hcz34_2, hcz34_3, hfz34_0, hfz34_1, hfz34_2, hfz34_3⟩ := xc4 BK871) | ((with_reducible refine gate_builtin (b := .append) (xs := #[.tmp 64, .tmp 66]) rfl ?_); at_builtin; refine Kd.R_append k77 (w0 := w) w.heap.size rfl (.tmp 64) (.tmp 66) 22 77 (.agg #[(.int .i64 0), (.int .i64 0), (.int .i64 0), (.int .i64 0)]) 32 rfl Try.underlying22 info77 rfl (by decide) (by omega) u10 x10_1 (⟨wrap64 ((ji10) - (ji9)), (rd_T77 l1 x21_1).f1, (rd_T77 l1 x21_1).f2, (rd_T77 l1 x21_1).f3⟩ : S77) [.int .i64 (wrap64 ((ji10) - (ji9))), .int .i64 ((rd_T77 l1 x21_1).f1), .int .i64 ((rd_T77 l1 x21_1).f2), .int .i64 ((rd_T77 l1 x21_1).f3)] (fun k_ => k_ ≠ gb871) (fun _ => False) rfl (by first | (go_simp; done) | (go_simp; rfl)) ?aP (fun _ hk => hk.elim) ?aF ?aO ?aB ?aS ?aL ?_; (case aP => exact k77_mkM _ _ _ (⟨wrap64 ((ji10) - (ji9)), (rd_T77 l1 x21_1).f1, (rd_T77 l1 x21_1).f2, (rd_T77 l1 x21_1).f3⟩ : S77)); (case aB => exact bz); (case aF => exact (fun k_ hk => Kd.freshB (g := gb871) (o := .cells #[.int .i64 (wrap64 ((ji10) - (ji9))), .int .i64 ((rd_T77 l1 x21_1).f1), .int .i64 ((rd_T77 l1 x21_1).f2), .int .i64 ((rd_T77 l1 x21_1).f3)] 77 (0, 0)) (by (with_reducible repeat (first | refine blk_drewN ?_ _ | refine blk_drew ?_ | refine blk_alloc ?_ _)); refine blk_put (cs := #[.int .i64 ((rd_T77 l1 x21_1).f0), .int .i64 ((rd_T77 l1 x21_1).f1), .int .i64 ((rd_T77 l1 x21_1).f2), .int .i64 ((rd_T77 l1 x21_1).f3)]) ?_ 0 _ rfl; (with_reducible repeat (first | refine blk_drewN ?_ _ | refine blk_drew ?_ | refine blk_alloc ?_ _)); refine blk_put (cs := #[.int .i64 ((rd_T77 l1 x21_1).f0), .int .i64 ((rd_T77 l1 x21_1).f1), .int .i64 ((rd_T77 l1 x21_1).f2), .int .i64 0]) ?_ 3 _ rfl; (with_reducible repeat (first | refine blk_drewN ?_ _ | refine blk_drew ?_ | refine blk_alloc ?_ _)); refine blk_put (cs := #[.int .i64 ((rd_T77 l1 x21_1).f0), .int .i64 ((rd_T77 l1 x21_1).f1), .int .i64 0, .int .i64 0]) ?_ 2 _ rfl; (with_reducible repeat (first | refine blk_drewN ?_ _ | refine blk_drew ?_ | refine blk_alloc ?_ _)); refine blk_put (cs := #[.int .i64 ((rd_T77 l1 x21_1).f0), .int .i64 0, .int .i64 0, .int .i64 0]) ?_ 1 _ rfl; (with_reducible repeat (first | refine blk_drewN ?_ _ | refine blk_drew ?_ | refine blk_alloc ?_ _)); refine blk_put (cs := #[.int .i64 0, .int .i64 0, .int .i64 0, .int .i64 0]) ?_ 0 _ rfl; (with_reducible repeat (first | refine blk_drewN ?_ _ | refine blk_drew ?_ | refine blk_alloc ?_ _)); exact BK871.out) k_ hk)); (case aO => exact (by (with_reducible repeat (first | apply Kd.R_alloc | apply Kd.R_drewN | apply Kd.R_drew)); exact Kd.R_mono (Kd.R_far (p := ⟨gb871, 0, none⟩) (Kd.R_far (p := ⟨gb871, 3, none⟩) (Kd.R_far (p := ⟨gb871, 2, none⟩) (Kd.R_far (p := ⟨gb871, 1, none⟩) (Kd.R_far (p := ⟨gb871, 0, none⟩) (Kd.R_mono HO_10.out (fun k_ hk => (⟨hk, hk.2⟩ : _ ∧ k_ ≠ gb871))) (fun _ hk => hk.2) (.int .i64 ((rd_T77 l1 x21_1).f0))) (fun _ hk => hk.2) (.int .i64 ((rd_T77 l1 x21_1).f1))) (fun _ hk => hk.2) (.int .i64 ((rd_T77 l1 x21_1).f2))) (fun _ hk => hk.2) (.int .i64 ((rd_T77 l1 x21_1).f3))) (fun _ hk => hk.2) (.int .i64 (wrap64 ((ji10) - (ji9))))) (fun _ hk => hk.1.2))); (case aS => exact sz); (case aL => have := LMc31.out; omega); intro v878 w35 ho hb hg hat; rw [← Ny877.out] at ho; replace BK865 := Aside0.mk (blk_grown (g := gb865) (o := .cells #[.int .i64 a0_0, .int .i64 a0_1] 79 (0, 0)) (by (with_reducible repeat (first | refine blk_drewN ?_ _ | refine blk_drew ?_ | refine blk_alloc ?_ _)); refine blk_far ?_ NB865_871.out _; (with_reducible repeat (first | refine blk_drewN ?_ _ | refine blk_drew ?_ | refine blk_alloc ?_ _)); refine blk_far ?_ NB865_871.out _; (with_reducible repeat (first | refine blk_drewN ?_ _ | refine blk_drew ?_ | refine blk_alloc ?_ _)); refine blk_far ?_ NB865_871.out _; (with_reducible repeat (first | refine blk_drewN ?_ _ | refine blk_drew ?_ | refine blk_alloc ?_ _)); refine blk_far ?_ NB865_871.out _; (with_reducible repeat (first | refine blk_drewN ?_ _ | refine blk_drew ?_ | refine blk_alloc ?_ _)); refine blk_far ?_ NB865_871.out _; (with_reducible repeat (first | refine blk_drewN ?_ _ | refine blk_drew ?_ | refine blk_alloc ?_ _)); exact BK865.out) hg (Kd.R_ne HO_10.out BK865.out (by decide))); replace BK871 := Aside0.mk (blk_grown (g := gb871) (o := .cells #[.int .i64 (wrap64 ((ji10) - (ji9))), .int .i64 ((rd_T77 l1 x21_1).f1), .int .i64 ((rd_T77 l1 x21_1).f2), .int .i64 ((rd_T77 l1 x21_1).f3)] 77 (0, 0)) (by (with_reducible repeat (first | refine blk_drewN ?_ _ | refine blk_drew ?_ | refine blk_alloc ?_ _)); refine blk_put (cs := #[.int .i64 ((rd_T77 l1 x21_1).f0), .int .i64 ((rd_T77 l1 x21_1).f1), .int .i64 ((rd_T77 l1 x21_1).f2), .int .i64 ((rd_T77 l1 x21_1).f3)]) ?_ 0 _ rfl; (with_reducible repeat (first | refine blk_drewN ?_ _ | refine blk_drew ?_ | refine blk_alloc ?_ _)); refine blk_put (cs := #[.int .i64 ((rd_T77 l1 x21_1).f0), .int .i64 ((rd_T77 l1 x21_1).f1), .int .i64 ((rd_T77 l1 x21_1).f2), .int .i64 0]) ?_ 3 _ rfl; (with_reducible repeat (first | refine blk_drewN ?_ _ | refine blk_drew ?_ | refine blk_alloc ?_ _)); refine blk_put (cs := #[.int .i64 ((rd_T77 l1 x21_1).f0), .int .i64 ((rd_T77 l1 x21_1).f1), .int .i64 0, .int .i64 0]) ?_ 2 _ rfl; (with_reducible repeat (first | refine blk_drewN ?_ _ | refine blk_drew ?_ | refine blk_alloc ?_ _)); refine blk_put (cs := #[.int .i64 ((rd_T77 l1 x21_1).f0), .int .i64 0, .int .i64 0, .int .i64 0]) ?_ 1 _ rfl; (with_reducible repeat (first | refine blk_drewN ?_ _ | refine blk_drew ?_ | refine blk_alloc ?_ _)); refine blk_put (cs := #[.int .i64 0, .int .i64 0, .int .i64 0, .int .i64 0]) ?_ 0 _ rfl; (with_reducible repeat (first | refine blk_drewN ?_ _ | refine blk_drew ?_ | refine blk_alloc ?_ _)); exact BK871.out) hg (Kd.R_away HO_10.out (fun _ hk => hk.2))); replace HB := Aside0.mk (hb); have HO879 := Aside0.mk (ho); clear HO_10; clear ho hb hg hat))
         repeat (go_quiet (first | ((with_reducible refine gate_dst (N := 13) rfl ?_); refine zB 13 77 #[.int .i64 0, .int .i64 0, .int .i64 0, .int .i64 0] ?_; intro gb871 hg w32 hbox hb; replace HO_10 := Aside0.mk (Kd.R_below (Kd.R_elderB (rz HO_10) gb871 (Nat.le_of_eq hg.symm)) hb); have BK871 := Aside0.mk hbox; have GW871 := gz hg; have GE871 := gz hg; replace HB := bp hb; have NB865_871 := Aside0.mk ((by rw [hg]; exact Nat.ne_of_lt (bl BK865) : gb865 ≠ gb871)); have NB871_865 := Aside0.mk ((by rw [hg]; exact Nat.ne_of_gt (bl BK865) : gb871 ≠ gb865)); replace BK865 := kb BK865 hb; clear hb hbox hg; have hnb33 := NB871_865.out; have hnc33 := NB865_871.out; obtain ⟨hcz34_0, hcz34_1, hcz34_2, hcz34_3, hfz34_0, hfz34_1, hfz34_2, hfz34_3⟩ := xc4 BK871) | ((with_reducible refine gate_builtin (b := .append) (xs := #[.tmp 64, .tmp 66]) rfl ?_); at_builtin; refine Kd.R_append k77 (w0 := w) w.heap.size rfl (.tmp 64) (.tmp 66) 22 77 (.agg #[(.int .i64 0), (.int .i64 0), (.int .i64 0), (.int .i64 0)]) 32 rfl Try.underlying22 info77 rfl (by decide) (by omega) u10 x10_1 (⟨wrap64 ((ji10) - (ji9)), (rd_T77 l1 x21_1).f1, (rd_T77 l1 x21_1).f2, (rd_T77 l1 x21_1).f3⟩ : S77) [.int .i64 (wrap64 ((ji10) - (ji9))), .int .i64 ((rd_T77 l1 x21_1).f1), .int .i64 ((rd_T77 l1 x21_1).f2), .int .i64 ((rd_T77 l1 x21_1).f3)] (fun k_ => k_ ≠ gb871) (fun _ => False) rfl (by first | (go_simp; done) | (go_simp; rfl)) ?aP (fun _ hk => hk.elim) ?aF ?aO ?aB ?aS ?aL ?_; (case aP => exact k77_mkM _ _ _ (⟨wrap64 ((ji10) - (ji9)), (rd_T77 l1 x21_1).f1, (rd_T77 l1 x21_1).f2, (rd_T77 l1 x21_1).f3⟩ : S77)); (case aB => exact bz); (case aF => exact (fun k_ hk => Kd.freshB (g := gb871) (o := .cells #[.int .i64 (wrap64 ((ji10) - (ji9))), .int .i64 ((rd_T77 l1 x21_1).f1), .int .i64 ((rd_T77 l1 x21_1).f2), .int .i64 ((rd_T77 l1 x21_1).f3)] 77 (0, 0)) (by (with_reducible repeat (first | refine blk_drewN ?_ _ | refine blk_drew ?_ | refine blk_alloc ?_ _)); refine blk_put (cs := #[.int .i64 ((rd_T77 l1 x21_1).f0), .int .i64 ((rd_T77 l1 x21_1).f1), .int .i64 ((rd_T77 l1 x21_1).f2), .int .i64 ((rd_T77 l1 x21_1).f3)]) ?_ 0 _ rfl; (with_reducible repeat (first | refine blk_drewN ?_ _ | refine blk_drew ?_ | refine blk_alloc ?_ _)); refine blk_put (cs := #[.int .i64 ((rd_T77 l1 x21_1).f0), .int .i64 ((rd_T77 l1 x21_1).f1), .int .i64 ((rd_T77 l1 x21_1).f2), .int .i64 0]) ?_ 3 _ rfl; (with_reducible repeat (first | refine blk_drewN ?_ _ | refine blk_drew ?_ | refine blk_alloc ?_ _)); refine blk_put (cs := #[.int .i64 ((rd_T77 l1 x21_1).f0), .int .i64 ((rd_T77 l1 x21_1).f1), .int .i64 0, .int .i64 0]) ?_ 2 _ rfl; (with_reducible repeat (first | refine blk_drewN ?_ _ | refine blk_drew ?_ | refine blk_alloc ?_ _)); refine blk_put (cs := #[.int .i64 ((rd_T77 l1 x21_1).f0), .int .i64 0, .int .i64 0, .int .i64 0]) ?_ 1 _ rfl; (with_reducible repeat (first | refine blk_drewN ?_ _ | refine blk_drew ?_ | refine blk_alloc ?_ _)); refine blk_put (cs := #[.int .i64 0, .int .i64 0, .int .i64 0, .int .i64 0]) ?_ 0 _ rfl; (with_reducible repeat (first | refine blk_drewN ?_ _ | refine blk_drew ?_ | refine blk_alloc ?_ _)); exact BK871.out) k_ hk)); (case aO => exact (by (with_reducible repeat (first | apply Kd.R_alloc | apply Kd.R_drewN | apply Kd.R_drew)); exact Kd.R_mono (Kd.R_far (p := ⟨gb871, 0, none⟩) (Kd.R_far (p := ⟨gb871, 3, none⟩) (Kd.R_far (p := ⟨gb871, 2, none⟩) (Kd.R_far (p := ⟨gb871, 1, none⟩) (Kd.R_far (p := ⟨gb871, 0, none⟩) (Kd.R_mono HO_10.out (fun k_ hk => (⟨hk, hk.2⟩ : _ ∧ k_ ≠ gb871))) (fun _ hk => hk.2) (.int .i64 ((rd_T77 l1 x21_1).f0))) (fun _ hk => hk.2) (.int .i64 ((rd_T77 l1 x21_1).f1))) (fun _ hk => hk.2) (.int .i64 ((rd_T77 l1 x21_1).f2))) (fun _ hk => hk.2) (.int .i64 ((rd_T77 l1 x21_1).f3))) (fun _ hk => hk.2) (.int .i64 (wrap64 ((ji10) - (ji9))))) (fun _ hk => hk.1.2))); (case aS => exact sz); (case aL => have := LMc31.out; omega); intro v878 w35 ho hb hg hat; rw [← Ny877.out] at ho; have n0_ := Aside0.mk (blk_grown (g := gb865) (o := .cells #[.int .i64 a0_0, .int .i64 a0_1] 79 (0, 0)) (by (with_reducible repeat (first | refine blk_drewN ?_ _ | refine blk_drew ?_ | refine blk_alloc ?_ _)); refine blk_far ?_ NB865_871.out _; (with_reducible repeat (first | refine blk_drewN ?_ _ | refine blk_drew ?_ | refine blk_alloc ?_ _)); refine blk_far ?_ NB865_871.out _; (with_reducible repeat (first | refine blk_drewN ?_ _ | refine blk_drew ?_ | refine blk_alloc ?_ _)); refine blk_far ?_ NB865_871.out _; (with_reducible repeat (first | refine blk_drewN ?_ _ | refine blk_drew ?_ | refine blk_alloc ?_ _)); refine blk_far ?_ NB865_871.out _; (with_reducible repeat (first | refine blk_drewN ?_ _ | refine blk_drew ?_ | refine blk_alloc ?_ _)); refine blk_far ?_ NB865_871.out _; (with_reducible repeat (first | refine blk_drewN ?_ _ | refine blk_drew ?_ | refine blk_alloc ?_ _)); exact BK865.out) hg (Kd.R_ne HO_10.out BK865.out (by decide))); have n1_ := Aside0.mk (blk_grown (g := gb871) (o := .cells #[.int .i64 (wrap64 ((ji10) - (ji9))), .int .i64 ((rd_T77 l1 x21_1).f1), .int .i64 ((rd_T77 l1 x21_1).f2), .int .i64 ((rd_T77 l1 x21_1).f3)] 77 (0, 0)) (by (with_reducible repeat (first | refine blk_drewN ?_ _ | refine blk_drew ?_ | refine blk_alloc ?_ _)); refine blk_put (cs := #[.int .i64 ((rd_T77 l1 x21_1).f0), .int .i64 ((rd_T77 l1 x21_1).f1), .int .i64 ((rd_T77 l1 x21_1).f2), .int .i64 ((rd_T77 l1 x21_1).f3)]) ?_ 0 _ rfl; (with_reducible repeat (first | refine blk_drewN ?_ _ | refine blk_drew ?_ | refine blk_alloc ?_ _)); refine blk_put (cs := #[.int .i64 ((rd_T77 l1 x21_1).f0), .int .i64 ((rd_T77 l1 x21_1).f1), .int .i64 ((rd_T77 l1 x21_1).f2), .int .i64 0]) ?_ 3 _ rfl; (with_reducible repeat (first | refine blk_drewN ?_ _ | refine blk_drew ?_ | refine blk_alloc ?_ _)); refine blk_put (cs := #[.int .i64 ((rd_T77 l1 x21_1).f0), .int .i64 ((rd_T77 l1 x21_1).f1), .int .i64 0, .int .i64 0]) ?_ 2 _ rfl; (with_reducible repeat (first | refine blk_drewN ?_ _ | refine blk_drew ?_ | refine blk_alloc ?_ _)); refine blk_put (cs := #[.int .i64 ((rd_T77 l1 x21_1).f0), .int .i64 0, .int .i64 0, .int .i64 0]) ?_ 1 _ rfl; (with_reducible repeat (first | refine blk_drewN ?_ _ | refine blk_drew ?_ | refine blk_alloc ?_ _)); refine blk_put (cs := #[.int .i64 0, .int .i64 0, .int .i64 0, .int .i64 0]) ?_ 0 _ rfl; (with_reducible repeat (first | refine blk_drewN ?_ _ | refine blk_drew ?_ | refine blk_alloc ?_ _)); exact BK871.out) hg (Kd.R_away HO_10.out (fun _ hk => hk.2))); have n2_ := Aside0.mk (hb); have n3_ := Aside0.mk (ho); clear BK865; clear BK871; clear HB; clear HO_10; have BK865 := n0_; have BK871 := n1_; have HB := n2_; have HO879 := n3_; clear n0_ n1_ n2_ n3_; clear ho hb hg hat)); try go_wp2_with (first | ((with_reducible refine gate_dst (N := 13) rfl ?_); refine zB 13 77 #[.int .i64 0, .int .i64 0, .int .i64 0, .int .i64 0] ?_; intro gb871 hg w32 hbox hb; replace HO_10 := Aside0.mk (Kd.R_below (Kd.R_elderB (rz HO_10) gb871 (Nat.le_of_eq hg.symm)) hb); have BK871 := Aside0.mk hbox; have GW871 := gz hg; have GE871 := gz hg; replace HB := bp hb; have NB865_871 := Aside0.mk ((by rw [hg]; exact Nat.ne_of_lt (bl BK865) : gb865 ≠ gb871)); have NB871_865 := Aside0.mk ((by rw [hg]; exact Nat.ne_of_gt (bl BK865) : gb871 ≠ gb865)); replace BK865 := kb BK865 hb; clear hb hbox hg; have hnb33 := NB871_865.out; have hnc33 := NB865_871.out; obtain ⟨hcz34_0, hcz34_1, hcz34_2, hcz34_3, hfz34_0, hfz34_1, hfz34_2, hfz34_3⟩ := xc4 BK871) | ((with_reducible refine gate_builtin (b := .append) (xs := #[.tmp 64, .tmp 66]) rfl ?_); at_builtin; refine Kd.R_append k77 (w0 := w) w.heap.size rfl (.tmp 64) (.tmp 66) 22 77 (.agg #[(.int .i64 0), (.int .i64 0), (.int .i64 0), (.int .i64 0)]) 32 rfl Try.underlying22 info77 rfl (by decide) (by omega) u10 x10_1 (⟨wrap64 ((ji10) - (ji9)), (rd_T77 l1 x21_1).f1, (rd_T77 l1 x21_1).f2, (rd_T77 l1 x21_1).f3⟩ : S77) [.int .i64 (wrap64 ((ji10) - (ji9))), .int .i64 ((rd_T77 l1 x21_1).f1), .int .i64 ((rd_T77 l1 x21_1).f2), .int .i64 ((rd_T77 l1 x21_1).f3)] (fun k_ => k_ ≠ gb871) (fun _ => False) rfl (by first | (go_simp; done) | (go_simp; rfl)) ?aP (fun _ hk => hk.elim) ?aF ?aO ?aB ?aS ?aL ?_; (case aP => exact k77_mkM _ _ _ (⟨wrap64 ((ji10) - (ji9)), (rd_T77 l1 x21_1).f1, (rd_T77 l1 x21_1).f2, (rd_T77 l1 x21_1).f3⟩ : S77)); (case aB => exact bz); (case aF => exact (fun k_ hk => Kd.freshB (g := gb871) (o := .cells #[.int .i64 (wrap64 ((ji10) - (ji9))), .int .i64 ((rd_T77 l1 x21_1).f1), .int .i64 ((rd_T77 l1 x21_1).f2), .int .i64 ((rd_T77 l1 x21_1).f3)] 77 (0, 0)) (by (with_reducible repeat (first | refine blk_drewN ?_ _ | refine blk_drew ?_ | refine blk_alloc ?_ _)); refine blk_put (cs := #[.int .i64 ((rd_T77 l1 x21_1).f0), .int .i64 ((rd_T77 l1 x21_1).f1), .int .i64 ((rd_T77 l1 x21_1).f2), .int .i64 ((rd_T77 l1 x21_1).f3)]) ?_ 0 _ rfl; (with_reducible repeat (first | refine blk_drewN ?_ _ | refine blk_drew ?_ | refine blk_alloc ?_ _)); refine blk_put (cs := #[.int .i64 ((rd_T77 l1 x21_1).f0), .int .i64 ((rd_T77 l1 x21_1).f1), .int .i64 ((rd_T77 l1 x21_1).f2), .int .i64 0]) ?_ 3 _ rfl; (with_reducible repeat (first | refine blk_drewN ?_ _ | refine blk_drew ?_ | refine blk_alloc ?_ _)); refine blk_put (cs := #[.int .i64 ((rd_T77 l1 x21_1).f0), .int .i64 ((rd_T77 l1 x21_1).f1), .int .i64 0, .int .i64 0]) ?_ 2 _ rfl; (with_reducible repeat (first | refine blk_drewN ?_ _ | refine blk_drew ?_ | refine blk_alloc ?_ _)); refine blk_put (cs := #[.int .i64 ((rd_T77 l1 x21_1).f0), .int .i64 0, .int .i64 0, .int .i64 0]) ?_ 1 _ rfl; (with_reducible repeat (first | refine blk_drewN ?_ _ | refine blk_drew ?_ | refine blk_alloc ?_ _)); refine blk_put (cs := #[.int .i64 0, .int .i64 0, .int .i64 0, .int .i64 0]) ?_ 0 _ rfl; (with_reducible repeat (first | refine blk_drewN ?_ _ | refine blk_drew ?_ | refine blk_alloc ?_ _)); exact BK871.out) k_ hk)); (case aO => exact (by (with_reducible repeat (first | apply Kd.R_alloc | apply Kd.R_drewN | apply Kd.R_drew)); exact Kd.R_mono (Kd.R_far (p := ⟨gb871, 0, none⟩) (Kd.R_far (p := ⟨gb871, 3, none⟩) (Kd.R_far (p := ⟨gb871, 2, none⟩) (Kd.R_far (p := ⟨gb871, 1, none⟩) (Kd.R_far (p := ⟨gb871, 0, none⟩) (Kd.R_mono HO_10.out (fun k_ hk => (⟨hk, hk.2⟩ : _ ∧ k_ ≠ gb871))) (fun _ hk => hk.2) (.int .i64 ((rd_T77 l1 x21_1).f0))) (fun _ hk => hk.2) (.int .i64 ((rd_T77 l1 x21_1).f1))) (fun _ hk => hk.2) (.int .i64 ((rd_T77 l1 x21_1).f2))) (fun _ hk => hk.2) (.int .i64 ((rd_T77 l1 x21_1).f3))) (fun _ hk => hk.2) (.int .i64 (wrap64 ((ji10) - (ji9))))) (fun _ hk => hk.1.2))); (case aS => exact sz); (case aL => have := LMc31.out; omega); intro v878 w35 ho hb hg hat; rw [← Ny877.out] at ho; replace BK865 := Aside0.mk (blk_grown (g := gb865) (o := .cells #[.int .i64 a0_0, .int .i64 a0_1] 79 (0, 0)) (by (with_reducible repeat (first | refine blk_drewN ?_ _ | refine blk_drew ?_ | refine blk_alloc ?_ _)); refine blk_far ?_ NB865_871.out _; (with_reducible repeat (first | refine blk_drewN ?_ _ | refine blk_drew ?_ | refine blk_alloc ?_ _)); refine blk_far ?_ NB865_871.out _; (with_reducible repeat (first | refine blk_drewN ?_ _ | refine blk_drew ?_ | refine blk_alloc ?_ _)); refine blk_far ?_ NB865_871.out _; (with_reducible repeat (first | refine blk_drewN ?_ _ | refine blk_drew ?_ | refine blk_alloc ?_ _)); refine blk_far ?_ NB865_871.out _; (with_reducible repeat (first | refine blk_drewN ?_ _ | refine blk_drew ?_ | refine blk_alloc ?_ _)); refine blk_far ?_ NB865_871.out _; (with_reducible repeat (first | refine blk_drewN ?_ _ | refine blk_drew ?_ | refine blk_alloc ?_ _)); exact BK865.out) hg (Kd.R_ne HO_10.out BK865.out (by decide))); replace BK871 := Aside0.mk (blk_grown (g := gb871) (o := .cells #[.int .i64 (wrap64 ((ji10) - (ji9))), .int .i64 ((rd_T77 l1 x21_1).f1), .int .i64 ((rd_T77 l1 x21_1).f2), .int .i64 ((rd_T77 l1 x21_1).f3)] 77 (0, 0)) (by (with_reducible repeat (first | refine blk_drewN ?_ _ | refine blk_drew ?_ | refine blk_alloc ?_ _)); refine blk_put (cs := #[.int .i64 ((rd_T77 l1 x21_1).f0), .int .i64 ((rd_T77 l1 x21_1).f1), .int .i64 ((rd_T77 l1 x21_1).f2), .int .i64 ((rd_T77 l1 x21_1).f3)]) ?_ 0 _ rfl; (with_reducible repeat (first | refine blk_drewN ?_ _ | refine blk_drew ?_ | refine blk_alloc ?_ _)); refine blk_put (cs := #[.int .i64 ((rd_T77 l1 x21_1).f0), .int .i64 ((rd_T77 l1 x21_1).f1), .int .i64 ((rd_T77 l1 x21_1).f2), .int .i64 0]) ?_ 3 _ rfl; (with_reducible repeat (first | refine blk_drewN ?_ _ | refine blk_drew ?_ | refine blk_alloc ?_ _)); refine blk_put (cs := #[.int .i64 ((rd_T77 l1 x21_1).f0), .int .i64 ((rd_T77 l1 x21_1).f1), .int .i64 0, .int .i64 0]) ?_ 2 _ rfl; (with_reducible repeat (first | refine blk_drewN ?_ _ | refine blk_drew ?_ | refine blk_alloc ?_ _)); refine blk_put (cs := #[.int .i64 ((rd_T77 l1 x21_1).f0), .int .i64 0, .int .i64 0, .int .i64 0]) ?_ 1 _ rfl; (with_reducible repeat (first | refine blk_drewN ?_ _ | refine blk_drew ?_ | refine blk_alloc ?_ _)); refine blk_put (cs := #[.int .i64 0, .int .i64 0, .int .i64 0, .int .i64 0]) ?_ 0 _ rfl; (with_reducible repeat (first | refine blk_drewN ?_ _ | refine blk_drew ?_ | refine blk_alloc ?_ _)); exact BK871.out) hg (Kd.R_away HO_10.out (fun _ hk => hk.2))); replace HB := Aside0.mk (hb); have HO879 := Aside0.mk (ho); clear HO_10; clear ho hb hg hat)))
         go_roundg k1
         case measure => have := HK1.out; omega
         case rel => exact ⟨(y877), (wrap64 (x11_1 + ((rd_T77 l1 x21_1).f0))), (wrap64 (x21_1 + 1)), jz, jz, H', ⟨by have := HK1.out; omega⟩, ⟨by (with_reducible repeat (first | apply Kd.R_alloc | apply Kd.R_drewN | apply Kd.R_drew)); exact Kd.R_mono HO879.out (fun _ hk => trivial)⟩, ⟨kz⟩, ⟨bz⟩⟩
        ·rw [if_neg c31] at H
         exact absurd H (by simp)
     ·rw [if_neg c8] at H
      exact absurd H (by simp)
    ·rw [if_neg c7] at H
     exact absurd H (by simp)
   ·rw [if_neg c6] at H; have c6b0 : decide (x21_1 < (l1.length : Int)) = false := decide_eq_false c6; clear c6; obtain ⟨⟨t866, t869⟩, A36, H⟩ := ob H
    (try dsimp only at H)
    simp only [Option.some.injEq, Prod.mk.injEq] at H; obtain ⟨rfl, rfl⟩ := H; obtain ⟨hcz37_0, hcz37_1, hfz37_0, hfz37_1⟩ := xc2 BK865; obtain ⟨Ao38, co38, eo38⟩ := Kd.R_slice HO_10.out; subst eo38
    go_wp2_with (first | (go_at_call 57; (with_reducible refine (edit_clocks_normal.calls k1 a0_0 a0_1 _ _ x10_1 t866 t869 _ ?side1 ?side2 A36.out).mono ?_); (case side1 => exact cr HO_10); (case side2 => exact (Kd.R_reads' HO_10.out).2.1); rintro e w39 ⟨v867, rfl, ho0, hb⟩; have HO868 := Aside0.mk (Kd.R_lower (Kd.R_new' ho0 (Kd.R_lt (rz HO_10))) sz); replace HO_10 := Aside0.mk (Kd.R_elder' (rz HO_10) (Kd.R_base ho0) hb); replace BK865 := kb BK865 hb; replace HB := bp hb; clear hb ho0))
    repeat (go_quiet (first | (go_at_call 57; (with_reducible refine (edit_clocks_normal.calls k1 a0_0 a0_1 _ _ x10_1 t866 t869 _ ?side1 ?side2 A36.out).mono ?_); (case side1 => exact cr HO_10); (case side2 => exact (Kd.R_reads' HO_10.out).2.1); rintro e w39 ⟨v867, rfl, ho0, hb⟩; have n0_ := Aside0.mk (Kd.R_elder' (rz HO_10) (Kd.R_base ho0) hb); have n1_ := Aside0.mk (Kd.R_lower (Kd.R_new' ho0 (Kd.R_lt (rz HO_10))) sz); have n2_ := kb BK865 hb; have n3_ := bp hb; clear HO_10; clear BK865; clear HB; have HO_10 := n0_; have HO868 := n1_; have BK865 := n2_; have HB := n3_; clear n0_ n1_ n2_ n3_; (try clear hb); (try clear hb2); (try clear hk); (try clear hi); (try clear ho0))); try go_wp2_with (first | (go_at_call 57; (with_reducible refine (edit_clocks_normal.calls k1 a0_0 a0_1 _ _ x10_1 t866 t869 _ ?side1 ?side2 A36.out).mono ?_); (case side1 => exact cr HO_10); (case side2 => exact (Kd.R_reads' HO_10.out).2.1); rintro e w39 ⟨v867, rfl, ho0, hb⟩; have HO868 := Aside0.mk (Kd.R_lower (Kd.R_new' ho0 (Kd.R_lt (rz HO_10))) sz); replace HO_10 := Aside0.mk (Kd.R_elder' (rz HO_10) (Kd.R_base ho0) hb); replace BK865 := kb BK865 hb; replace HB := bp hb; clear hb; (try clear ho0))))
    go_ret2
    exact ⟨_, ez, by (with_reducible repeat (first | apply Kd.R_alloc | apply Kd.R_drewN | apply Kd.R_drew)); exact Kd.R_mono HO868.out (fun _ hk => trivial), bz⟩
def edit_Cut.f (k : Nat) (l0 : List (S77)) (a1 : Int) (a2 : Int) (a3 : Int) (a4 : Int) : Option ((List (S77)) × Int) := (edit_Check.f k l0 a1 a2).bind fun t880 => (if t880 = 0 then ((edit_isTick.f a3).bind fun t881 => (if t881 = true then ((edit_isTick.f a4).bind fun t882 => (if t882 = true then (if a4 < a3 then (some (([] : List (S77)), 1)) else ((edit_clocks_cut.f k a1 a2 l0 a3 a4).bind fun bt883 => (some (bt883.1, bt883.2)))) else (some (([] : List (S77)), 1)))) else (some (([] : List (S77)), 1)))) else (some (([] : List (S77)), t880)))
set_option maxHeartbeats 8000000 in
set_option maxRecDepth 100000 in
theorem edit_Cut.calls (k : Nat) (A0 : Option Addr) (c0 : Nat) (l0 : List (S77)) (a1 : Int) (a2 : Int) (a3 : Int) (a4 : Int) (r1 : List (S77)) (r2 : Int) (w : World) (hr0 : Kd.C k77 w A0 l0.length l0) (hc0 : l0.length ≤ c0) (h : edit_Cut.f k l0 a1 a2 a3 a4 = some (r1, r2)) :
  Calls Try.prog 38 #[.slice A0 l0.length c0, .int .i64 a1, .int .i64 a2, .int .i64 a3, .int .i64 a4] w fun e w' => ∃ v0_ : Value, e = .returned (.tuple #[v0_, .int .i64 r2]) ∧ Kd.R k77 77 w' w.heap.size (fun _ => True) v0_ r1 ∧ Below w.heap.size w w' := by
 have hu79 := Try.underlying79; have HR0 := Aside0.mk hr0; have HC0 := Aside0.mk hc0; clear hr0 hc0; have HB := Aside0.mk (Below.refl w.heap.size w); have H : ((edit_Check.f k l0 a1 a2).bind fun t880 => (if t880 = 0 then ((edit_isTick.f a3).bind fun t881 => (if t881 = true then ((edit_isTick.f a4).bind fun t882 => (if t882 = true then (if a4 < a3 then (some (([] : List (S77)), 1)) else ((edit_clocks_cut.f k a1 a2 l0 a3 a4).bind fun bt883 => (some (bt883.1, bt883.2)))) else (some (([] : List (S77)), 1)))) else (some (([] : List (S77)), 1)))) else (some (([] : List (S77)), t880)))) = some (r1, r2) := h
 clear h; obtain ⟨t880, A6, H⟩ := ob H
 by_cases c7 : t880 = 0
 ·rw [if_pos c7] at H; have c7b0 : (t880 == 0) = true := beq_iff_eq.mpr c7; have c7b1 : (t880 != 0) = false := bne_eq_false_iff_eq.mpr c7; clear c7; obtain ⟨t881, A8, H⟩ := ob H
  by_cases c9 : t881 = true
  ·subst c9; rw [if_pos rfl] at H; obtain ⟨t882, A10, H⟩ := ob H
   by_cases c11 : t882 = true
   ·subst c11; rw [if_pos rfl] at H
    by_cases c12 : a4 < a3
    ·rw [if_pos c12] at H; have c12b0 : decide (a4 < a3) = true := decide_eq_true c12; clear c12; simp only [Option.some.injEq, Prod.mk.injEq] at H; obtain ⟨rfl, rfl⟩ := H
     go_enter Try.func38, Try.ntmps38
     go_wp2_with (first | ((with_reducible refine gate_callee (f := 24) rfl ?_); refine zC 16 Try.func24 #[.slice A0 l0.length c0, .int .i64 a1, .int .i64 a2] ?_; (with_reducible refine (edit_Check.calls k _ _ l0 a1 a2 t880 _ ?side1 ?side2 A6.out).mono ?_); (case side1 => repeat (first | exact HR0.out | (with_reducible refine Kd.C_alloc ?_ _) | (with_reducible refine Kd.C_drewN ?_ _) | (with_reducible refine Kd.C_drew ?_))); (case side2 => exact HC0.out); rintro e w13 ⟨rfl, hb⟩; refine ⟨_, rfl, ?_⟩; replace HB := bp hb; clear hb) | ((with_reducible refine gate_callee (f := 92) rfl ?_); refine zC 21 Try.func92 #[.int .i64 a3] ?_; (with_reducible refine (edit_isTick.calls a3 true _ A8.out).mono ?_); rintro e w' ⟨rfl, ⟨nd, rfl⟩⟩; refine ⟨_, rfl, ?_⟩) | (go_at_call 92; (with_reducible refine (edit_isTick.calls a4 true _ A10.out).mono ?_); rintro e w' ⟨rfl, ⟨nd, rfl⟩⟩))
     go_ret2
     exact ⟨_, ez, by first | exact Kd.R_nil _ _ _ _ _ | exact Kd.N_nil _ _ _ _ _ | exact Kd.V_nil _ _ _ _ _ | exact Kd.Q_nil _ _ _ _ _ | exact Kd.S_nil _ _ _ _ _, bz⟩
    ·rw [if_neg c12] at H; have c12b0 : decide (a4 < a3) = false := decide_eq_false c12; clear c12; obtain ⟨⟨t883, t886⟩, A14, H⟩ := ob H
     (try dsimp only at H)
     simp only [Option.some.injEq, Prod.mk.injEq] at H; obtain ⟨rfl, rfl⟩ := H
     go_enter Try.func38, Try.ntmps38
     go_wp2_with (first | ((with_reducible refine gate_callee (f := 24) rfl ?_); refine zC 16 Try.func24 #[.slice A0 l0.length c0, .int .i64 a1, .int .i64 a2] ?_; (with_reducible refine (edit_Check.calls k _ _ l0 a1 a2 t880 _ ?side1 ?side2 A6.out).mono ?_); (case side1 => repeat (first | exact HR0.out | (with_reducible refine Kd.C_alloc ?_ _) | (with_reducible refine Kd.C_drewN ?_ _) | (with_reducible refine Kd.C_drew ?_))); (case side2 => exact HC0.out); rintro e w15 ⟨rfl, hb⟩; refine ⟨_, rfl, ?_⟩; replace HB := bp hb; clear hb) | ((with_reducible refine gate_callee (f := 92) rfl ?_); refine zC 21 Try.func92 #[.int .i64 a3] ?_; (with_reducible refine (edit_isTick.calls a3 true _ A8.out).mono ?_); rintro e w' ⟨rfl, ⟨nd, rfl⟩⟩; refine ⟨_, rfl, ?_⟩) | (go_at_call 92; (with_reducible refine (edit_isTick.calls a4 true _ A10.out).mono ?_); rintro e w' ⟨rfl, ⟨nd, rfl⟩⟩) | ((with_reducible refine gate_callee (f := 93) rfl ?_); refine zC 39 Try.func93 #[.agg #[.int .i64 a1, .int .i64 a2], .slice A0 l0.length c0, .int .i64 a3, .int .i64 a4] ?_; (with_reducible refine (edit_clocks_cut.calls k a1 a2 _ _ l0 a3 a4 t883 t886 _ ?side1 ?side2 A14.out).mono ?_); (case side1 => repeat (first | exact (Kd.C_below HR0.out bz) | (with_reducible refine Kd.C_alloc ?_ _) | (with_reducible refine Kd.C_drewN ?_ _) | (with_reducible refine Kd.C_drew ?_))); (case side2 => exact HC0.out); rintro e w16 ⟨v884, rfl, ho0, hb⟩; refine ⟨_, rfl, ?_⟩; have HO885 := Aside0.mk (Kd.R_lower ho0 sz); replace HB := bp hb; clear hb ho0))
     go_ret2
     exact ⟨_, ez, by (with_reducible repeat (first | apply Kd.R_alloc | apply Kd.R_drewN | apply Kd.R_drew)); exact HO885.out, bz⟩
   ·obtain rfl := bf c11; rw [if_neg (show ¬ (false = true) by decide)] at H; simp only [Option.some.injEq, Prod.mk.injEq] at H; obtain ⟨rfl, rfl⟩ := H
    go_enter Try.func38, Try.ntmps38
    go_wp2_with (first | ((with_reducible refine gate_callee (f := 24) rfl ?_); refine zC 16 Try.func24 #[.slice A0 l0.length c0, .int .i64 a1, .int .i64 a2] ?_; (with_reducible refine (edit_Check.calls k _ _ l0 a1 a2 t880 _ ?side1 ?side2 A6.out).mono ?_); (case side1 => repeat (first | exact HR0.out | (with_reducible refine Kd.C_alloc ?_ _) | (with_reducible refine Kd.C_drewN ?_ _) | (with_reducible refine Kd.C_drew ?_))); (case side2 => exact HC0.out); rintro e w17 ⟨rfl, hb⟩; refine ⟨_, rfl, ?_⟩; replace HB := bp hb; clear hb) | ((with_reducible refine gate_callee (f := 92) rfl ?_); refine zC 21 Try.func92 #[.int .i64 a3] ?_; (with_reducible refine (edit_isTick.calls a3 true _ A8.out).mono ?_); rintro e w' ⟨rfl, ⟨nd, rfl⟩⟩; refine ⟨_, rfl, ?_⟩) | (go_at_call 92; (with_reducible refine (edit_isTick.calls a4 false _ A10.out).mono ?_); rintro e w' ⟨rfl, ⟨nd, rfl⟩⟩))
    go_ret2
    exact ⟨_, ez, by first | exact Kd.R_nil _ _ _ _ _ | exact Kd.N_nil _ _ _ _ _ | exact Kd.V_nil _ _ _ _ _ | exact Kd.Q_nil _ _ _ _ _ | exact Kd.S_nil _ _ _ _ _, bz⟩
  ·obtain rfl := bf c9; rw [if_neg (show ¬ (false = true) by decide)] at H; simp only [Option.some.injEq, Prod.mk.injEq] at H; obtain ⟨rfl, rfl⟩ := H
   go_enter Try.func38, Try.ntmps38
   go_wp2_with (first | ((with_reducible refine gate_callee (f := 24) rfl ?_); refine zC 16 Try.func24 #[.slice A0 l0.length c0, .int .i64 a1, .int .i64 a2] ?_; (with_reducible refine (edit_Check.calls k _ _ l0 a1 a2 t880 _ ?side1 ?side2 A6.out).mono ?_); (case side1 => repeat (first | exact HR0.out | (with_reducible refine Kd.C_alloc ?_ _) | (with_reducible refine Kd.C_drewN ?_ _) | (with_reducible refine Kd.C_drew ?_))); (case side2 => exact HC0.out); rintro e w18 ⟨rfl, hb⟩; refine ⟨_, rfl, ?_⟩; replace HB := bp hb; clear hb) | ((with_reducible refine gate_callee (f := 92) rfl ?_); refine zC 21 Try.func92 #[.int .i64 a3] ?_; (with_reducible refine (edit_isTick.calls a3 false _ A8.out).mono ?_); rintro e w' ⟨rfl, ⟨nd, rfl⟩⟩; refine ⟨_, rfl, ?_⟩))
   go_ret2
   exact ⟨_, ez, by first | exact Kd.R_nil _ _ _ _ _ | exact Kd.N_nil _ _ _ _ _ | exact Kd.V_nil _ _ _ _ _ | exact Kd.Q_nil _ _ _ _ _ | exact Kd.S_nil _ _ _ _ _, bz⟩
 ·rw [if_neg c7] at H; have c7b0 : (t880 == 0) = false := beq_eq_false_iff_ne.mpr c7; have c7b1 : (t880 != 0) = true := bne_iff_ne.mpr c7; simp only [Option.some.injEq, Prod.mk.injEq] at H; obtain ⟨rfl, rfl⟩ := H
  go_enter Try.func38, Try.ntmps38
  go_wp2_with (first | ((with_reducible refine gate_callee (f := 24) rfl ?_); refine zC 16 Try.func24 #[.slice A0 l0.length c0, .int .i64 a1, .int .i64 a2] ?_; (with_reducible refine (edit_Check.calls k _ _ l0 a1 a2 t880 _ ?side1 ?side2 A6.out).mono ?_); (case side1 => repeat (first | exact HR0.out | (with_reducible refine Kd.C_alloc ?_ _) | (with_reducible refine Kd.C_drewN ?_ _) | (with_reducible refine Kd.C_drew ?_))); (case side2 => exact HC0.out); rintro e w19 ⟨rfl, hb⟩; refine ⟨_, rfl, ?_⟩; replace HB := bp hb; clear hb))
  go_ret2
  exact ⟨_, ez, by first | exact Kd.R_nil _ _ _ _ _ | exact Kd.N_nil _ _ _ _ _ | exact Kd.V_nil _ _ _ _ _ | exact Kd.Q_nil _ _ _ _ _ | exact Kd.S_nil _ _ _ _ _, bz⟩
end Go.Proofs.Ytpbhepdgamoiaaa.E
namespace Go.Proofs.Ytpbhepdgamoiaaa.E
open Go.Proofs.Ytpbhepdgamoiaaa.Z Go.RowKit Go.Proofs.YtpbhepdgamoiaaaW.PrintWords Go.Proofs.YtpbhepdgamoiaaaW.PrintLast Go.Proofs.YtpbhepdgamoiaaaW.PrintMore
attribute [local go_sem] max2_int min2_int max_two min_two max_three min_three max_four min_four
set_option linter.unusedVariables false
set_option linter.unusedSimpArgs false
attribute [local go_sem high] eqA77
end Go.Proofs.Ytpbhepdgamoiaaa.E
namespace Go.Proofs.Ytpbhepdgamoiaaa.E
open Go.Proofs.Ytpbhepdgamoiaaa.Z Go.RowKit Go.Proofs.YtpbhepdgamoiaaaW.PrintWords Go.Proofs.YtpbhepdgamoiaaaW.PrintLast Go.Proofs.YtpbhepdgamoiaaaW.PrintMore
attribute [local go_sem] max2_int min2_int max_two min_two max_three min_three max_four min_four
set_option linter.unusedVariables false
set_option linter.unusedSimpArgs false
end Go.Proofs.Ytpbhepdgamoiaaa.E
namespace Go.Proofs.Ytpbhepdgamoiaaa.Pf
open Go.RowKit Go Go.Proofs.YtpbhepdgamoiaaaW.PrintWords Go.Proofs.YtpbhepdgamoiaaaW.PrintLast Go.Proofs.YtpbhepdgamoiaaaW.PrintMore Go.Proofs.Ytpbhepdgamoiaaa.Mn Go.Proofs.Ytpbhepdgamoiaaa.Rf Go.Proofs.Ytpbhepdgamoiaaa.Er Go.Proofs.Ytpbhepdgamoiaaa.Ek Go.Proofs.Ytpbhepdgamoiaaa.E Go.Proofs.Ytpbhepdgamoiaaa.Pe
set_option linter.unusedVariables false
set_option linter.unusedSimpArgs false
def lowV (x : Ed) : Ed := ⟨x.f0, x.f1, (qq x.f2 x.f3).num, ((qq x.f2 x.f3).den : Int)⟩
def ovV (ms ts : Int) (a b : Ed) : Bool := overB ms ts a.f0 a.f1 a.f2 a.f3 b.f1 b.f2 b.f3
def push (ms ts : Int) : List Ed → Ed → List Ed
 | [], e => [e]
 | a :: t, e => if ovV ms ts a e = true then ⟨a.f0 + e.f0, a.f1, a.f2, a.f3⟩ :: t else e :: a :: t
def nrmR (ms ts : Int) (out l : List Ed) : List Ed := (l.map lowV).foldl (push ms ts) out
def nrm (ms ts : Int) (l : List Ed) : List Ed := (nrmR ms ts [] l).reverse
def fin (out : List Ed) : List Ed × Int := if 20 < out.length then ([], 2) else (out.reverse, 0)
def nrmV (ms ts : Int) (l : List Ed) : List Ed × Int := if 1099511627776 < sumD l then ([], 2) else fin (nrmR ms ts [] l)
structure Wd (x : Ed) : Prop where
 d0 : 1 ≤ x.f0
 m0 : -1 ≤ x.f1
 m1 : x.f1 ≤ 1099511627776
 n0 : 0 ≤ x.f2
 n1 : x.f2 ≤ 1000
 e0 : 1 ≤ x.f3
 e1 : x.f3 ≤ 1000
theorem wd_low {x : Ed} (h : Vd x) : Wd (lowV x) := by
 have hq := qq_low h.n0 h.e0
 have h1 := h.n1
 have h2 := h.e1
 exact ⟨h.d0, h.m0, h.m1, hq.1, by unfold lowV; simp only; omega, hq.2.2.1, by unfold lowV; simp only; omega⟩
theorem low_f {x : Ed} (h : Vd x) : edit_lowest.f x.f0 x.f1 x.f2 x.f3 = some ((lowV x).f0, (lowV x).f1, (lowV x).f2, (lowV x).f3) := by
 unfold edit_lowest.f rateOk
 have h0 := h.n0
 have h1 := h.n1
 have h2 := h.e0
 have h3 := h.e1
 rw [decide_eq_true h0, decide_eq_true (show x.f2 ≤ 1000000 by omega), decide_eq_true h2, decide_eq_true (show x.f3 ≤ 1000000 by omega)]
 rfl
theorem over_f {ms ts : Int} {a b : Ed} (hc : Ck ms ts) (ha : Wd a) (hd : a.f0 ≤ 1099511627776) (hb : Wd b) : edit_clocks_over.f ms ts a.f0 a.f1 a.f2 a.f3 b.f0 b.f1 b.f2 b.f3 = some (ovV ms ts a b) := by
 unfold edit_clocks_over.f overOk in64
 have c0 := hc.m0
 have c1 := hc.m1
 have c2 := hc.t0
 have c3 := hc.t1
 have a0 := ha.d0
 have a1 := ha.m0
 have a2 := ha.m1
 have a3 := ha.n0
 have a4 := ha.n1
 have a5 := ha.e0
 have a6 := ha.e1
 have b1 := hb.m0
 have b2 := hb.m1
 rw [if_pos (by simp only [Bool.and_eq_true, decide_eq_true_eq]; omega)]
 rfl
theorem sumD_rev (l : List Ed) : sumD l.reverse = sumD l := by
 induction l with
 | nil => rfl
 | cons x t ih => rw [List.reverse_cons, sumD_app, ih]; simp only [sumD]; omega
theorem push_sum (ms ts : Int) (out : List Ed) (e : Ed) : sumD (push ms ts out e) = sumD out + e.f0 := by
 cases out with
 | nil => simp [push, sumD]
 | cons a t =>
  simp only [push]
  split
  ·simp only [sumD]; omega
  ·simp only [sumD]; omega
theorem push_wd {ms ts : Int} {out : List Ed} {e : Ed} (h : ∀ x ∈ out, Wd x) (he : Wd e) : ∀ x ∈ push ms ts out e, Wd x := by
 cases out with
 | nil => simpa [push] using he
 | cons a t =>
  have ha := h a (by simp)
  simp only [push]
  split
  ·intro x hx
   simp only [List.mem_cons] at hx
   rcases hx with rfl | hx
   ·have a0 := ha.d0
    have e0 := he.d0
    exact ⟨by simp only; omega, ha.m0, ha.m1, ha.n0, ha.n1, ha.e0, ha.e1⟩
   ·exact h x (by simp [hx])
  ·intro x hx
   simp only [List.mem_cons] at hx
   rcases hx with rfl | hx
   ·exact he
   ·exact h x (by simpa using hx)
theorem push_len (ms ts : Int) (out : List Ed) (e : Ed) : (push ms ts out e).length ≤ out.length + 1 := by
 cases out with
 | nil => simp [push]
 | cons a t =>
  simp only [push]
  split <;> simp
theorem wd_sum {l : List Ed} (h : ∀ x ∈ l, Wd x) : 0 ≤ sumD l := by
 induction l with
 | nil => simp [sumD]
 | cons x t ih =>
  have h1 := (h x (by simp)).d0
  have h2 := ih (fun y hy => h y (by simp [hy]))
  simp only [sumD]
  omega
theorem normal_l {ms ts : Int} (hc : Ck ms ts) (l : List Ed) (hV : ∀ x ∈ l, Vd x) (hl : l.length ≤ 1000000000) (rest : List Ed) :
  ∀ pre out, l = pre ++ rest → sumD out = sumD pre → sumD pre ≤ 1099511627776 → (∀ x ∈ out, Wd x) → out.length ≤ pre.length →
   Ev (fun k => edit_clocks_normal.l0 k out.reverse (sumD pre) l (l.length : Int) (pre.length : Int) ms ts) (if 1099511627776 < sumD l then ([], 2) else fin (nrmR ms ts out rest)) := by
 induction rest with
 | nil =>
  intro pre out he hs hp hw ho
  subst he
  rw [if_neg (by simp only [List.append_nil]; omega)]
  refine Ev.step (f := fun _ => some (fin (nrmR ms ts out []))) (fun k => ?_) (Ev.now _)
  simp only [edit_clocks_normal.l0, List.append_nil]
  rw [if_neg (by omega)]
  unfold fin nrmR
  simp only [List.map_nil, List.foldl_nil, List.length_reverse]
  by_cases h : 20 < out.length
  ·rw [if_pos h, if_pos (by omega)]
  ·rw [if_neg h, if_neg (by omega)]
 | cons x t ih =>
  intro pre out he hs hp hw ho
  have hlen : l.length = pre.length + (t.length + 1) := by rw [he]; simp
  have hx : rd_T77 l (pre.length : Int) = x := by rw [he]; exact rd_at pre x t
  have hvx : Vd x := hV x (by rw [he]; simp)
  have hst : 0 ≤ sumD t := sumD_nonneg (fun y hy => hV y (by rw [he]; simp [hy]))
  have hsl : sumD l = sumD pre + x.f0 + sumD t := by rw [he, sumD_app]; simp only [sumD]; omega
  have hs0 : 0 ≤ sumD pre := by rw [← hs]; exact wd_sum hw
  have hd0 := hvx.d0
  have hd1 := hvx.d1
  have hsp : sumD (pre ++ [x]) = sumD pre + x.f0 := by rw [sumD_app]; simp [sumD]
  by_cases hbig : sumD pre + x.f0 > 1099511627776
  ·rw [if_pos (by omega)]
   refine Ev.step (f := fun _ => some ([], 2)) (fun k => ?_) (Ev.now _)
   simp only [edit_clocks_normal.l0]
   rw [if_pos (by omega), if_pos (by omega), if_pos (by omega), hx, low_f hvx]
   simp only [Option.bind_some]
   rw [show (lowV x).f0 = x.f0 from rfl, w64 (by omega) (by omega), if_pos hbig]
  ·have hwl := wd_low hvx
   have hr := ih (pre ++ [x]) (push ms ts out (lowV x)) (by rw [he]; simp) (by rw [push_sum, hs, hsp]; rfl) (by omega) (push_wd hw hwl) (by have := push_len ms ts out (lowV x); simp only [List.length_append, List.length_cons, List.length_nil]; omega)
   have hn : nrmR ms ts out (x :: t) = nrmR ms ts (push ms ts out (lowV x)) t := rfl
   rw [hn]
   refine Ev.step (f := fun k => edit_clocks_normal.l1 k out.reverse (sumD (pre ++ [x])) (out.reverse.length : Int) l (l.length : Int) (pre.length : Int) ms ts (lowV x).f0 (lowV x).f1 (lowV x).f2 (lowV x).f3) (fun k => ?_) ?_
   ·simp only [edit_clocks_normal.l0]
    rw [if_pos (by omega), if_pos (by omega), if_pos (by omega), hx, low_f hvx]
    simp only [Option.bind_some]
    rw [show (lowV x).f0 = x.f0 from rfl, w64 (by omega) (by omega), if_neg hbig, hsp]
   ·refine Ev.step (f := fun k => edit_clocks_normal.l0 k (push ms ts out (lowV x)).reverse (sumD (pre ++ [x])) l (l.length : Int) ((pre ++ [x]).length : Int) ms ts) (fun k => ?_) hr
    simp only [edit_clocks_normal.l1]
    have hpl : wrap64 ((pre.length : Int) + 1) = ((pre ++ [x]).length : Int) := by rw [w64 (by omega) (by omega)]; simp
    rw [hpl]
    cases out with
    | nil =>
     rw [if_neg (show ¬ (([] : List Ed).reverse.length : Int) > 0 by simp), if_pos (show ([] : List Ed).reverse.length < 4398046511104 by simp)]
     rfl
    | cons a o =>
     have hla : (a :: o).reverse.length = o.length + 1 := by simp
     have hra : rd_T77 (a :: o).reverse (o.length : Int) = a := by
      rw [List.reverse_cons]
      have := rd_at o.reverse a []
      rw [List.length_reverse] at this
      exact this
     have hol : o.length + 1 ≤ pre.length := ho
     have hsa := wd_sum (l := o) (fun y hy => hw y (by simp [hy]))
     have hda : a.f0 ≤ 1099511627776 := by simp only [sumD] at hs; omega
     rw [hla, if_pos (by omega), w64 (by omega) (by omega), show ((o.length + 1 : Nat) : Int) - 1 = (o.length : Int) by omega, if_pos (by omega), if_pos (by omega), hra]
     have ha0 := (hw a (by simp)).d0
     have hov : edit_clocks_over.f ms ts a.f0 a.f1 a.f2 a.f3 (lowV x).f0 (lowV x).f1 (lowV x).f2 (lowV x).f3 = some (ovV ms ts a (lowV x)) := over_f hc (hw a (by simp)) hda hwl
     rw [hov]
     simp only [Option.bind_some, push]
     by_cases hb : ovV ms ts a (lowV x) = true
     ·rw [if_pos hb, if_pos hb]
      have hf : (lowV x).f0 = x.f0 := rfl
      simp only [sumD] at hs
      rw [w64 (by rw [hf]; omega) (by rw [hf]; omega)]
      congr 1
      rw [List.reverse_cons, List.reverse_cons, Int.toNat_natCast]
      have : o.length = o.reverse.length := by simp
      rw [this, List.set_append_right _ _ (Nat.le_refl _)]
      simp
     ·rw [if_neg hb, if_neg hb, if_pos (by omega)]
      congr 1
      simp
theorem normal_f {ms ts : Int} (hc : Ck ms ts) (l : List Ed) (hV : ∀ x ∈ l, Vd x) (hl : l.length ≤ 1000000000) : Ev (fun k => edit_clocks_normal.f k ms ts l) (nrmV ms ts l) :=
 normal_l hc l hV hl l [] [] rfl rfl (by simp [sumD]) (by simp) (by simp)
theorem nrmR_sum (ms ts : Int) (l : List Ed) : ∀ out, sumD (nrmR ms ts out l) = sumD out + sumD l := by
 induction l with
 | nil => intro out; simp [nrmR, sumD]
 | cons x t ih =>
  intro out
  have h := ih (push ms ts out (lowV x))
  have hn : nrmR ms ts out (x :: t) = nrmR ms ts (push ms ts out (lowV x)) t := rfl
  rw [hn, h, push_sum]
  simp only [sumD]
  have : (lowV x).f0 = x.f0 := rfl
  omega
theorem nrm_sum (ms ts : Int) (l : List Ed) : sumD (nrm ms ts l) = sumD l := by
 unfold nrm
 rw [sumD_rev, nrmR_sum]
 simp [sumD]
theorem nrmR_len (ms ts : Int) (l : List Ed) : ∀ out, (nrmR ms ts out l).length ≤ out.length + l.length := by
 induction l with
 | nil => intro out; simp [nrmR]
 | cons x t ih =>
  intro out
  have h := ih (push ms ts out (lowV x))
  have hn : nrmR ms ts out (x :: t) = nrmR ms ts (push ms ts out (lowV x)) t := rfl
  have h2 := push_len ms ts out (lowV x)
  rw [hn]
  simp only [List.length_cons]
  omega
theorem nrm_len (ms ts : Int) (l : List Ed) : (nrm ms ts l).length ≤ l.length := by
 have := nrmR_len ms ts l []
 unfold nrm
 simp only [List.length_reverse, List.length_nil] at this ⊢
 omega
def norV (ms ts : Int) (l : List Ed) : List Ed × Int := if chk l ms ts = 0 then (nrm ms ts l, 0) else ([], chk l ms ts)
theorem Normal_f (l : List Ed) (ms ts : Int) : Ev (fun k => edit_Normal.f k l ms ts) (norV ms ts l) := by
 unfold norV
 by_cases h0 : chk l ms ts = 0
 ·obtain ⟨hc, hl, hV, hs⟩ := chk_ok.1 h0
  rw [if_pos h0]
  have hr : nrmV ms ts l = (nrm ms ts l, 0) := by
   have := nrmR_len ms ts l []
   simp only [List.length_nil] at this
   unfold nrmV fin nrm
   rw [if_neg (by omega), if_neg (by omega)]
  have h1 := check_f l ms ts
  rw [h0] at h1
  refine Ev.congr (fun k => rfl) (Ev.bind h1 ?_)
  refine Ev.congr (fun k => if_pos rfl) (Ev.bind (normal_f hc l hV (by omega)) ?_)
  rw [hr]
  exact Ev.now _
 ·rw [if_neg h0]
  refine Ev.congr (fun k => rfl) (Ev.bind (check_f l ms ts) ?_)
  refine Ev.congr (fun k => if_neg h0) (Ev.now _)
end Go.Proofs.Ytpbhepdgamoiaaa.Pf
namespace Go.Proofs.Ytpbhepdgamoiaaa.Pg
open Go.RowKit Go Go.Proofs.YtpbhepdgamoiaaaW.PrintWords Go.Proofs.YtpbhepdgamoiaaaW.PrintLast Go.Proofs.YtpbhepdgamoiaaaW.PrintMore Go.Proofs.Ytpbhepdgamoiaaa.Mn Go.Proofs.Ytpbhepdgamoiaaa.Rf Go.Proofs.Ytpbhepdgamoiaaa.Er Go.Proofs.Ytpbhepdgamoiaaa.Ek Go.Proofs.Ytpbhepdgamoiaaa.E Go.Proofs.Ytpbhepdgamoiaaa.Pe Go.Proofs.Ytpbhepdgamoiaaa.Pf
set_option linter.unusedVariables false
set_option linter.unusedSimpArgs false
instance : DecidableEq Ed := fun x y =>
 decidable_of_iff (x.f0 = y.f0 ∧ x.f1 = y.f1 ∧ x.f2 = y.f2 ∧ x.f3 = y.f3) ⟨fun h => by cases x; cases y; simp_all, fun h => by subst h; simp⟩
theorem ed_ne (x y : Ed) : (!x.f0 == y.f0 || (!x.f1 == y.f1 || (!x.f2 == y.f2 || !x.f3 == y.f3))) = !decide (x = y) := by
 cases x; cases y
 rw [Bool.eq_iff_iff]
 simp
def exL : List Ed := [⟨10, 0, 1, 1⟩, ⟨5, 10, 1, 1⟩]
theorem nrm_ex : nrm 10 10 exL = [⟨15, 0, 1, 1⟩] := by decide +kernel
theorem chk_ex : chk exL 10 10 = 0 := by decide +kernel
theorem awake_f : Ev (fun k => dioramalaw10_awake.f k) true := by
 have h := Normal_f exL 10 10
 unfold norV at h
 rw [if_pos chk_ex, nrm_ex] at h
 refine Ev.congr (fun k => rfl) (Ev.bind h ?_)
 refine Ev.congr (f := fun _ => some true) (fun k => ?_) (Ev.now _)
 rfl
theorem many_f (l : List Ed) : dioramalaw10_many.f l = some (decide (60 < l.length)) := by
 unfold dioramalaw10_many.f
 congr 1
 by_cases h : 60 < l.length
 ·rw [decide_eq_true h, decide_eq_true (by omega)]
 ·rw [decide_eq_false h, decide_eq_false (by omega)]
end Go.Proofs.Ytpbhepdgamoiaaa.Pg
namespace Go.Proofs.Ytpbhepdgamoiaaa.Ph
open Go.RowKit Go Go.Proofs.YtpbhepdgamoiaaaW.PrintWords Go.Proofs.YtpbhepdgamoiaaaW.PrintLast Go.Proofs.YtpbhepdgamoiaaaW.PrintMore Go.Proofs.Ytpbhepdgamoiaaa.Mn Go.Proofs.Ytpbhepdgamoiaaa.Rf Go.Proofs.Ytpbhepdgamoiaaa.Er Go.Proofs.Ytpbhepdgamoiaaa.Ek Go.Proofs.Ytpbhepdgamoiaaa.E Go.Proofs.Ytpbhepdgamoiaaa.Pe Go.Proofs.Ytpbhepdgamoiaaa.Pf Go.Proofs.Ytpbhepdgamoiaaa.Pg
set_option linter.unusedVariables false
set_option linter.unusedSimpArgs false
end Go.Proofs.Ytpbhepdgamoiaaa.Ph
namespace Go.Proofs.Ytpbhepdgamoiaaa.Pa
open Go.RowKit Go.Proofs.Ytpbhepdgamoiaaa.P Go.Proofs.Ytpbhepdgamoiaaa.E Go.Proofs.YtpbhepdgamoiaaaW.PrintWords Go.Proofs.YtpbhepdgamoiaaaW.PrintLast Go.Proofs.Ytpbhepdgamoiaaa.Ml Go.Proofs.Ytpbhepdgamoiaaa.Mn
set_option linter.unusedVariables false
set_option linter.unusedSimpArgs false
abbrev Bd : Int := 1000000000
abbrev Nn (l : List Int) : Prop := Cn 1000000000 l
theorem top_cons {x : Int} {l : List Int} (h : Top l) (hx : l = [] → x ≠ 0) : Top (x :: l) := by
 intro hne
 cases l with
 | nil => simpa using hx rfl
 | cons y t =>
  rw [List.getLast_cons (by simp)]
  exact h (by simp)
theorem digit_f (l : List Int) (i : Nat) : dioramaref02_digit.f l (i : Int) = some (l.getD i 0) := by
 unfold dioramaref02_digit.f
 by_cases h : i < l.length
 ·rw [if_pos (by omega), if_pos (by omega), rd_nat]
 ·rw [if_neg (by omega), getD_ge (by omega)]
theorem tmodB {x : Int} (h : 0 ≤ x) : Int.tmod x 1000000000 = x % 1000000000 := Int.tmod_eq_emod_of_nonneg h
theorem tdivB {x : Int} (h : 0 ≤ x) : Int.tdiv x 1000000000 = x / 1000000000 := Int.tdiv_eq_ediv_of_nonneg h
theorem of_l (m : Nat) : ∀ (x : Int) (acc : List Int), 0 ≤ x → x < pw 1000000000 m → x ≤ 9223372036854775807 → acc.length + m ≤ 1000 → ∃ r, Ev (fun k => dioramaref02_Of.l0 k x acc) (acc ++ r) ∧ Nn r ∧ dv 1000000000 r = x ∧ r.length ≤ m := by
 induction m with
 | zero =>
  intro x acc h0 h1 _ _
  have hx : x = 0 := by simp [pw] at h1; omega
  subst hx
  exact ⟨[], Ev.step (f := fun _ => some (acc ++ [])) (fun k => by simp [dioramaref02_Of.l0]) (Ev.now _), Cn.nil _, rfl, Nat.le_refl _⟩
 | succ m ih =>
  intro x acc h0 h1 h2 hl
  by_cases hx : x = 0
  ·subst hx
   exact ⟨[], Ev.step (f := fun _ => some (acc ++ [])) (fun k => by simp [dioramaref02_Of.l0]) (Ev.now _), Cn.nil _, rfl, Nat.zero_le _⟩
  ·have hd : x / 1000000000 < pw 1000000000 m := by
    rw [pw_succ] at h1
    omega
   obtain ⟨r, he, hc, hv, hr⟩ := ih (x / 1000000000) (acc ++ [x % 1000000000]) (by omega) hd (by omega) (by simp; omega)
   refine ⟨x % 1000000000 :: r, ?_, ⟨Dg.cons (by omega) (by omega) hc.dg, top_cons hc.top (fun h => ?_)⟩, ?_, by simp; omega⟩
   ·rw [List.append_assoc, List.singleton_append] at he
    refine Ev.step (fun k => ?_) he
    simp only [dioramaref02_Of.l0]
    rw [if_pos (by omega), if_pos (by omega), tdivB h0, tmodB h0, w64 (by omega) (by omega)]
   ·subst h
    simp only [dv] at hv
    omega
   ·simp only [dv] at hv ⊢
    rw [hv]
    omega
theorem of_f (x : Int) (h0 : 0 ≤ x) (h1 : x ≤ 9223372036854775807) : ∃ r, Ev (fun k => dioramaref02_Of.f k x) r ∧ Nn r ∧ dv 1000000000 r = x ∧ r.length ≤ 3 := by
 obtain ⟨r, he, h⟩ := of_l 3 x [] h0 (by simp [pw]; omega) h1 (by simp)
 exact ⟨r, he, h⟩
theorem trimmed_l (l : List Int) (hd : Dg 1000000000 l) (hl : l.length ≤ 1000000) : ∀ n : Nat, n ≤ l.length → dv 1000000000 (l.take n) = dv 1000000000 l → ∃ r, Ev (fun k => dioramaref02_trimmed.l0 k l (n : Int)) r ∧ Nn r ∧ dv 1000000000 r = dv 1000000000 l ∧ r.length ≤ n := by
 intro n
 induction n with
 | zero =>
  intro _ hv
  refine ⟨[], Ev.step (f := fun _ => some []) (fun k => ?_) (Ev.now _), Cn.nil _, by rw [← hv]; rfl, Nat.le_refl _⟩
  simp [dioramaref02_trimmed.l0]
 | succ n ih =>
  intro hn hv
  have hw : wrap64 (((n + 1 : Nat) : Int) - 1) = (n : Int) := by rw [w64 (by omega) (by omega)]; omega
  by_cases hz : l.getD n 0 = 0
  ·obtain ⟨r, he, hc, hr, hlr⟩ := ih (by omega) (by rw [← hv] ; rw [dv_take_succ', hz]; omega)
   refine ⟨r, Ev.step (fun k => ?_) he, hc, hr, by omega⟩
   simp only [dioramaref02_trimmed.l0, hw, rd_nat]
   rw [if_pos (by omega), if_pos (by omega), if_pos (by omega), if_pos hz]
  ·refine ⟨l.take (n + 1), Ev.step (f := fun _ => some (l.take (n + 1))) (fun k => ?_) (Ev.now _), ⟨hd.take _, top_of_getD ?_⟩, hv, by simp; omega⟩
   ·simp only [dioramaref02_trimmed.l0, hw, rd_nat]
    rw [if_pos (by omega), if_pos (by omega), if_pos (by omega), if_neg hz, if_pos (by omega), if_pos (by omega), Int.toNat_natCast]
   ·rw [List.length_take, Nat.min_eq_left (by omega)]
    simp only [Nat.add_sub_cancel]
    rw [List.getD_eq_getElem?_getD, List.getElem?_take_of_lt (by omega), ← List.getD_eq_getElem?_getD]
    exact hz
theorem trimmed_f (l : List Int) (hd : Dg 1000000000 l) (hl : l.length ≤ 1000000) : ∃ r, Ev (fun k => dioramaref02_trimmed.f k l) r ∧ Nn r ∧ dv 1000000000 r = dv 1000000000 l ∧ r.length ≤ l.length :=
 trimmed_l l hd hl l.length (Nat.le_refl _) (by rw [List.take_length])
theorem cmp1 {x y : Int} (h : x < y) : Nd.cmpI x y = -1 := by unfold Nd.cmpI; rw [if_pos h]
theorem cmp2 {x y : Int} (h : y < x) : Nd.cmpI x y = 1 := by unfold Nd.cmpI; rw [if_neg (by omega), if_pos h]
theorem cmp0 {x y : Int} (h : x = y) : Nd.cmpI x y = 0 := by unfold Nd.cmpI; rw [if_neg (by omega), if_neg (by omega)]
theorem compare_l (a b : List Int) (ha : Dg 1000000000 a) (hb : Dg 1000000000 b) (hl : a.length = b.length) (hn : a.length ≤ 1000000) : ∀ i : Nat, i ≤ a.length → dv 1000000000 (a.drop i) = dv 1000000000 (b.drop i) →
  Ev (fun k => dioramaref02_Compare.l0 k a b ((i : Int) - 1)) (Nd.cmpI (dv 1000000000 a) (dv 1000000000 b)) := by
 intro i
 induction i with
 | zero =>
  intro _ h
  refine Ev.step (f := fun _ => some 0) (fun k => ?_) (by rw [cmp0 (by simpa using h)]; exact Ev.now _)
  simp [dioramaref02_Compare.l0]
 | succ i ih =>
  intro hi h
  have e : (((i + 1 : Nat) : Int) - 1) = (i : Int) := by omega
  have hw : wrap64 ((i : Int) - 1) = (i : Int) - 1 := w64 (by omega) (by omega)
  rw [e]
  rcases Int.lt_trichotomy (a.getD i 0) (b.getD i 0) with h1 | h1 | h1
  ·rw [cmp1 (dv_less (by decide) ha hb hl i (by omega) h h1)]
   refine Ev.step (f := fun _ => some (-1)) (fun k => ?_) (Ev.now _)
   simp only [dioramaref02_Compare.l0, rd_nat]
   rw [if_pos (by omega), if_pos (by omega), if_pos (by omega), if_pos (by omega), if_pos h1]
  ·refine Ev.step (fun k => ?_) (ih (by omega) (by rw [dv_drop _ a i (by omega), dv_drop _ b i (by omega), h1, h]))
   simp only [dioramaref02_Compare.l0, rd_nat, hw]
   rw [if_pos (by omega), if_pos (by omega), if_pos (by omega), if_pos (by omega), if_neg (by omega), if_neg (by omega)]
  ·rw [cmp2 (dv_less (by decide) hb ha hl.symm i (by omega) h.symm h1)]
   refine Ev.step (f := fun _ => some 1) (fun k => ?_) (Ev.now _)
   simp only [dioramaref02_Compare.l0, rd_nat]
   rw [if_pos (by omega), if_pos (by omega), if_pos (by omega), if_pos (by omega), if_neg (by omega), if_pos h1]
theorem compare_f (a b : List Int) (ha : Nn a) (hb : Nn b) (hn : a.length ≤ 1000000) (hm : b.length ≤ 1000000) : Ev (fun k => dioramaref02_Compare.f k a b) (Nd.cmpI (dv 1000000000 a) (dv 1000000000 b)) := by
 by_cases hl : a.length = b.length
 ·have h := compare_l a b ha.dg hb.dg hl hn a.length (Nat.le_refl _) (by rw [List.drop_of_length_le (Nat.le_refl _), List.drop_of_length_le (by omega)])
  refine Ev.congr (fun k => ?_) h
  simp only [dioramaref02_Compare.f]
  rw [if_pos (by omega), w64 (by omega) (by omega)]
 ·by_cases h1 : a.length < b.length
  ·rw [cmp1 (dv_len (by decide) ha.dg hb h1)]
   refine Ev.congr (f := fun _ => some (-1)) (fun k => ?_) (Ev.now _)
   simp only [dioramaref02_Compare.f]
   rw [if_neg (by omega), if_pos (by omega)]
  ·rw [cmp2 (dv_len (by decide) hb.dg ha (by omega))]
   refine Ev.congr (f := fun _ => some 1) (fun k => ?_) (Ev.now _)
   simp only [dioramaref02_Compare.f]
   rw [if_neg (by omega), if_neg (by omega)]
end Go.Proofs.Ytpbhepdgamoiaaa.Pa

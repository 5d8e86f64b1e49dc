/-
  Printed walks.
-/
import Derived.Test.YtpbhepdgamoiaaaQREditWholea
import Derived.Test.YtpbhepdgamoiaaaQREditWholee
import Derived.Test.YtpbhepdgamoiaaaQREditWholec
import Derived.Test.YtpbhepdgamoiaaaQREditWholed
namespace Go.Proofs.Ytpbhepdgamoiaaa.E
open Go.Proofs.Ytpbhepdgamoiaaa.Z Go.RowKit Go.Proofs.YtpbhepdgamoiaaaW.PrintWords Go.Proofs.YtpbhepdgamoiaaaW.PrintLast Go.Proofs.YtpbhepdgamoiaaaW.PrintMore
attribute [local go_sem] max2_int min2_int max_two min_two max_three min_three max_four min_four
set_option linter.unusedVariables false
set_option linter.unusedSimpArgs false
mutual
def dioramaref02_Over.l0 : Nat → List Int → List Int → List Int → List Int → Int → Option (List Int × List Int)
  | 0, _, _, _, _, _ => none
  | k + 1, x0, x1, x6, x7, x8 => if x8 ≥ 0 then (if 0 ≤ x8 then (if x8 < (x0.length : Int) then ((some (([rd x0 x8] : List Int) : List Int)).bind fun y415 => (if y415.length + x7.length < 17592186044416 then ((dioramaref02_trimmed.f k (y415 ++ x7)).bind fun t421 => (dioramaref02_Over.l1 k x0 x1 x6 t421 x8 0 999999999)) else (none))) else (none)) else (none)) else ((dioramaref02_trimmed.f k x6).bind fun t411 => (some (t411, x7)))
def dioramaref02_Over.l1 : Nat → List Int → List Int → List Int → List Int → Int → Int → Int → Option (List Int × List Int)
  | 0, _, _, _, _, _, _, _ => none
  | k + 1, x0, x1, x6, x7, x8, x10, x11 => if x10 < x11 then ((dioramaref02_Of.f k (wrap64 (Int.tdiv (wrap64 ((wrap64 (x10 + x11)) + 1)) 2))).bind fun t434 => ((dioramaref02_Times.f k x1 t434).bind fun t437 => ((dioramaref02_Compare.f k t437 x7).bind fun t440 => (if t440 ≤ 0 then (dioramaref02_Over.l1 k x0 x1 x6 x7 x8 (wrap64 (Int.tdiv (wrap64 ((wrap64 (x10 + x11)) + 1)) 2)) x11) else (dioramaref02_Over.l1 k x0 x1 x6 x7 x8 x10 (wrap64 ((wrap64 (Int.tdiv (wrap64 ((wrap64 (x10 + x11)) + 1)) 2)) - 1))))))) else (if 0 ≤ x8 then (if x8 < (x6.length : Int) then ((dioramaref02_Of.f k x10).bind fun t425 => ((dioramaref02_Times.f k x1 t425).bind fun t428 => ((dioramaref02_Minus.f k x7 t428).bind fun t431 => (dioramaref02_Over.l0 k x0 x1 (x6.set (x8 : Int).toNat x10) t431 (wrap64 (x8 - 1)))))) else (none)) else (none))
end
def dioramaref02_Over.f (k : Nat) (l0 : List Int) (l1 : List Int) : Option (List Int × List Int) := if 0 ≤ (l0.length : Int) then (if ((l0.length : Int) : Int).toNat ≤ 35184372088832 then (dioramaref02_Over.l0 k l0 l1 (List.replicate ((l0.length : Int) : Int).toNat 0) ([] : List Int) (wrap64 ((l0.length : Int) - 1))) else (none)) else (none)
set_option maxHeartbeats 8000000 in
set_option maxRecDepth 100000 in
theorem dioramaref02_Over.calls (k : Nat) (A0 : Option Addr) (c0 : Nat) (l0 : List Int) (A1 : Option Addr) (c1 : Nat) (l1 : List Int) (r1 : List Int) (r2 : List Int) (w : World) (hr0 : Kd.C (Kd.int .i64) w A0 l0.length l0) (hc0 : l0.length ≤ c0) (hr1 : Kd.C (Kd.int .i64) w A1 l1.length l1) (hc1 : l1.length ≤ c1) (h : dioramaref02_Over.f k l0 l1 = some (r1, r2)) :
  Calls Try.prog 123 #[.slice A0 l0.length c0, .slice A1 l1.length c1] w fun e w' => ∃ v0_ v1_ : Value, e = .returned (.tuple #[v0_, v1_]) ∧ Kd.R (Kd.int .i64) 3 w' w.heap.size (fun k_ => some k_ ≠ (v1_ : Value).ownBlock) v0_ r1 ∧ Kd.R (Kd.int .i64) 3 w' w.heap.size (fun k_ => some k_ ≠ (v0_ : Value).ownBlock) v1_ r2 ∧ Below w.heap.size w w' := by
 have HR0 := Aside0.mk hr0; have HC0 := Aside0.mk hc0; clear hr0 hc0; have HR1 := Aside0.mk hr1; have HC1 := Aside0.mk hc1; clear hr1 hc1; have HB := Aside0.mk (Below.refl w.heap.size w); have H : (if 0 ≤ (l0.length : Int) then (if ((l0.length : Int) : Int).toNat ≤ 35184372088832 then (dioramaref02_Over.l0 k l0 l1 (List.replicate ((l0.length : Int) : Int).toNat 0) ([] : List Int) (wrap64 ((l0.length : Int) - 1))) else (none)) else (none)) = some (r1, r2) := h; clear h
 by_cases c3 : 0 ≤ (l0.length : Int)
 ·rw [if_pos c3] at H; have c3b0 := eq_true c3; have c3b1 : decide (0 ≤ (l0.length : Int)) = true := decide_eq_true c3; clear c3
  by_cases c4 : ((l0.length : Int) : Int).toNat ≤ 35184372088832
  ·rw [if_pos c4] at H; have c4b0 := eq_true c4; have c4b1 : decide (((l0.length : Int) : Int).toNat ≤ 35184372088832) = true := decide_eq_true c4; clear c4; obtain ⟨y408, hy408⟩ : ∃ y_ : List Int, y_ = (List.replicate ((l0.length : Int) : Int).toNat 0) := ⟨_, rfl⟩; replace H : (dioramaref02_Over.l0 k l0 l1 y408 ([] : List Int) (wrap64 ((l0.length : Int) - 1))) = some (r1, r2) := by first | (rw [hy408]; with_reducible exact H) | (have H2_ := (Option.bind_some _ _).symm.trans H; rw [hy408]; with_reducible exact H2_) | (have H2_ := (Option.bind_some _ _).symm.trans H; with_reducible exact H2_) | with_reducible exact H | (rw [hy408]; exact H) | exact H
   have Ny408 := Aside0.mk hy408; clear hy408; have H' := Aside0.mk H; clear H
   go_enter Try.func123, Try.ntmps123
   go_wp2_with (first | ((with_reducible refine gate_dst (N := 15) rfl ?_); refine Kd.R_make (Kd.int .i64) _ 3 rfl (N := 15) rfl 93 _ _ rfl (l0.length : Int) rfl rfl Try.underlying93 (.int .i64 0) 8 info3 rfl (by decide) (by omega) 0 (ok := fun _ => True) (okp := fun _ => True) rfl (fun _ hk => hk) trivial (od) (Nat.le_trans (Nat.mul_le_mul_right _ (od : (l0.length : Int).toNat ≤ 35184372088832)) (by omega)) (Below.refl _ _) (Nat.le_refl _) ?_; intro v409 w5 ho6 hb hg_ hnew_; clear hg_ hnew_; (first | rw [← Ny408.out] at ho6 | (simp only [Int.reduceToNat] at ho6; rw [← Ny408.out] at ho6)); have HO410 := Aside0.mk (Kd.R_lower ho6 sz); replace HB := bp hb; clear hb ho6))
   go_loopg [7, 8] k (fun kq v7 v8 w' => ∃ (x6_1 : List Int) (x7_1 : List Int) (x8_1 : Int), v8 = .int .i64 x8_1 ∧ Aside0 (dioramaref02_Over.l0 kq l0 l1 x6_1 x7_1 x8_1 = some (r1, r2)) ∧ Aside0 (kq ≤ k) ∧ Aside0 (Kd.R (Kd.int .i64) 3 w' w.heap.size (fun k_ => some k_ ≠ (v7 : Value).ownBlock) v409 x6_1) ∧ Aside0 (Kd.R (Kd.int .i64) 3 w' w.heap.size (fun k_ => some k_ ≠ (v409 : Value).ownBlock) v7 x7_1) ∧ Aside0 (Below w.heap.size w w'))
   case atStart => exact ⟨(y408), (([] : List Int)), (wrap64 ((l0.length : Int) - 1)), jz, H', ⟨Nat.le_refl _⟩, ⟨by (with_reducible repeat (first | apply Kd.R_alloc | apply Kd.R_drewN | apply Kd.R_drew)); exact Kd.R_mono HO410.out (fun _ hk => (by simp [Value.ownBlock]))⟩, ⟨by first | exact Kd.R_nil _ _ _ _ _ | exact Kd.N_nil _ _ _ _ _ | exact Kd.V_nil _ _ _ _ _ | exact Kd.Q_nil _ _ _ _ _ | exact Kd.S_nil _ _ _ _ _⟩, ⟨bz⟩⟩
   case round =>
    clear H'
    try clear c1
    try clear p2
    try clear c3
    try clear c3b0
    try clear c3b1
    try clear c4
    try clear c4b0
    try clear c4b1
    try clear p6
    obtain ⟨x6_1, x7_1, x8_1, rfl, HA, HK1, HO_6, HO_7, HB⟩ := hrel
    cases gk with
    | zero => exact absurd HA.out (by simp [dioramaref02_Over.l0])
    | succ k1 =>
     have H := HA.out; clear HA; simp only [dioramaref02_Over.l0] at H
     by_cases c7 : x8_1 ≥ 0
     ·rw [if_pos c7] at H; have c7b0 : decide (0 ≤ x8_1) = true := decide_eq_true c7; clear c7
      by_cases c8 : 0 ≤ x8_1
      ·rw [if_pos c8] at H; have c8b0 : decide (0 ≤ x8_1) = true := decide_eq_true c8; clear c8
       by_cases c9 : x8_1 < (l0.length : Int)
       ·rw [if_pos c9] at H; have c9b0 : decide (x8_1 < (l0.length : Int)) = true := decide_eq_true c9; clear c9; obtain ⟨y415, hy415⟩ : ∃ y_ : List Int, y_ = (([rd l0 x8_1] : List Int)) := ⟨_, rfl⟩; replace H : (if y415.length + x7_1.length < 17592186044416 then ((dioramaref02_trimmed.f k1 (y415 ++ x7_1)).bind fun t421 => (dioramaref02_Over.l1 k1 l0 l1 x6_1 t421 x8_1 0 999999999)) else (none)) = some (r1, r2) := by first | (rw [hy415]; with_reducible exact H) | (have H2_ := (Option.bind_some _ _).symm.trans H; rw [hy415]; with_reducible exact H2_) | (have H2_ := (Option.bind_some _ _).symm.trans H; with_reducible exact H2_) | with_reducible exact H | (rw [hy415]; exact H) | exact H
        have Ny415 := Aside0.mk hy415; clear hy415
        by_cases c10 : y415.length + x7_1.length < 17592186044416
        ·rw [if_pos c10] at H; have LMc10 := Aside0.mk c10; clear c10; obtain ⟨y418, hy418⟩ : ∃ y_ : List Int, y_ = (y415 ++ x7_1) := ⟨_, rfl⟩; replace H : ((dioramaref02_trimmed.f k1 y418).bind fun t421 => (dioramaref02_Over.l1 k1 l0 l1 x6_1 t421 x8_1 0 999999999)) = some (r1, r2) := by first | (rw [hy418]; with_reducible exact H) | (have H2_ := (Option.bind_some _ _).symm.trans H; rw [hy418]; with_reducible exact H2_) | (have H2_ := (Option.bind_some _ _).symm.trans H; with_reducible exact H2_) | with_reducible exact H | (rw [hy418]; exact H) | exact H
         have Ny418 := Aside0.mk hy418; clear hy418; obtain ⟨t421, A11, H⟩ := ob H; have H' := Aside0.mk H; clear H; have p414 : 0 ≤ (x8_1 : Int) := od; have q414 : x8_1 < (l0.length : Int) := od; obtain ⟨ad414, e414, hx414_0⟩ := Kd.at_int HR0.out x8_1 p414 q414
         cases e414
         replace hx414_0 := cl HB hx414_0; replace p414 := eq_true p414; replace q414 := eq_true q414
         go_wp2_with (first | ((with_reducible refine gate_dst (N := 27) rfl ?_); refine Kd.R_lit (Kd.int .i64) _ 3 ?hg (N := 27) ?hd (xs := ([rd l0 x8_1] : List Int)) (inner := [.int .i64 (rd l0 x8_1)]) (ok := fun _ => True) (okp := fun _ => True) ?hr ?hp (fun _ hk => hk) trivial (Below.refl _ _) (Nat.le_refl _) (by simp) ?_; (case hd => rfl); (case hg => rfl); (case hr => first | (go_simp; done) | (go_simp; rfl)); (case hp => exact (Reps.one (show Kd.M (Kd.int .i64) _ _ _ (rd l0 x8_1) [.int .i64 (rd l0 x8_1)] from rfl) (Reps.none _ _))); intro v416 w12 ho13 hb hg_ hnew_; clear hg_ hnew_; (first | rw [← Ny415.out] at ho13 | (simp only [Int.reduceToNat] at ho13; rw [← Ny415.out] at ho13)); have HO417 := Aside0.mk (Kd.R_lower (Kd.R_new' (Kd.R_new' ho13 (Kd.R_lt (rz HO_6))) (Kd.R_lt (rz HO_7))) sz); replace HO_6 := Aside0.mk (Kd.R_elder' (rz HO_6) (Kd.R_base ho13) hb); replace HO_7 := Aside0.mk (Kd.R_elder' (rz HO_7) (Kd.R_base ho13) hb); replace HB := bp hb; clear hb ho13; obtain ⟨Ao15, co15, eo15⟩ := Kd.R_slice HO_7.out; subst eo15) | ((with_reducible refine gate_builtin (b := .append) (xs := #[.tmp 28, .tmp 29]) rfl ?_); at_builtin; refine Kd.R_append_rows (Kd.int .i64) (w0 := w) w.heap.size rfl (.tmp 28) (.tmp 29) 93 3 (.int .i64 0) 8 rfl Try.underlying93 info3 rfl (by decide) (by omega) v416 y415 x7_1 _ _ _ (fun k_ => some k_ ≠ (v409 : Value).ownBlock ∧ some k_ ≠ (.slice Ao15 x7_1.length co15 : Value).ownBlock) (fun _ => False) rfl rfl ?aO ?aR (fun _ _ h => h) (fun _ h => h.elim) ?aF ?aB ?aS ?aL ?_; (case aR => repeat (first | exact (Kd.R_reads' HO_7.out).2.2 | (with_reducible refine Kd.C_alloc ?_ _) | (with_reducible refine Kd.C_drewN ?_ _) | (with_reducible refine Kd.C_drew ?_))); (case aB => exact bz); (case aF => exact (fun k_ hk => ⟨Kd.fresh' (Kd.R_lt (rz HO_6)) k_ hk, Kd.fresh' (Kd.R_lt (rz HO_7)) k_ hk⟩)); (case aO => exact (by (with_reducible repeat (first | apply Kd.R_alloc | apply Kd.R_drewN | apply Kd.R_drew)); exact Kd.R_mono HO417.out (fun _ hk => ⟨hk.1.2, hk.2⟩))); (case aS => exact sz); (case aL => have := LMc10.out; omega); intro v419 w14 ho hb hg hat; rw [← Ny418.out] at ho; replace HO_6 := Aside0.mk (Kd.R_after (ok := (fun k_ => some k_ ≠ (.slice Ao15 x7_1.length co15 : Value).ownBlock)) (rz HO_6) hg hat); replace HO_7 := Aside0.mk (Kd.R_after (ok := (fun k_ => some k_ ≠ (v409 : Value).ownBlock)) (rz HO_7) hg hat); replace HB := Aside0.mk (hb); have HO420 := Aside0.mk (ho); clear HO417; clear ho hb hg hat; obtain ⟨Ao16, co16, eo16⟩ := Kd.R_slice HO420.out; subst eo16) | ((with_reducible refine gate_callee (f := 154) rfl ?_); refine zC 31 Try.func154 #[.slice Ao16 y418.length co16] ?_; (with_reducible refine (dioramaref02_trimmed.calls k1 (fun k_ => some k_ = (.slice Ao16 y418.length co16 : Value).ownBlock) (.slice Ao16 y418.length co16) y418 t421 w _ ?side1 ?side2 A11.out).mono ?_); (case side1 => repeat (first | (with_reducible first | exact HB.out | apply below_alloc | apply pw_below_drewN | apply below_drew1) | exact HB.out)); (case side2 => exact Kd.R_tight rfl HO420.out); rintro e w17 ⟨v422, rfl, ho0, hb, hkp⟩; refine ⟨_, rfl, ?_⟩; have HO423 := Aside0.mk (Kd.R_mono (ok' := fun k_ => some k_ ≠ (v409 : Value).ownBlock ∧ some k_ ≠ (.slice Ao15 x7_1.length co15 : Value).ownBlock) ho0 (fun k_ hk_ => ⟨Or.elim hk_ (fun hs_ => fun e_ => (((HO_6.out).1 k_ e_.symm).2) hs_) (fun hn_ => (Kd.fresh' (Kd.R_lt (rz HO_6)) k_ hn_)), Or.elim hk_ (fun hs_ => fun e_ => (((HO_7.out).1 k_ e_.symm).2) hs_) (fun hn_ => (Kd.fresh' (Kd.R_lt (rz HO_7)) k_ hn_))⟩)); replace HO_6 := Aside0.mk (Kd.R_mono (ok' := fun k_ => some k_ ≠ (.slice Ao15 x7_1.length co15 : Value).ownBlock ∧ some k_ ≠ (v422 : Value).ownBlock) (Kd.R_keptB (HO_6.out) hkp (fun k_ hk_ hs_ => (hk_.2) hs_)) (fun k_ hk_ => ⟨hk_.1.1, fun e_ => Or.elim (ho0.1 k_ e_.symm) (fun hs_ => hk_.2.1 hs_) (fun hn_ => Nat.not_le.2 hk_.2.2 hn_)⟩)); replace HO_7 := Aside0.mk (Kd.R_mono (ok' := fun k_ => some k_ ≠ (v409 : Value).ownBlock ∧ some k_ ≠ (v422 : Value).ownBlock) (Kd.R_keptB (HO_7.out) hkp (fun k_ hk_ hs_ => (hk_.2) hs_)) (fun k_ hk_ => ⟨hk_.1.1, fun e_ => Or.elim (ho0.1 k_ e_.symm) (fun hs_ => hk_.2.1 hs_) (fun hn_ => Nat.not_le.2 hk_.2.2 hn_)⟩)); replace HB := Aside0.mk (hb); clear HO420; clear hb hkp ho0))
         go_loopg [10, 11] k1 (fun kq v10 v11 w' => ∃ (x10_2 : Int) (x11_2 : Int), v10 = .int .i64 x10_2 ∧ v11 = .int .i64 x11_2 ∧ Aside0 (dioramaref02_Over.l1 kq l0 l1 x6_1 t421 x8_1 x10_2 x11_2 = some (r1, r2)) ∧ Aside0 (kq ≤ k1) ∧ Aside0 (Kd.R (Kd.int .i64) 3 w' w.heap.size (fun k_ => some k_ ≠ (v422 : Value).ownBlock) v409 x6_1) ∧ Aside0 (Kd.R (Kd.int .i64) 3 w' w.heap.size (fun k_ => some k_ ≠ (v409 : Value).ownBlock) v422 t421) ∧ Aside0 (Below w.heap.size w w'))
         case atStart => exact ⟨(0), (999999999), jz, jz, H', ⟨Nat.le_refl _⟩, ⟨by (with_reducible repeat (first | apply Kd.R_alloc | apply Kd.R_drewN | apply Kd.R_drew)); exact Kd.R_mono HO_6.out (fun _ hk => hk.2)⟩, ⟨by (with_reducible repeat (first | apply Kd.R_alloc | apply Kd.R_drewN | apply Kd.R_drew)); exact Kd.R_mono HO423.out (fun _ hk => hk.1)⟩, ⟨bz⟩⟩
         case round =>
          clear H'
          try clear c1
          try clear p2
          try clear c3
          try clear c3b0
          try clear c3b1
          try clear c4
          try clear c4b0
          try clear c4b1
          try clear p4
          try clear q4
          try clear hx4
          try clear p6
          try clear c7
          try clear c7b0
          try clear c8
          try clear c8b0
          try clear c9
          try clear c9b0
          try clear c10
          try clear c12
          try clear c15
          try clear hx414_0
          try clear p2
          try clear p414
          try clear p6
          try clear q414
          obtain ⟨x10_2, x11_2, rfl, rfl, HA, HK2, HO_6, HO_7, HB⟩ := hrel
          cases gk with
          | zero => exact absurd HA.out (by simp [dioramaref02_Over.l1])
          | succ k2 =>
           have H := HA.out; clear HA; simp only [dioramaref02_Over.l1] at H
           by_cases c18 : x10_2 < x11_2
           ·rw [if_pos c18] at H; have c18b0 : decide (x10_2 < x11_2) = true := decide_eq_true c18; clear c18; obtain ⟨t434, A19, H⟩ := ob H; obtain ⟨t437, A20, H⟩ := ob H; obtain ⟨t440, A21, H⟩ := ob H
            by_cases c22 : t440 ≤ 0
            ·rw [if_pos c22] at H; have c22b0 : decide (t440 ≤ 0) = true := decide_eq_true c22; clear c22; have H' := Aside0.mk H; clear H
             go_wp2_with (first | ((with_reducible refine gate_callee (f := 121) rfl ?_); refine zC 42 Try.func121 #[.int .i64 (wrap64 (Int.tdiv (wrap64 ((wrap64 (x10_2 + x11_2)) + 1)) 2))] ?_; (with_reducible refine (dioramaref02_Of.calls k2 (wrap64 (Int.tdiv (wrap64 ((wrap64 (x10_2 + x11_2)) + 1)) 2)) t434 _ A19.out).mono ?_); rintro e w23 ⟨v435, rfl, ho0, hb⟩; refine ⟨_, rfl, ?_⟩; have HO436 := Aside0.mk (Kd.R_lower (Kd.R_new' (Kd.R_new' ho0 (Kd.R_lt (rz HO_6))) (Kd.R_lt (rz HO_7))) sz); replace HO_6 := Aside0.mk (Kd.R_elder' (rz HO_6) (Kd.R_base ho0) hb); replace HO_7 := Aside0.mk (Kd.R_elder' (rz HO_7) (Kd.R_base ho0) hb); replace HB := bp hb; clear hb ho0; obtain ⟨Ao24, co24, eo24⟩ := Kd.R_slice HO436.out; subst eo24) | ((with_reducible refine gate_callee (f := 124) rfl ?_); refine zC 43 Try.func124 #[.slice A1 l1.length c1, .slice Ao24 t434.length co24] ?_; (with_reducible refine (dioramaref02_Times.calls k2 _ _ l1 _ _ t434 t437 _ ?side1 ?side2 ?side3 ?side4 A20.out).mono ?_); (case side1 => exact cz HR1); (case side2 => exact HC1.out); (case side3 => exact cr HO436); (case side4 => exact (Kd.R_reads' HO436.out).2.1); rintro e w25 ⟨v438, rfl, ho0, hb⟩; refine ⟨_, rfl, ?_⟩; have HO439 := Aside0.mk (Kd.R_lower (Kd.R_new' (Kd.R_new' (Kd.R_new' ho0 (Kd.R_lt (rz HO_6))) (Kd.R_lt (rz HO_7))) (Kd.R_lt (rz HO436))) sz); replace HO_6 := Aside0.mk (Kd.R_elder' (rz HO_6) (Kd.R_base ho0) hb); replace HO_7 := Aside0.mk (Kd.R_elder' (rz HO_7) (Kd.R_base ho0) hb); replace HO436 := Aside0.mk (Kd.R_elder' (rz HO436) (Kd.R_base ho0) hb); replace HB := bp hb; clear hb ho0; obtain ⟨Ao26, co26, eo26⟩ := Kd.R_slice HO439.out; subst eo26; obtain ⟨Ao27, co27, eo27⟩ := Kd.R_slice HO_7.out; subst eo27) | ((with_reducible refine gate_callee (f := 122) rfl ?_); refine zC 45 Try.func122 #[.slice Ao26 t437.length co26, .slice Ao27 t421.length co27] ?_; (with_reducible refine (dioramaref02_Compare.calls k2 _ _ t437 _ _ t421 t440 _ ?side1 ?side2 ?side3 ?side4 A21.out).mono ?_); (case side1 => exact cr HO439); (case side2 => exact (Kd.R_reads' HO439.out).2.1); (case side3 => exact cr HO_7); (case side4 => exact (Kd.R_reads' HO_7.out).2.1); rintro e w' ⟨rfl, ⟨nd, rfl⟩⟩; refine ⟨_, rfl, ?_⟩))
             go_roundg k2
             case measure => have := HK1.out; have := HK2.out; omega
             case rel => exact ⟨(wrap64 (Int.tdiv (wrap64 ((wrap64 (x10_2 + x11_2)) + 1)) 2)), (x11_2), jz, jz, H', ⟨by have := HK1.out; have := HK2.out; omega⟩, ⟨by (with_reducible repeat (first | apply Kd.R_alloc | apply Kd.R_drewN | apply Kd.R_drew)); exact Kd.R_mono HO_6.out (fun _ hk => hk.1.1)⟩, ⟨by (with_reducible repeat (first | apply Kd.R_alloc | apply Kd.R_drewN | apply Kd.R_drew)); exact Kd.R_mono HO_7.out (fun _ hk => hk.1.1)⟩, ⟨bz⟩⟩
            ·rw [if_neg c22] at H; have c22b0 : decide (t440 ≤ 0) = false := decide_eq_false c22; clear c22; have H' := Aside0.mk H; clear H
             go_wp2_with (first | ((with_reducible refine gate_callee (f := 121) rfl ?_); refine zC 42 Try.func121 #[.int .i64 (wrap64 (Int.tdiv (wrap64 ((wrap64 (x10_2 + x11_2)) + 1)) 2))] ?_; (with_reducible refine (dioramaref02_Of.calls k2 (wrap64 (Int.tdiv (wrap64 ((wrap64 (x10_2 + x11_2)) + 1)) 2)) t434 _ A19.out).mono ?_); rintro e w28 ⟨v435, rfl, ho0, hb⟩; refine ⟨_, rfl, ?_⟩; have HO436 := Aside0.mk (Kd.R_lower (Kd.R_new' (Kd.R_new' ho0 (Kd.R_lt (rz HO_6))) (Kd.R_lt (rz HO_7))) sz); replace HO_6 := Aside0.mk (Kd.R_elder' (rz HO_6) (Kd.R_base ho0) hb); replace HO_7 := Aside0.mk (Kd.R_elder' (rz HO_7) (Kd.R_base ho0) hb); replace HB := bp hb; clear hb ho0; obtain ⟨Ao29, co29, eo29⟩ := Kd.R_slice HO436.out; subst eo29) | ((with_reducible refine gate_callee (f := 124) rfl ?_); refine zC 43 Try.func124 #[.slice A1 l1.length c1, .slice Ao29 t434.length co29] ?_; (with_reducible refine (dioramaref02_Times.calls k2 _ _ l1 _ _ t434 t437 _ ?side1 ?side2 ?side3 ?side4 A20.out).mono ?_); (case side1 => exact cz HR1); (case side2 => exact HC1.out); (case side3 => exact cr HO436); (case side4 => exact (Kd.R_reads' HO436.out).2.1); rintro e w30 ⟨v438, rfl, ho0, hb⟩; refine ⟨_, rfl, ?_⟩; have HO439 := Aside0.mk (Kd.R_lower (Kd.R_new' (Kd.R_new' (Kd.R_new' ho0 (Kd.R_lt (rz HO_6))) (Kd.R_lt (rz HO_7))) (Kd.R_lt (rz HO436))) sz); replace HO_6 := Aside0.mk (Kd.R_elder' (rz HO_6) (Kd.R_base ho0) hb); replace HO_7 := Aside0.mk (Kd.R_elder' (rz HO_7) (Kd.R_base ho0) hb); replace HO436 := Aside0.mk (Kd.R_elder' (rz HO436) (Kd.R_base ho0) hb); replace HB := bp hb; clear hb ho0; obtain ⟨Ao31, co31, eo31⟩ := Kd.R_slice HO439.out; subst eo31; obtain ⟨Ao32, co32, eo32⟩ := Kd.R_slice HO_7.out; subst eo32) | ((with_reducible refine gate_callee (f := 122) rfl ?_); refine zC 45 Try.func122 #[.slice Ao31 t437.length co31, .slice Ao32 t421.length co32] ?_; (with_reducible refine (dioramaref02_Compare.calls k2 _ _ t437 _ _ t421 t440 _ ?side1 ?side2 ?side3 ?side4 A21.out).mono ?_); (case side1 => exact cr HO439); (case side2 => exact (Kd.R_reads' HO439.out).2.1); (case side3 => exact cr HO_7); (case side4 => exact (Kd.R_reads' HO_7.out).2.1); rintro e w' ⟨rfl, ⟨nd, rfl⟩⟩; refine ⟨_, rfl, ?_⟩))
             go_roundg k2
             case measure => have := HK1.out; have := HK2.out; omega
             case rel => exact ⟨(x10_2), (wrap64 ((wrap64 (Int.tdiv (wrap64 ((wrap64 (x10_2 + x11_2)) + 1)) 2)) - 1)), jz, jz, H', ⟨by have := HK1.out; have := HK2.out; omega⟩, ⟨by (with_reducible repeat (first | apply Kd.R_alloc | apply Kd.R_drewN | apply Kd.R_drew)); exact Kd.R_mono HO_6.out (fun _ hk => hk.1.1)⟩, ⟨by (with_reducible repeat (first | apply Kd.R_alloc | apply Kd.R_drewN | apply Kd.R_drew)); exact Kd.R_mono HO_7.out (fun _ hk => hk.1.1)⟩, ⟨bz⟩⟩
           ·rw [if_neg c18] at H; have c18b0 : decide (x10_2 < x11_2) = false := decide_eq_false c18; clear c18
            by_cases c33 : 0 ≤ x8_1
            ·rw [if_pos c33] at H; have c33b0 : decide (0 ≤ x8_1) = true := decide_eq_true c33; clear c33
             by_cases c34 : x8_1 < (x6_1.length : Int)
             ·rw [if_pos c34] at H; have c34b0 : decide (x8_1 < (x6_1.length : Int)) = true := decide_eq_true c34; clear c34; obtain ⟨y424, hy424⟩ : ∃ y_ : List Int, y_ = (x6_1.set (x8_1 : Int).toNat x10_2) := ⟨_, rfl⟩; replace H : ((dioramaref02_Of.f k2 x10_2).bind fun t425 => ((dioramaref02_Times.f k2 l1 t425).bind fun t428 => ((dioramaref02_Minus.f k2 t421 t428).bind fun t431 => (dioramaref02_Over.l0 k2 l0 l1 y424 t431 (wrap64 (x8_1 - 1)))))) = some (r1, r2) := by first | (rw [hy424]; with_reducible exact H) | (have H2_ := (Option.bind_some _ _).symm.trans H; rw [hy424]; with_reducible exact H2_) | (have H2_ := (Option.bind_some _ _).symm.trans H; with_reducible exact H2_) | with_reducible exact H | (rw [hy424]; exact H) | exact H
              have Ny424 := Aside0.mk hy424; clear hy424; obtain ⟨t425, A36, H⟩ := ob H; obtain ⟨t428, A37, H⟩ := ob H; obtain ⟨t431, A38, H⟩ := ob H; have H' := Aside0.mk H; clear H; have p35 : 0 ≤ (x8_1 : Int) := od; have q35 : (x8_1 : Int) < ((x6_1.length : Int) : Int) := od; obtain ⟨go35, co35, eo35, gb35, gl35, cl35, HG35⟩ := Kd.R_form HO_6.out (by omega)
              (first | cases eo35 | (injection eo35 with ea_ en_ ec_; (first | subst ea_ | (injection ea_ with ea_; subst ea_)); subst ec_; clear en_))
              have GB35 := Aside0.mk gb35; have GG35 := Aside0.mk HG35; clear gb35 gl35 HG35; obtain ⟨hx35_0, hf35_0⟩ := Kd.R_celln 0 HO_6.out (x8_1 : Int) p35 q35; replace p35 := eq_true p35; replace q35 := eq_true q35; have HP39 := Kd.R_putg HO_6.out (x8_1 : Int) x10_2
              go_wp2_with (first | ((with_reducible refine gate_store (t := 3) (p := 53) rfl ?_); refine store_event (t := 3) (p := 53) (v := ?vo_w40) (w1 := (wr.setCell ⟨go35, (x8_1 : Int).toNat, none⟩ (.int .i64 x10_2))) ?hg ?ho ?hn ?hr ?_; (case ho => rfl); (case hg => rfl); (case hn => rfl); (case hr => first | (go_simp; done) | (go_simp; rfl)); intro w40 hw; have hg : wr.grownBy w40 (some go35) := (by rw [hw]; exact HP39.2); have hp_ : Kd.R (Kd.int .i64) 3 w40 w.heap.size (fun k_ => some k_ ≠ (v422 : Value).ownBlock) (.slice (some ⟨go35, 0, none⟩) x6_1.length co35) y424 := (by rw [hw, Ny424.out]; exact HP39.1); clear HP39; replace HO_6 := Aside0.mk (hp_); replace HO_7 := Aside0.mk (Kd.R_after (v := (.slice (some ⟨go35, 0, none⟩) x6_1.length co35)) (v1 := (.slice (some ⟨go35, 0, none⟩) x6_1.length co35)) (ok := (fun _ => True)) (by (with_reducible repeat (first | apply Kd.R_alloc | apply Kd.R_drewN | apply Kd.R_drew)); exact Kd.R_mono HO_7.out (fun _ hk => ⟨trivial, hk⟩)) hg (.inl rfl)); replace HB := Aside0.mk ((by rw [hw]; exact below_set (HB.out) GB35.out : Below w.heap.size w w40)); clear hg hw hp_) | ((with_reducible refine gate_callee (f := 121) rfl ?_); refine zC 57 Try.func121 #[.int .i64 x10_2] ?_; (with_reducible refine (dioramaref02_Of.calls k2 x10_2 t425 _ A36.out).mono ?_); rintro e w41 ⟨v426, rfl, ho0, hb⟩; refine ⟨_, rfl, ?_⟩; have HO427 := Aside0.mk (Kd.R_lower (Kd.R_new' (Kd.R_new' ho0 (Kd.R_lt (rz HO_6))) (Kd.R_lt (rz HO_7))) sz); replace HO_6 := Aside0.mk (Kd.R_elder' (rz HO_6) (Kd.R_base ho0) hb); replace HO_7 := Aside0.mk (Kd.R_elder' (rz HO_7) (Kd.R_base ho0) hb); replace HB := bp hb; clear hb ho0; obtain ⟨Ao42, co42, eo42⟩ := Kd.R_slice HO427.out; subst eo42) | ((with_reducible refine gate_callee (f := 124) rfl ?_); refine zC 58 Try.func124 #[.slice A1 l1.length c1, .slice Ao42 t425.length co42] ?_; (with_reducible refine (dioramaref02_Times.calls k2 _ _ l1 _ _ t425 t428 _ ?side1 ?side2 ?side3 ?side4 A37.out).mono ?_); (case side1 => exact cz HR1); (case side2 => exact HC1.out); (case side3 => exact cr HO427); (case side4 => exact (Kd.R_reads' HO427.out).2.1); rintro e w43 ⟨v429, rfl, ho0, hb⟩; refine ⟨_, rfl, ?_⟩; have HO430 := Aside0.mk (Kd.R_lower (Kd.R_new' (Kd.R_new' (Kd.R_new' ho0 (Kd.R_lt (rz HO_6))) (Kd.R_lt (rz HO_7))) (Kd.R_lt (rz HO427))) sz); replace HO_6 := Aside0.mk (Kd.R_elder' (rz HO_6) (Kd.R_base ho0) hb); replace HO_7 := Aside0.mk (Kd.R_elder' (rz HO_7) (Kd.R_base ho0) hb); replace HO427 := Aside0.mk (Kd.R_elder' (rz HO427) (Kd.R_base ho0) hb); replace HB := bp hb; clear hb ho0; obtain ⟨Ao44, co44, eo44⟩ := Kd.R_slice HO_7.out; subst eo44; obtain ⟨Ao45, co45, eo45⟩ := Kd.R_slice HO430.out; subst eo45) | ((with_reducible refine gate_callee (f := 138) rfl ?_); refine zC 59 Try.func138 #[.slice Ao44 t421.length co44, .slice Ao45 t428.length co45] ?_; (with_reducible refine (dioramaref02_Minus.calls k2 _ _ t421 _ _ t428 t431 _ ?side1 ?side2 ?side3 ?side4 A38.out).mono ?_); (case side1 => exact cr HO_7); (case side2 => exact (Kd.R_reads' HO_7.out).2.1); (case side3 => exact cr HO430); (case side4 => exact (Kd.R_reads' HO430.out).2.1); rintro e w46 ⟨v432, rfl, ho0, hb⟩; refine ⟨_, rfl, ?_⟩; have HO433 := Aside0.mk (Kd.R_lower (Kd.R_new' (Kd.R_new' (Kd.R_new' (Kd.R_new' ho0 (Kd.R_lt (rz HO_6))) (Kd.R_lt (rz HO_7))) (Kd.R_lt (rz HO427))) (Kd.R_lt (rz HO430))) sz); replace HO_6 := Aside0.mk (Kd.R_elder' (rz HO_6) (Kd.R_base ho0) hb); replace HO_7 := Aside0.mk (Kd.R_elder' (rz HO_7) (Kd.R_base ho0) hb); replace HO427 := Aside0.mk (Kd.R_elder' (rz HO427) (Kd.R_base ho0) hb); replace HO430 := Aside0.mk (Kd.R_elder' (rz HO430) (Kd.R_base ho0) hb); replace HB := bp hb; clear hb ho0))
              go_roundg k2
              case measure => have := HK1.out; have := HK2.out; omega
              case rel => exact ⟨(y424), (t431), (wrap64 (x8_1 - 1)), jz, H', ⟨by have := HK1.out; have := HK2.out; omega⟩, ⟨by (with_reducible repeat (first | apply Kd.R_alloc | apply Kd.R_drewN | apply Kd.R_drew)); exact Kd.R_mono HO_6.out (fun _ hk => hk.2)⟩, ⟨by (with_reducible repeat (first | apply Kd.R_alloc | apply Kd.R_drewN | apply Kd.R_drew)); exact Kd.R_mono HO433.out (fun _ hk => hk.1.1.1.2)⟩, ⟨bz⟩⟩
             ·rw [if_neg c34] at H
              exact absurd H (by simp)
            ·rw [if_neg c33] at H
             exact absurd H (by simp)
        ·rw [if_neg c10] at H
         exact absurd H (by simp)
       ·rw [if_neg c9] at H
        exact absurd H (by simp)
      ·rw [if_neg c8] at H
       exact absurd H (by simp)
     ·rw [if_neg c7] at H; have c7b0 : decide (0 ≤ x8_1) = false := decide_eq_false c7; clear c7; obtain ⟨t411, A47, H⟩ := ob H; simp only [Option.some.injEq, Prod.mk.injEq] at H; obtain ⟨rfl, rfl⟩ := H; obtain ⟨Ao48, co48, eo48⟩ := Kd.R_slice HO_6.out; subst eo48
      go_wp2_with (first | ((with_reducible refine gate_callee (f := 154) rfl ?_); refine zC 61 Try.func154 #[.slice Ao48 x6_1.length co48] ?_; (with_reducible refine (dioramaref02_trimmed.calls k1 (fun k_ => some k_ = (.slice Ao48 x6_1.length co48 : Value).ownBlock) (.slice Ao48 x6_1.length co48) x6_1 t411 w _ ?side1 ?side2 A47.out).mono ?_); (case side1 => repeat (first | (with_reducible first | exact HB.out | apply below_alloc | apply pw_below_drewN | apply below_drew1) | exact HB.out)); (case side2 => exact Kd.R_tight rfl HO_6.out); rintro e w49 ⟨v412, rfl, ho0, hb, hkp⟩; refine ⟨_, rfl, ?_⟩; have HO413 := Aside0.mk (Kd.R_mono (ok' := fun k_ => some k_ ≠ (u7 : Value).ownBlock) ho0 (fun k_ hk_ => Or.elim hk_ (fun hs_ => fun e_ => (((HO_7.out).1 k_ e_.symm)) hs_) (fun hn_ => (Kd.fresh' (Kd.R_lt (rz HO_7)) k_ hn_)))); replace HO_7 := Aside0.mk (Kd.R_mono (ok' := fun k_ => some k_ ≠ (v412 : Value).ownBlock) (Kd.R_keptB (HO_7.out) hkp (fun k_ hk_ hs_ => (hk_) hs_)) (fun k_ hk_ => fun e_ => Or.elim (ho0.1 k_ e_.symm) (fun hs_ => hk_.2.1 hs_) (fun hn_ => Nat.not_le.2 hk_.2.2 hn_))); replace HB := Aside0.mk (hb); clear HO_6; clear hb hkp ho0))
      go_ret2
      exact ⟨_, _, ez, by (with_reducible repeat (first | apply Kd.R_alloc | apply Kd.R_drewN | apply Kd.R_drew)); exact HO413.out, by (with_reducible repeat (first | apply Kd.R_alloc | apply Kd.R_drewN | apply Kd.R_drew)); exact HO_7.out, bz⟩
  ·rw [if_neg c4] at H
   exact absurd H (by simp)
 ·rw [if_neg c3] at H
  exact absurd H (by simp)
end Go.Proofs.Ytpbhepdgamoiaaa.E
namespace Go.Proofs.Ytpbhepdgamoiaaa.E
open Go.Proofs.Ytpbhepdgamoiaaa.Z Go.RowKit Go.Proofs.YtpbhepdgamoiaaaW.PrintWords Go.Proofs.YtpbhepdgamoiaaaW.PrintLast Go.Proofs.YtpbhepdgamoiaaaW.PrintMore
attribute [local go_sem] max2_int min2_int max_two min_two max_three min_three max_four min_four
set_option linter.unusedVariables false
set_option linter.unusedSimpArgs false
attribute [local go_sem high] eqA77
end Go.Proofs.Ytpbhepdgamoiaaa.E
namespace Go.Proofs.Ytpbhepdgamoiaaa.E
open Go.Proofs.Ytpbhepdgamoiaaa.Z Go.RowKit Go.Proofs.YtpbhepdgamoiaaaW.PrintWords Go.Proofs.YtpbhepdgamoiaaaW.PrintLast Go.Proofs.YtpbhepdgamoiaaaW.PrintMore
attribute [local go_sem] max2_int min2_int max_two min_two max_three min_three max_four min_four
set_option linter.unusedVariables false
set_option linter.unusedSimpArgs false
end Go.Proofs.Ytpbhepdgamoiaaa.E
namespace Go.Proofs.Ytpbhepdgamoiaaa.E
open Go.Proofs.Ytpbhepdgamoiaaa.Z Go.RowKit Go.Proofs.YtpbhepdgamoiaaaW.PrintWords Go.Proofs.YtpbhepdgamoiaaaW.PrintLast Go.Proofs.YtpbhepdgamoiaaaW.PrintMore
attribute [local go_sem] max2_int min2_int max_two min_two max_three min_three max_four min_four
set_option linter.unusedVariables false
set_option linter.unusedSimpArgs false
attribute [local go_sem high] eqA37
end Go.Proofs.Ytpbhepdgamoiaaa.E
namespace Go.Proofs.Ytpbhepdgamoiaaa.E
open Go.Proofs.Ytpbhepdgamoiaaa.Z Go.RowKit Go.Proofs.YtpbhepdgamoiaaaW.PrintWords Go.Proofs.YtpbhepdgamoiaaaW.PrintLast Go.Proofs.YtpbhepdgamoiaaaW.PrintMore
attribute [local go_sem] max2_int min2_int max_two min_two max_three min_three max_four min_four
set_option linter.unusedVariables false
set_option linter.unusedSimpArgs false
def edit_isTick.f (a0 : Int) : Option (Bool) := if a0 ≥ 0 then (some (decide (a0 ≤ 1099511627776))) else (some false)
set_option maxHeartbeats 8000000 in
set_option maxRecDepth 100000 in
theorem edit_isTick.calls (a0 : Int) (r : Bool) (w : World) (h : edit_isTick.f a0 = some r) :
  Calls Try.prog 92 #[.int .i64 a0] w fun e w' => e = .returned (.bool r) ∧ Drawn0 w w' := by
 have H : (if a0 ≥ 0 then (some (decide (a0 ≤ 1099511627776))) else (some false)) = some r := h; clear h
 by_cases c2 : a0 ≥ 0
 ·rw [if_pos c2] at H; have c2b0 : decide (0 ≤ a0) = true := decide_eq_true c2; clear c2; obtain rfl := Option.some.inj H
  go_enter Try.func92, Try.ntmps92
  go_wp2
  go_ret
  exact ⟨by first | rfl | (simp; done) | (simp [*]; done), by repeat (first | exact Drawn0.refl _ | apply Drawn0.step)⟩
 ·rw [if_neg c2] at H; have c2b0 : decide (0 ≤ a0) = false := decide_eq_false c2; clear c2; obtain rfl := Option.some.inj H
  go_enter Try.func92, Try.ntmps92
  go_wp2
  go_ret
  exact ⟨by first | rfl | (simp; done) | (simp [*]; done), by repeat (first | exact Drawn0.refl _ | apply Drawn0.step)⟩
end Go.Proofs.Ytpbhepdgamoiaaa.E
namespace Go.Proofs.Ytpbhepdgamoiaaa.E
open Go.Proofs.Ytpbhepdgamoiaaa.Z Go.RowKit Go.Proofs.YtpbhepdgamoiaaaW.PrintWords Go.Proofs.YtpbhepdgamoiaaaW.PrintLast Go.Proofs.YtpbhepdgamoiaaaW.PrintMore
attribute [local go_sem] max2_int min2_int max_two min_two max_three min_three max_four min_four
set_option linter.unusedVariables false
set_option linter.unusedSimpArgs false
attribute [local go_sem high] eqA77
end Go.Proofs.Ytpbhepdgamoiaaa.E
namespace Go.Proofs.Ytpbhepdgamoiaaa.E
open Go.Proofs.Ytpbhepdgamoiaaa.Z Go.RowKit Go.Proofs.YtpbhepdgamoiaaaW.PrintWords Go.Proofs.YtpbhepdgamoiaaaW.PrintLast Go.Proofs.YtpbhepdgamoiaaaW.PrintMore
attribute [local go_sem] max2_int min2_int max_two min_two max_three min_three max_four min_four
set_option linter.unusedVariables false
set_option linter.unusedSimpArgs false
def model_within.f (a0 : Int) (a1 : Int) (a2 : Int) : Option (Bool) := if a0 ≥ a1 then (some (decide (a0 ≤ a2))) else (some false)
set_option maxHeartbeats 8000000 in
set_option maxRecDepth 100000 in
theorem model_within.calls (a0 : Int) (a1 : Int) (a2 : Int) (r : Bool) (w : World) (h : model_within.f a0 a1 a2 = some r) :
  Calls Try.prog 141 #[.int .i64 a0, .int .i64 a1, .int .i64 a2] w fun e w' => e = .returned (.bool r) ∧ Drawn0 w w' := by
 have H : (if a0 ≥ a1 then (some (decide (a0 ≤ a2))) else (some false)) = some r := h; clear h
 by_cases c4 : a0 ≥ a1
 ·rw [if_pos c4] at H; have c4b0 : decide (a1 ≤ a0) = true := decide_eq_true c4; clear c4; obtain rfl := Option.some.inj H
  go_enter Try.func141, Try.ntmps141
  go_wp2
  go_ret
  exact ⟨by first | rfl | (simp; done) | (simp [*]; done), by repeat (first | exact Drawn0.refl _ | apply Drawn0.step)⟩
 ·rw [if_neg c4] at H; have c4b0 : decide (a1 ≤ a0) = false := decide_eq_false c4; clear c4; obtain rfl := Option.some.inj H
  go_enter Try.func141, Try.ntmps141
  go_wp2
  go_ret
  exact ⟨by first | rfl | (simp; done) | (simp [*]; done), by repeat (first | exact Drawn0.refl _ | apply Drawn0.step)⟩
def model_letters.l0 : Nat → ByteArray → Int → Bool → Int → Int → Option (Bool)
  | 0, _, _, _, _, _ => none
  | k + 1, x0, x1, x2, x11, x12 => if x12 < x11 then (if 0 ≤ x12 then (if x12 < (x0.size : Int) then (if (bt x0 x12) ≥ 97 then (if (bt x0 x12) ≥ 48 then (if ((bt x0 x12) ≤ 122) then (model_letters.l0 k x0 x1 x2 x11 (wrap64 (x12 + 1))) else (if (bt x0 x12) ≤ 57 then (if x2 = true then (model_letters.l0 k x0 x1 x2 x11 (wrap64 (x12 + 1))) else (some false)) else (some false))) else (if ((bt x0 x12) ≤ 122) then (model_letters.l0 k x0 x1 x2 x11 (wrap64 (x12 + 1))) else (some false))) else (if (bt x0 x12) ≥ 48 then (if (bt x0 x12) ≤ 57 then (if x2 = true then (model_letters.l0 k x0 x1 x2 x11 (wrap64 (x12 + 1))) else (some false)) else (some false)) else (some false))) else (none)) else (none)) else (some ((x0.size : Int) == x1))
def model_letters.f (k : Nat) (a0 : ByteArray) (a1 : Int) (a2 : Bool) : Option (Bool) := model_letters.l0 k a0 a1 a2 (a0.size : Int) 0
set_option maxHeartbeats 8000000 in
set_option maxRecDepth 100000 in
theorem model_letters.calls (k : Nat) (a0 : ByteArray) (a1 : Int) (a2 : Bool) (r : Bool) (w : World) (h : model_letters.f k a0 a1 a2 = some r) :
  Calls Try.prog 142 #[.string a0, .int .i64 a1, .bool a2] w fun e w' => e = .returned (.bool r) ∧ Drawn0 w w' := by
 have H : (model_letters.l0 k a0 a1 a2 (a0.size : Int) 0) = some r := h; clear h; have H' := Aside0.mk H; clear H
 go_enter Try.func142, Try.ntmps142
 go_wp2
 go_loopg [12] k (fun kq v12 w' => ∃ (x12_1 : Int), v12 = .int .i64 x12_1 ∧ Aside0 (model_letters.l0 kq a0 a1 a2 (a0.size : Int) x12_1 = some r) ∧ Aside0 (kq ≤ k) ∧ Drawn0 w w')
 case atStart => exact ⟨(0), jz, H', ⟨Nat.le_refl _⟩, by repeat (first | exact Drawn0.refl _ | apply Drawn0.step)⟩
 case round =>
  clear H'
  try clear c1
  try clear p2
  obtain ⟨x12_1, rfl, HA, HK1, ⟨m1, rfl⟩⟩ := hrel
  cases gk with
  | zero => exact absurd HA.out (by simp [model_letters.l0])
  | succ k1 =>
   have H := HA.out; clear HA; simp only [model_letters.l0] at H
   by_cases c4 : x12_1 < (a0.size : Int)
   ·rw [if_pos c4] at H; have c4b0 : decide (x12_1 < (a0.size : Int)) = true := decide_eq_true c4; clear c4
    by_cases c5 : 0 ≤ x12_1
    ·rw [if_pos c5] at H; have c5b0 : decide (0 ≤ x12_1) = true := decide_eq_true c5; clear c5
     by_cases c6 : x12_1 < (a0.size : Int)
     ·rw [if_pos c6] at H; have c6b0 : decide (x12_1 < (a0.size : Int)) = true := decide_eq_true c6; clear c6
      by_cases c8 : (bt a0 x12_1) ≥ 97
      ·rw [if_pos c8] at H; have c8b0 : decide (97 ≤ (bt a0 x12_1)) = true := decide_eq_true c8; clear c8
       by_cases c11 : (bt a0 x12_1) ≥ 48
       ·rw [if_pos c11] at H; have c11b0 : decide (48 ≤ (bt a0 x12_1)) = true := decide_eq_true c11; clear c11
        by_cases c13 : ((bt a0 x12_1) ≤ 122)
        ·rw [if_pos c13] at H; have c13b0 : decide ((bt a0 x12_1) ≤ 122) = true := decide_eq_true c13; clear c13; have H' := Aside0.mk H; clear H; have p7 : 0 ≤ (x12_1 : Int) := od; have q7 : x12_1 < (a0.size : Int) := od; have hx7 := bt_at a0 x12_1; replace p7 := eq_true p7; replace q7 := eq_true q7; have p9 : 0 ≤ (x12_1 : Int) := od; have q9 : x12_1 < (a0.size : Int) := od; have hx9 := bt_at a0 x12_1; replace p9 := eq_true p9; replace q9 := eq_true q9; have p10 : 0 ≤ (x12_1 : Int) := od; have q10 : x12_1 < (a0.size : Int) := od; have hx10 := bt_at a0 x12_1; replace p10 := eq_true p10; replace q10 := eq_true q10; have p12 : 0 ≤ (x12_1 : Int) := od; have q12 : x12_1 < (a0.size : Int) := od; have hx12 := bt_at a0 x12_1; replace p12 := eq_true p12; replace q12 := eq_true q12
         go_wp2
         go_roundg k1
         case measure => have := HK1.out; omega
         case rel => exact ⟨(wrap64 (x12_1 + 1)), jz, H', ⟨by have := HK1.out; omega⟩, by repeat (first | exact Drawn0.refl _ | apply Drawn0.step)⟩
        ·rw [if_neg c13] at H; have c13b0 : decide ((bt a0 x12_1) ≤ 122) = false := decide_eq_false c13; clear c13
         by_cases c14 : (bt a0 x12_1) ≤ 57
         ·rw [if_pos c14] at H; have c14b0 : decide ((bt a0 x12_1) ≤ 57) = true := decide_eq_true c14; clear c14
          by_cases c15 : a2 = true
          ·subst c15; rw [if_pos rfl] at H; have H' := Aside0.mk H; clear H; have p7 : 0 ≤ (x12_1 : Int) := od; have q7 : x12_1 < (a0.size : Int) := od; have hx7 := bt_at a0 x12_1; replace p7 := eq_true p7; replace q7 := eq_true q7; have p9 : 0 ≤ (x12_1 : Int) := od; have q9 : x12_1 < (a0.size : Int) := od; have hx9 := bt_at a0 x12_1; replace p9 := eq_true p9; replace q9 := eq_true q9; have p10 : 0 ≤ (x12_1 : Int) := od; have q10 : x12_1 < (a0.size : Int) := od; have hx10 := bt_at a0 x12_1; replace p10 := eq_true p10; replace q10 := eq_true q10; have p12 : 0 ≤ (x12_1 : Int) := od; have q12 : x12_1 < (a0.size : Int) := od; have hx12 := bt_at a0 x12_1; replace p12 := eq_true p12; replace q12 := eq_true q12
           go_wp2
           go_roundg k1
           case measure => have := HK1.out; omega
           case rel => exact ⟨(wrap64 (x12_1 + 1)), jz, H', ⟨by have := HK1.out; omega⟩, by repeat (first | exact Drawn0.refl _ | apply Drawn0.step)⟩
          ·obtain rfl := bf c15; rw [if_neg (show ¬ (false = true) by decide)] at H; obtain rfl := Option.some.inj H; have p7 : 0 ≤ (x12_1 : Int) := od; have q7 : x12_1 < (a0.size : Int) := od; have hx7 := bt_at a0 x12_1; replace p7 := eq_true p7; replace q7 := eq_true q7; have p9 : 0 ≤ (x12_1 : Int) := od; have q9 : x12_1 < (a0.size : Int) := od; have hx9 := bt_at a0 x12_1; replace p9 := eq_true p9; replace q9 := eq_true q9; have p10 : 0 ≤ (x12_1 : Int) := od; have q10 : x12_1 < (a0.size : Int) := od; have hx10 := bt_at a0 x12_1; replace p10 := eq_true p10; replace q10 := eq_true q10; have p12 : 0 ≤ (x12_1 : Int) := od; have q12 : x12_1 < (a0.size : Int) := od; have hx12 := bt_at a0 x12_1; replace p12 := eq_true p12; replace q12 := eq_true q12
           go_wp2
           go_ret
           exact ⟨by first | rfl | (simp; done) | (simp [*]; done), by repeat (first | exact Drawn0.refl _ | apply Drawn0.step)⟩
         ·rw [if_neg c14] at H; have c14b0 : decide ((bt a0 x12_1) ≤ 57) = false := decide_eq_false c14; clear c14; obtain rfl := Option.some.inj H; have p7 : 0 ≤ (x12_1 : Int) := od; have q7 : x12_1 < (a0.size : Int) := od; have hx7 := bt_at a0 x12_1; replace p7 := eq_true p7; replace q7 := eq_true q7; have p9 : 0 ≤ (x12_1 : Int) := od; have q9 : x12_1 < (a0.size : Int) := od; have hx9 := bt_at a0 x12_1; replace p9 := eq_true p9; replace q9 := eq_true q9; have p10 : 0 ≤ (x12_1 : Int) := od; have q10 : x12_1 < (a0.size : Int) := od; have hx10 := bt_at a0 x12_1; replace p10 := eq_true p10; replace q10 := eq_true q10; have p12 : 0 ≤ (x12_1 : Int) := od; have q12 : x12_1 < (a0.size : Int) := od; have hx12 := bt_at a0 x12_1; replace p12 := eq_true p12; replace q12 := eq_true q12
          go_wp2
          go_ret
          exact ⟨by first | rfl | (simp; done) | (simp [*]; done), by repeat (first | exact Drawn0.refl _ | apply Drawn0.step)⟩
       ·rw [if_neg c11] at H; have c11b0 : decide (48 ≤ (bt a0 x12_1)) = false := decide_eq_false c11; clear c11
        by_cases c16 : ((bt a0 x12_1) ≤ 122)
        ·rw [if_pos c16] at H; have c16b0 : decide ((bt a0 x12_1) ≤ 122) = true := decide_eq_true c16; clear c16; have H' := Aside0.mk H; clear H; have p7 : 0 ≤ (x12_1 : Int) := od; have q7 : x12_1 < (a0.size : Int) := od; have hx7 := bt_at a0 x12_1; replace p7 := eq_true p7; replace q7 := eq_true q7; have p9 : 0 ≤ (x12_1 : Int) := od; have q9 : x12_1 < (a0.size : Int) := od; have hx9 := bt_at a0 x12_1; replace p9 := eq_true p9; replace q9 := eq_true q9; have p10 : 0 ≤ (x12_1 : Int) := od; have q10 : x12_1 < (a0.size : Int) := od; have hx10 := bt_at a0 x12_1; replace p10 := eq_true p10; replace q10 := eq_true q10
         go_wp2
         go_roundg k1
         case measure => have := HK1.out; omega
         case rel => exact ⟨(wrap64 (x12_1 + 1)), jz, H', ⟨by have := HK1.out; omega⟩, by repeat (first | exact Drawn0.refl _ | apply Drawn0.step)⟩
        ·rw [if_neg c16] at H; have c16b0 : decide ((bt a0 x12_1) ≤ 122) = false := decide_eq_false c16; clear c16; obtain rfl := Option.some.inj H; have p7 : 0 ≤ (x12_1 : Int) := od; have q7 : x12_1 < (a0.size : Int) := od; have hx7 := bt_at a0 x12_1; replace p7 := eq_true p7; replace q7 := eq_true q7; have p9 : 0 ≤ (x12_1 : Int) := od; have q9 : x12_1 < (a0.size : Int) := od; have hx9 := bt_at a0 x12_1; replace p9 := eq_true p9; replace q9 := eq_true q9; have p10 : 0 ≤ (x12_1 : Int) := od; have q10 : x12_1 < (a0.size : Int) := od; have hx10 := bt_at a0 x12_1; replace p10 := eq_true p10; replace q10 := eq_true q10
         go_wp2
         go_ret
         exact ⟨by first | rfl | (simp; done) | (simp [*]; done), by repeat (first | exact Drawn0.refl _ | apply Drawn0.step)⟩
      ·rw [if_neg c8] at H; have c8b0 : decide (97 ≤ (bt a0 x12_1)) = false := decide_eq_false c8; clear c8
       by_cases c18 : (bt a0 x12_1) ≥ 48
       ·rw [if_pos c18] at H; have c18b0 : decide (48 ≤ (bt a0 x12_1)) = true := decide_eq_true c18; clear c18
        by_cases c20 : (bt a0 x12_1) ≤ 57
        ·rw [if_pos c20] at H; have c20b0 : decide ((bt a0 x12_1) ≤ 57) = true := decide_eq_true c20; clear c20
         by_cases c21 : a2 = true
         ·subst c21; rw [if_pos rfl] at H; have H' := Aside0.mk H; clear H; have p7 : 0 ≤ (x12_1 : Int) := od; have q7 : x12_1 < (a0.size : Int) := od; have hx7 := bt_at a0 x12_1; replace p7 := eq_true p7; replace q7 := eq_true q7; have p17 : 0 ≤ (x12_1 : Int) := od; have q17 : x12_1 < (a0.size : Int) := od; have hx17 := bt_at a0 x12_1; replace p17 := eq_true p17; replace q17 := eq_true q17; have p19 : 0 ≤ (x12_1 : Int) := od; have q19 : x12_1 < (a0.size : Int) := od; have hx19 := bt_at a0 x12_1; replace p19 := eq_true p19; replace q19 := eq_true q19
          go_wp2
          go_roundg k1
          case measure => have := HK1.out; omega
          case rel => exact ⟨(wrap64 (x12_1 + 1)), jz, H', ⟨by have := HK1.out; omega⟩, by repeat (first | exact Drawn0.refl _ | apply Drawn0.step)⟩
         ·obtain rfl := bf c21; rw [if_neg (show ¬ (false = true) by decide)] at H; obtain rfl := Option.some.inj H; have p7 : 0 ≤ (x12_1 : Int) := od; have q7 : x12_1 < (a0.size : Int) := od; have hx7 := bt_at a0 x12_1; replace p7 := eq_true p7; replace q7 := eq_true q7; have p17 : 0 ≤ (x12_1 : Int) := od; have q17 : x12_1 < (a0.size : Int) := od; have hx17 := bt_at a0 x12_1; replace p17 := eq_true p17; replace q17 := eq_true q17; have p19 : 0 ≤ (x12_1 : Int) := od; have q19 : x12_1 < (a0.size : Int) := od; have hx19 := bt_at a0 x12_1; replace p19 := eq_true p19; replace q19 := eq_true q19
          go_wp2
          go_ret
          exact ⟨by first | rfl | (simp; done) | (simp [*]; done), by repeat (first | exact Drawn0.refl _ | apply Drawn0.step)⟩
        ·rw [if_neg c20] at H; have c20b0 : decide ((bt a0 x12_1) ≤ 57) = false := decide_eq_false c20; clear c20; obtain rfl := Option.some.inj H; have p7 : 0 ≤ (x12_1 : Int) := od; have q7 : x12_1 < (a0.size : Int) := od; have hx7 := bt_at a0 x12_1; replace p7 := eq_true p7; replace q7 := eq_true q7; have p17 : 0 ≤ (x12_1 : Int) := od; have q17 : x12_1 < (a0.size : Int) := od; have hx17 := bt_at a0 x12_1; replace p17 := eq_true p17; replace q17 := eq_true q17; have p19 : 0 ≤ (x12_1 : Int) := od; have q19 : x12_1 < (a0.size : Int) := od; have hx19 := bt_at a0 x12_1; replace p19 := eq_true p19; replace q19 := eq_true q19
         go_wp2
         go_ret
         exact ⟨by first | rfl | (simp; done) | (simp [*]; done), by repeat (first | exact Drawn0.refl _ | apply Drawn0.step)⟩
       ·rw [if_neg c18] at H; have c18b0 : decide (48 ≤ (bt a0 x12_1)) = false := decide_eq_false c18; clear c18; obtain rfl := Option.some.inj H; have p7 : 0 ≤ (x12_1 : Int) := od; have q7 : x12_1 < (a0.size : Int) := od; have hx7 := bt_at a0 x12_1; replace p7 := eq_true p7; replace q7 := eq_true q7; have p17 : 0 ≤ (x12_1 : Int) := od; have q17 : x12_1 < (a0.size : Int) := od; have hx17 := bt_at a0 x12_1; replace p17 := eq_true p17; replace q17 := eq_true q17
        go_wp2
        go_ret
        exact ⟨by first | rfl | (simp; done) | (simp [*]; done), by repeat (first | exact Drawn0.refl _ | apply Drawn0.step)⟩
     ·rw [if_neg c6] at H
      exact absurd H (by simp)
    ·rw [if_neg c5] at H
     exact absurd H (by simp)
   ·rw [if_neg c4] at H; have c4b0 : decide (x12_1 < (a0.size : Int)) = false := decide_eq_false c4; clear c4; obtain rfl := Option.some.inj H
    go_wp2
    go_ret
    exact ⟨by first | rfl | (simp; done) | (simp [*]; done), by repeat (first | exact Drawn0.refl _ | apply Drawn0.step)⟩
def model_isName.l0 : Nat → ByteArray → Int → Int → Option (Bool)
  | 0, _, _, _ => none
  | k + 1, x0, x8, x9 => if x9 < x8 then (if 0 ≤ x9 then (if x9 < (x0.size : Int) then (if (bt x0 x9) < 32 then (some false) else (if (bt x0 x9) > 126 then (some false) else (model_isName.l0 k x0 x8 (wrap64 (x9 + 1))))) else (none)) else (none)) else (some true)
def model_isName.f (k : Nat) (a0 : ByteArray) : Option (Bool) := if (a0.size : Int) > 40 then (some false) else (model_isName.l0 k a0 (a0.size : Int) 0)
set_option maxHeartbeats 8000000 in
set_option maxRecDepth 100000 in
theorem model_isName.calls (k : Nat) (a0 : ByteArray) (r : Bool) (w : World) (h : model_isName.f k a0 = some r) :
  Calls Try.prog 143 #[.string a0] w fun e w' => e = .returned (.bool r) ∧ Drawn0 w w' := by
 have H : (if (a0.size : Int) > 40 then (some false) else (model_isName.l0 k a0 (a0.size : Int) 0)) = some r := h; clear h
 by_cases c2 : (a0.size : Int) > 40
 ·rw [if_pos c2] at H; have c2b0 : decide (40 < (a0.size : Int)) = true := decide_eq_true c2; have c2b1 : decide (40 < a0.size) = true := decide_eq_true (by omega); clear c2; obtain rfl := Option.some.inj H
  go_enter Try.func143, Try.ntmps143
  go_wp2
  go_ret
  exact ⟨by first | rfl | (simp; done) | (simp [*]; done), by repeat (first | exact Drawn0.refl _ | apply Drawn0.step)⟩
 ·rw [if_neg c2] at H; have c2b0 : decide (40 < (a0.size : Int)) = false := decide_eq_false c2; have c2b1 : decide (40 < a0.size) = false := decide_eq_false (by omega); clear c2; have H' := Aside0.mk H; clear H
  go_enter Try.func143, Try.ntmps143
  go_wp2
  go_loopg [9] k (fun kq v9 w' => ∃ (x9_1 : Int), v9 = .int .i64 x9_1 ∧ Aside0 (model_isName.l0 kq a0 (a0.size : Int) x9_1 = some r) ∧ Aside0 (kq ≤ k) ∧ Drawn0 w w')
  case atStart => exact ⟨(0), jz, H', ⟨Nat.le_refl _⟩, by repeat (first | exact Drawn0.refl _ | apply Drawn0.step)⟩
  case round =>
   clear H'
   try clear c1
   try clear c2
   try clear c2b0
   try clear c2b1
   try clear p2
   obtain ⟨x9_1, rfl, HA, HK1, ⟨m1, rfl⟩⟩ := hrel
   cases gk with
   | zero => exact absurd HA.out (by simp [model_isName.l0])
   | succ k1 =>
    have H := HA.out; clear HA; simp only [model_isName.l0] at H
    by_cases c3 : x9_1 < (a0.size : Int)
    ·rw [if_pos c3] at H; have c3b0 : decide (x9_1 < (a0.size : Int)) = true := decide_eq_true c3; clear c3
     by_cases c4 : 0 ≤ x9_1
     ·rw [if_pos c4] at H; have c4b0 : decide (0 ≤ x9_1) = true := decide_eq_true c4; clear c4
      by_cases c5 : x9_1 < (a0.size : Int)
      ·rw [if_pos c5] at H; have c5b0 : decide (x9_1 < (a0.size : Int)) = true := decide_eq_true c5; clear c5
       by_cases c7 : (bt a0 x9_1) < 32
       ·rw [if_pos c7] at H; have c7b0 : decide ((bt a0 x9_1) < 32) = true := decide_eq_true c7; clear c7; obtain rfl := Option.some.inj H; have p6 : 0 ≤ (x9_1 : Int) := od; have q6 : x9_1 < (a0.size : Int) := od; have hx6 := bt_at a0 x9_1; replace p6 := eq_true p6; replace q6 := eq_true q6
        go_wp2
        go_ret
        exact ⟨by first | rfl | (simp; done) | (simp [*]; done), by repeat (first | exact Drawn0.refl _ | apply Drawn0.step)⟩
       ·rw [if_neg c7] at H; have c7b0 : decide ((bt a0 x9_1) < 32) = false := decide_eq_false c7; clear c7
        by_cases c9 : (bt a0 x9_1) > 126
        ·rw [if_pos c9] at H; have c9b0 : decide (126 < (bt a0 x9_1)) = true := decide_eq_true c9; clear c9; obtain rfl := Option.some.inj H; have p6 : 0 ≤ (x9_1 : Int) := od; have q6 : x9_1 < (a0.size : Int) := od; have hx6 := bt_at a0 x9_1; replace p6 := eq_true p6; replace q6 := eq_true q6; have p8 : 0 ≤ (x9_1 : Int) := od; have q8 : x9_1 < (a0.size : Int) := od; have hx8 := bt_at a0 x9_1; replace p8 := eq_true p8; replace q8 := eq_true q8
         go_wp2
         go_ret
         exact ⟨by first | rfl | (simp; done) | (simp [*]; done), by repeat (first | exact Drawn0.refl _ | apply Drawn0.step)⟩
        ·rw [if_neg c9] at H; have c9b0 : decide (126 < (bt a0 x9_1)) = false := decide_eq_false c9; clear c9; have H' := Aside0.mk H; clear H; have p6 : 0 ≤ (x9_1 : Int) := od; have q6 : x9_1 < (a0.size : Int) := od; have hx6 := bt_at a0 x9_1; replace p6 := eq_true p6; replace q6 := eq_true q6; have p8 : 0 ≤ (x9_1 : Int) := od; have q8 : x9_1 < (a0.size : Int) := od; have hx8 := bt_at a0 x9_1; replace p8 := eq_true p8; replace q8 := eq_true q8
         go_wp2
         go_roundg k1
         case measure => have := HK1.out; omega
         case rel => exact ⟨(wrap64 (x9_1 + 1)), jz, H', ⟨by have := HK1.out; omega⟩, by repeat (first | exact Drawn0.refl _ | apply Drawn0.step)⟩
      ·rw [if_neg c5] at H
       exact absurd H (by simp)
     ·rw [if_neg c4] at H
      exact absurd H (by simp)
    ·rw [if_neg c3] at H; have c3b0 : decide (x9_1 < (a0.size : Int)) = false := decide_eq_false c3; clear c3; obtain rfl := Option.some.inj H
     go_wp2
     go_ret
     exact ⟨by first | rfl | (simp; done) | (simp [*]; done), by repeat (first | exact Drawn0.refl _ | apply Drawn0.step)⟩
def model_tick.f (a0 : Int) : Option (Bool) := (model_within.f a0 (-1099511627776) 1099511627776).bind fun t1320 => (some t1320)
set_option maxHeartbeats 8000000 in
set_option maxRecDepth 100000 in
theorem model_tick.calls (a0 : Int) (r : Bool) (w : World) (h : model_tick.f a0 = some r) :
  Calls Try.prog 161 #[.int .i64 a0] w fun e w' => e = .returned (.bool r) ∧ Drawn0 w w' := by
 have H : ((model_within.f a0 (-1099511627776) 1099511627776).bind fun t1320 => (some t1320)) = some r := h
 clear h; obtain ⟨t1320, A2, H⟩ := ob H; obtain rfl := Option.some.inj H
 go_enter Try.func161, Try.ntmps161
 go_wp2_with (first | ((with_reducible refine gate_callee (f := 141) rfl ?_); refine zC 4 Try.func141 #[.int .i64 a0, .int .i64 (-1099511627776), .int .i64 1099511627776] ?_; (with_reducible refine (model_within.calls a0 (-1099511627776) 1099511627776 t1320 _ A2.out).mono ?_); rintro e w' ⟨rfl, ⟨nd, rfl⟩⟩; refine ⟨_, rfl, ?_⟩))
 go_ret
 exact ⟨by first | rfl | (simp; done) | (simp [*]; done), by repeat (first | exact Drawn0.refl _ | apply Drawn0.step)⟩
mutual
def model_checkSample.j3 : Nat → Int → Int → Int → Int → Bool → List Int → List Int → Option (Int)
  | 0, _, _, _, _, _, _, _ => none
  | k + 1, x1, x1323000, x1323001, x1323002, x1323003, x1323004, x1323005 => model_checkSample.l0 k x1 (-1) x1323004 (x1323004.length : Int) 0
def model_checkSample.l0 : Nat → Int → Int → List Int → Int → Int → Option (Int)
  | 0, _, _, _, _, _ => none
  | k + 1, x1, x7, x63, x64, x65 => if x65 < x64 then (if 0 ≤ x65 then (if x65 < (x63.length : Int) then (if (rd x63 x65) ≤ x7 then (some 32) else (if (rd x63 x65) ≥ x1 then (some 32) else (model_checkSample.l0 k x1 (rd x63 x65) x63 x64 (wrap64 (x65 + 1))))) else (none)) else (none)) else (some 0)
def model_checkSample.j0 : Nat → Int → Bool → Int → Int → ByteArray → Int → List Int → ByteArray → ByteArray → Int → List (S77) → List (S150) → List (S120) → Int → Int → Int → Bool → List Int → List Int → Option (Int)
  | 0, _, _, _, _, _, _, _, _, _, _, _, _, _, _, _, _, _, _, _ => none
  | k + 1, x1, x10, x1322000, x1322001, x1322002, x1322003, x1322004, x1322005, x1322006, x1322007, x1322008, x1322009, x1322010, x1323000, x1323001, x1323002, x1323003, x1323004, x1323005 => if x10 = true then (some 1) else (if (x1323005.length : Int) > 65536 then (model_checkSample.j1 k x1 true x1322000 x1322001 x1322002 x1322003 x1322004 x1322005 x1322006 x1322007 x1322008 x1322009 x1322010 x1323000 x1323001 x1323002 x1323003 x1323004 x1323005) else (model_checkSample.j1 k x1 (decide ((x1323004.length : Int) > 4)) x1322000 x1322001 x1322002 x1322003 x1322004 x1322005 x1322006 x1322007 x1322008 x1322009 x1322010 x1323000 x1323001 x1323002 x1323003 x1323004 x1323005))
def model_checkSample.j1 : Nat → Int → Bool → Int → Int → ByteArray → Int → List Int → ByteArray → ByteArray → Int → List (S77) → List (S150) → List (S120) → Int → Int → Int → Bool → List Int → List Int → Option (Int)
  | 0, _, _, _, _, _, _, _, _, _, _, _, _, _, _, _, _, _, _, _ => none
  | k + 1, x1, x27, x1322000, x1322001, x1322002, x1322003, x1322004, x1322005, x1322006, x1322007, x1322008, x1322009, x1322010, x1323000, x1323001, x1323002, x1323003, x1323004, x1323005 => if x27 = true then (some 2) else (if x1 > 0 then (if 0 ≤ (wrap64 (x1 - 1)) then (if (wrap64 (x1 - 1)) < (x1322010.length : Int) then (model_checkSample.j2 k x1 (decide (x1323000 ≤ ((rd_T120 x1322010 (wrap64 (x1 - 1))).f0))) x1323000 x1323001 x1323002 x1323003 x1323004 x1323005) else (none)) else (none)) else (model_checkSample.j2 k x1 false x1323000 x1323001 x1323002 x1323003 x1323004 x1323005))
def model_checkSample.j2 : Nat → Int → Bool → Int → Int → Int → Bool → List Int → List Int → Option (Int)
  | 0, _, _, _, _, _, _, _, _ => none
  | k + 1, x1, x38, x1323000, x1323001, x1323002, x1323003, x1323004, x1323005 => if x38 = true then (some 31) else (if x1323003 = true then (if (x1323004.length : Int) > 0 then (some 32) else (model_checkSample.j3 k x1 x1323000 x1323001 x1323002 x1323003 x1323004 x1323005)) else (model_checkSample.j3 k x1 x1323000 x1323001 x1323002 x1323003 x1323004 x1323005))
end
def model_checkSample.f (k : Nat) (a0_0 : Int) (a0_1 : Int) (a0_2 : ByteArray) (a0_3 : Int) (l0_4 : List Int) (a0_5 : ByteArray) (a0_6 : ByteArray) (a0_7 : Int) (l0_8 : List (S77)) (l0_9 : List (S150)) (l0_10 : List (S120)) (a1 : Int) (a2_0 : Int) (a2_1 : Int) (a2_2 : Int) (a2_3 : Bool) (l2_4 : List Int) (l2_5 : List Int) : Option (Int) := (model_tick.f a2_0).bind fun t1323 => (if t1323 = true then ((model_tick.f a2_1).bind fun t1324 => (if t1324 = true then ((model_within.f a2_2 0 1099511627776).bind fun t1325 => (model_checkSample.j0 k a1 (!t1325) a0_0 a0_1 a0_2 a0_3 l0_4 a0_5 a0_6 a0_7 l0_8 l0_9 l0_10 a2_0 a2_1 a2_2 a2_3 l2_4 l2_5)) else (model_checkSample.j0 k a1 true a0_0 a0_1 a0_2 a0_3 l0_4 a0_5 a0_6 a0_7 l0_8 l0_9 l0_10 a2_0 a2_1 a2_2 a2_3 l2_4 l2_5))) else (model_checkSample.j0 k a1 true a0_0 a0_1 a0_2 a0_3 l0_4 a0_5 a0_6 a0_7 l0_8 l0_9 l0_10 a2_0 a2_1 a2_2 a2_3 l2_4 l2_5))
set_option maxHeartbeats 8000000 in
set_option maxRecDepth 100000 in
theorem model_checkSample.calls (k : Nat) (a0_0 : Int) (a0_1 : Int) (a0_2 : ByteArray) (a0_3 : Int) (A0_4 : Option Addr) (c0_4 : Nat) (l0_4 : List Int) (a0_5 : ByteArray) (a0_6 : ByteArray) (a0_7 : Int) (A0_8 : Option Addr) (c0_8 : Nat) (l0_8 : List (S77)) (A0_9 : Option Addr) (c0_9 : Nat) (l0_9 : List (S150)) (A0_10 : Option Addr) (c0_10 : Nat) (l0_10 : List (S120)) (a1 : Int) (a2_0 : Int) (a2_1 : Int) (a2_2 : Int) (a2_3 : Bool) (A2_4 : Option Addr) (c2_4 : Nat) (l2_4 : List Int) (A2_5 : Option Addr) (c2_5 : Nat) (l2_5 : List Int) (r : Int) (w : World) (hr0_4 : Kd.C (Kd.int .u8) w A0_4 l0_4.length l0_4) (hc0_4 : l0_4.length ≤ c0_4) (hr0_8 : Kd.C k77 w A0_8 l0_8.length l0_8) (hc0_8 : l0_8.length ≤ c0_8) (hr0_9 : Kd.C k150 w A0_9 l0_9.length l0_9) (hc0_9 : l0_9.length ≤ c0_9) (hr0_10 : Kd.C k120 w A0_10 l0_10.length l0_10) (hc0_10 : l0_10.length ≤ c0_10) (hr2_4 : Kd.C (Kd.int .i64) w A2_4 l2_4.length l2_4) (hc2_4 : l2_4.length ≤ c2_4) (hr2_5 : Kd.C (Kd.int .u8) w A2_5 l2_5.length l2_5) (hc2_5 : l2_5.length ≤ c2_5) (h : model_checkSample.f k a0_0 a0_1 a0_2 a0_3 l0_4 a0_5 a0_6 a0_7 l0_8 l0_9 l0_10 a1 a2_0 a2_1 a2_2 a2_3 l2_4 l2_5 = some r) :
  Calls Try.prog 144 #[.agg #[.int .i64 a0_0, .int .i64 a0_1, .string a0_2, .int .i64 a0_3, .slice A0_4 l0_4.length c0_4, .string a0_5, .string a0_6, .int .i64 a0_7, .slice A0_8 l0_8.length c0_8, .slice A0_9 l0_9.length c0_9, .slice A0_10 l0_10.length c0_10], .int .i64 a1, .agg #[.int .i64 a2_0, .int .i64 a2_1, .int .i64 a2_2, .bool a2_3, .slice A2_4 l2_4.length c2_4, .slice A2_5 l2_5.length c2_5]] w fun e w' => e = .returned (.int .i64 r) ∧ Below w.heap.size w w' := by
 have hu71 := Try.underlying71; have hu120 := Try.underlying120; have HR0_4 := Aside0.mk hr0_4; have HC0_4 := Aside0.mk hc0_4; clear hr0_4 hc0_4; have HR0_8 := Aside0.mk hr0_8; have HC0_8 := Aside0.mk hc0_8; clear hr0_8 hc0_8; have HR0_9 := Aside0.mk hr0_9; have HC0_9 := Aside0.mk hc0_9; clear hr0_9 hc0_9; have HR0_10 := Aside0.mk hr0_10; have HC0_10 := Aside0.mk hc0_10; clear hr0_10 hc0_10; have HR2_4 := Aside0.mk hr2_4; have HC2_4 := Aside0.mk hc2_4; clear hr2_4 hc2_4; have HR2_5 := Aside0.mk hr2_5; have HC2_5 := Aside0.mk hc2_5; clear hr2_5 hc2_5; have HB := Aside0.mk (Below.refl w.heap.size w); have H : ((model_tick.f a2_0).bind fun t1323 => (if t1323 = true then ((model_tick.f a2_1).bind fun t1324 => (if t1324 = true then ((model_within.f a2_2 0 1099511627776).bind fun t1325 => (model_checkSample.j0 k a1 (!t1325) a0_0 a0_1 a0_2 a0_3 l0_4 a0_5 a0_6 a0_7 l0_8 l0_9 l0_10 a2_0 a2_1 a2_2 a2_3 l2_4 l2_5)) else (model_checkSample.j0 k a1 true a0_0 a0_1 a0_2 a0_3 l0_4 a0_5 a0_6 a0_7 l0_8 l0_9 l0_10 a2_0 a2_1 a2_2 a2_3 l2_4 l2_5))) else (model_checkSample.j0 k a1 true a0_0 a0_1 a0_2 a0_3 l0_4 a0_5 a0_6 a0_7 l0_8 l0_9 l0_10 a2_0 a2_1 a2_2 a2_3 l2_4 l2_5))) = some r := h
 clear h; have HC4 := Aside0.mk H; clear H
 go_enter Try.func144, Try.ntmps144
 go_upto_block 0 with (first | ((with_reducible refine gate_dst (N := 3) rfl ?_); refine zB 3 71 #[.int .i64 a0_0, .int .i64 a0_1, .string a0_2, .int .i64 a0_3, .slice A0_4 l0_4.length c0_4, .string a0_5, .string a0_6, .int .i64 a0_7, .slice A0_8 l0_8.length c0_8, .slice A0_9 l0_9.length c0_9, .slice A0_10 l0_10.length c0_10] ?_; intro gb1321 hg w5 hbox hb; have BK1321 := Aside0.mk hbox; have GW1321 := gz hg; have GE1321 := gz hg; replace HB := bp hb; clear hb hbox hg) | ((with_reducible refine gate_dst (N := 5) rfl ?_); refine zB 5 120 #[.int .i64 a2_0, .int .i64 a2_1, .int .i64 a2_2, .bool a2_3, .slice A2_4 l2_4.length c2_4, .slice A2_5 l2_5.length c2_5] ?_; intro gb1322 hg w6 hbox hb; have BK1322 := Aside0.mk hbox; have GW1322 := gz hg; have GE1322 := gz hg; replace HB := bp hb; have NB1321_1322 := Aside0.mk ((by rw [hg]; exact Nat.ne_of_lt (bl BK1321) : gb1321 ≠ gb1322)); have NB1322_1321 := Aside0.mk ((by rw [hg]; exact Nat.ne_of_gt (bl BK1321) : gb1322 ≠ gb1321)); replace BK1321 := kb BK1321 hb; clear hb hbox hg))
 repeat (go_quiet (first | ((with_reducible refine gate_dst (N := 3) rfl ?_); refine zB 3 71 #[.int .i64 a0_0, .int .i64 a0_1, .string a0_2, .int .i64 a0_3, .slice A0_4 l0_4.length c0_4, .string a0_5, .string a0_6, .int .i64 a0_7, .slice A0_8 l0_8.length c0_8, .slice A0_9 l0_9.length c0_9, .slice A0_10 l0_10.length c0_10] ?_; intro gb1321 hg w5 hbox hb; have BK1321 := Aside0.mk hbox; have GW1321 := gz hg; have GE1321 := gz hg; replace HB := bp hb; clear hb hbox hg) | ((with_reducible refine gate_dst (N := 5) rfl ?_); refine zB 5 120 #[.int .i64 a2_0, .int .i64 a2_1, .int .i64 a2_2, .bool a2_3, .slice A2_4 l2_4.length c2_4, .slice A2_5 l2_5.length c2_5] ?_; intro gb1322 hg w6 hbox hb; have n0_ := kb BK1321 hb; have n1_ := bp hb; have n2_ := Aside0.mk hbox; have n3_ := gz hg; have n4_ := gz hg; have n5_ := Aside0.mk ((by rw [hg]; exact Nat.ne_of_lt (bl BK1321) : gb1321 ≠ gb1322)); have n6_ := Aside0.mk ((by rw [hg]; exact Nat.ne_of_gt (bl BK1321) : gb1322 ≠ gb1321)); clear BK1321; clear HB; have BK1321 := n0_; have HB := n1_; have BK1322 := n2_; have GW1322 := n3_; have GE1322 := n4_; have NB1321_1322 := n5_; have NB1322_1321 := n6_; clear n0_ n1_ n2_ n3_ n4_ n5_ n6_; clear hb hbox hg)); go_upto_block 0 with (first | ((with_reducible refine gate_dst (N := 3) rfl ?_); refine zB 3 71 #[.int .i64 a0_0, .int .i64 a0_1, .string a0_2, .int .i64 a0_3, .slice A0_4 l0_4.length c0_4, .string a0_5, .string a0_6, .int .i64 a0_7, .slice A0_8 l0_8.length c0_8, .slice A0_9 l0_9.length c0_9, .slice A0_10 l0_10.length c0_10] ?_; intro gb1321 hg w5 hbox hb; have BK1321 := Aside0.mk hbox; have GW1321 := gz hg; have GE1321 := gz hg; replace HB := bp hb; clear hb hbox hg) | ((with_reducible refine gate_dst (N := 5) rfl ?_); refine zB 5 120 #[.int .i64 a2_0, .int .i64 a2_1, .int .i64 a2_2, .bool a2_3, .slice A2_4 l2_4.length c2_4, .slice A2_5 l2_5.length c2_5] ?_; intro gb1322 hg w6 hbox hb; have BK1322 := Aside0.mk hbox; have GW1322 := gz hg; have GE1322 := gz hg; replace HB := bp hb; have NB1321_1322 := Aside0.mk ((by rw [hg]; exact Nat.ne_of_lt (bl BK1321) : gb1321 ≠ gb1322)); have NB1322_1321 := Aside0.mk ((by rw [hg]; exact Nat.ne_of_gt (bl BK1321) : gb1322 ≠ gb1321)); replace BK1321 := kb BK1321 hb; clear hb hbox hg)))
 (try simp only [Act.put, List.setIfInBounds_toArray, List.set_cons_zero, List.set_cons_succ])
 go_cut [] (fun wc => ∃ (kq : Nat), Aside0 (model_checkSample.j3 kq a1 a2_0 a2_1 a2_2 a2_3 l2_4 l2_5 = some r) ∧ Aside0 (kq ≤ k) ∧ Aside0 (wc.heap[gb1321]? = some (.cells #[.int .i64 a0_0, .int .i64 a0_1, .string a0_2, .int .i64 a0_3, (.slice A0_4 l0_4.length c0_4), .string a0_5, .string a0_6, .int .i64 a0_7, (.slice A0_8 l0_8.length c0_8), (.slice A0_9 l0_9.length c0_9), (.slice A0_10 l0_10.length c0_10)] 71 (0, 0))) ∧ Aside0 (wc.heap[gb1322]? = some (.cells #[.int .i64 a2_0, .int .i64 a2_1, .int .i64 a2_2, .bool a2_3, (.slice A2_4 l2_4.length c2_4), (.slice A2_5 l2_5.length c2_5)] 120 (0, 0))) ∧ Aside0 (Below w.heap.size w wc))
 case first =>
  have H := HC4.out; clear HC4; have HC7 := Aside0.mk H; clear H
  go_upto_region 1 with (fail)
  repeat (go_quiet (fail); go_upto_region 1 with (fail))
  go_cut [10] (fun v10 wc => ∃ (kq : Nat) (x10_6 : Bool), v10 = .bool x10_6 ∧ Aside0 (model_checkSample.j0 kq a1 x10_6 a0_0 a0_1 a0_2 a0_3 l0_4 a0_5 a0_6 a0_7 l0_8 l0_9 l0_10 a2_0 a2_1 a2_2 a2_3 l2_4 l2_5 = some r) ∧ Aside0 (kq ≤ k) ∧ Aside0 (wc.heap[gb1321]? = some (.cells #[.int .i64 a0_0, .int .i64 a0_1, .string a0_2, .int .i64 a0_3, (.slice A0_4 l0_4.length c0_4), .string a0_5, .string a0_6, .int .i64 a0_7, (.slice A0_8 l0_8.length c0_8), (.slice A0_9 l0_9.length c0_9), (.slice A0_10 l0_10.length c0_10)] 71 (0, 0))) ∧ Aside0 (wc.heap[gb1322]? = some (.cells #[.int .i64 a2_0, .int .i64 a2_1, .int .i64 a2_2, .bool a2_3, (.slice A2_4 l2_4.length c2_4), (.slice A2_5 l2_5.length c2_5)] 120 (0, 0))) ∧ Aside0 (Below w.heap.size w wc))
  case first =>
   have H := HC7.out; clear HC7; obtain ⟨t1323, A8, H⟩ := ob H
   by_cases c9 : t1323 = true
   ·subst c9; rw [if_pos rfl] at H; obtain ⟨t1324, A10, H⟩ := ob H
    by_cases c11 : t1324 = true
    ·subst c11; rw [if_pos rfl] at H; obtain ⟨t1325, A12, H⟩ := ob H; have H' := Aside0.mk H; clear H; have hnb13 := NB1322_1321.out; have hnc13 := NB1321_1322.out; have hcz14_0 : w6.cell? ⟨gb1322, 0, none⟩ = some (.int .i64 a2_0) := ct BK1322 0; have hcz14_1 : w6.cell? ⟨gb1322, 1, none⟩ = some (.int .i64 a2_1) := ct BK1322 1; have hcz14_2 : w6.cell? ⟨gb1322, 2, none⟩ = some (.int .i64 a2_2) := ct BK1322 2; have hcz14_3 : w6.cell? ⟨gb1322, 3, none⟩ = some (.bool a2_3) := ct BK1322 3; have hcz14_4 : w6.cell? ⟨gb1322, 4, none⟩ = some (.slice A2_4 l2_4.length c2_4) := ct BK1322 4; have hcz14_5 : w6.cell? ⟨gb1322, 5, none⟩ = some (.slice A2_5 l2_5.length c2_5) := ct BK1322 5; have hfz14_0 := blk_frozen BK1322.out 0; have hfz14_1 := blk_frozen BK1322.out 1; have hfz14_2 := blk_frozen BK1322.out 2; have hfz14_3 := blk_frozen BK1322.out 3; have hfz14_4 := blk_frozen BK1322.out 4; have hfz14_5 := blk_frozen BK1322.out 5
     go_wp2_with (first | (go_at_call 161; (with_reducible refine (model_tick.calls a2_0 true _ A8.out).mono ?_); rintro e w' ⟨rfl, ⟨nd, rfl⟩⟩; (try first | exact ⟨rfl, _, World.drewN_drewN _ _ _⟩ | exact ⟨rfl, _, Eq.trans (World.drewN_drewN _ _ _) (congrArg (World.drewN _) (Nat.add_assoc _ _ _))⟩)) | (go_at_call 161; (with_reducible refine (model_tick.calls a2_1 true _ A10.out).mono ?_); rintro e w' ⟨rfl, ⟨nd, rfl⟩⟩; (try first | exact ⟨rfl, _, World.drewN_drewN _ _ _⟩ | exact ⟨rfl, _, Eq.trans (World.drewN_drewN _ _ _) (congrArg (World.drewN _) (Nat.add_assoc _ _ _))⟩)) | (go_at_call 141; (with_reducible refine (model_within.calls a2_2 0 1099511627776 t1325 _ A12.out).mono ?_); rintro e w' ⟨rfl, ⟨nd, rfl⟩⟩; (try first | exact ⟨rfl, _, World.drewN_drewN _ _ _⟩ | exact ⟨rfl, _, Eq.trans (World.drewN_drewN _ _ _) (congrArg (World.drewN _) (Nat.add_assoc _ _ _))⟩)))
     repeat (go_quiet (first | (go_at_call 161; (with_reducible refine (model_tick.calls a2_0 true _ A8.out).mono ?_); rintro e w' ⟨rfl, ⟨nd, rfl⟩⟩; (try first | exact ⟨rfl, _, World.drewN_drewN _ _ _⟩ | exact ⟨rfl, _, Eq.trans (World.drewN_drewN _ _ _) (congrArg (World.drewN _) (Nat.add_assoc _ _ _))⟩)) | (go_at_call 161; (with_reducible refine (model_tick.calls a2_1 true _ A10.out).mono ?_); rintro e w' ⟨rfl, ⟨nd, rfl⟩⟩; (try first | exact ⟨rfl, _, World.drewN_drewN _ _ _⟩ | exact ⟨rfl, _, Eq.trans (World.drewN_drewN _ _ _) (congrArg (World.drewN _) (Nat.add_assoc _ _ _))⟩)) | (go_at_call 141; (with_reducible refine (model_within.calls a2_2 0 1099511627776 t1325 _ A12.out).mono ?_); rintro e w' ⟨rfl, ⟨nd, rfl⟩⟩; (try first | exact ⟨rfl, _, World.drewN_drewN _ _ _⟩ | exact ⟨rfl, _, Eq.trans (World.drewN_drewN _ _ _) (congrArg (World.drewN _) (Nat.add_assoc _ _ _))⟩))); try go_wp2_with (first | (go_at_call 161; (with_reducible refine (model_tick.calls a2_0 true _ A8.out).mono ?_); rintro e w' ⟨rfl, ⟨nd, rfl⟩⟩; (try first | exact ⟨rfl, _, World.drewN_drewN _ _ _⟩ | exact ⟨rfl, _, Eq.trans (World.drewN_drewN _ _ _) (congrArg (World.drewN _) (Nat.add_assoc _ _ _))⟩)) | (go_at_call 161; (with_reducible refine (model_tick.calls a2_1 true _ A10.out).mono ?_); rintro e w' ⟨rfl, ⟨nd, rfl⟩⟩; (try first | exact ⟨rfl, _, World.drewN_drewN _ _ _⟩ | exact ⟨rfl, _, Eq.trans (World.drewN_drewN _ _ _) (congrArg (World.drewN _) (Nat.add_assoc _ _ _))⟩)) | (go_at_call 141; (with_reducible refine (model_within.calls a2_2 0 1099511627776 t1325 _ A12.out).mono ?_); rintro e w' ⟨rfl, ⟨nd, rfl⟩⟩; (try first | exact ⟨rfl, _, World.drewN_drewN _ _ _⟩ | exact ⟨rfl, _, Eq.trans (World.drewN_drewN _ _ _) (congrArg (World.drewN _) (Nat.add_assoc _ _ _))⟩))))
     go_meet
     case rel => exact ⟨_, (!t1325), jz, H', ⟨by first | omega | exact Nat.le_refl _⟩, ⟨kz⟩, ⟨kz⟩, ⟨bz⟩⟩
    ·obtain rfl := bf c11; rw [if_neg (show ¬ (false = true) by decide)] at H; have H' := Aside0.mk H; clear H; have hnb15 := NB1322_1321.out; have hnc15 := NB1321_1322.out; have hcz16_0 : w6.cell? ⟨gb1322, 0, none⟩ = some (.int .i64 a2_0) := ct BK1322 0; have hcz16_1 : w6.cell? ⟨gb1322, 1, none⟩ = some (.int .i64 a2_1) := ct BK1322 1; have hcz16_2 : w6.cell? ⟨gb1322, 2, none⟩ = some (.int .i64 a2_2) := ct BK1322 2; have hcz16_3 : w6.cell? ⟨gb1322, 3, none⟩ = some (.bool a2_3) := ct BK1322 3; have hcz16_4 : w6.cell? ⟨gb1322, 4, none⟩ = some (.slice A2_4 l2_4.length c2_4) := ct BK1322 4; have hcz16_5 : w6.cell? ⟨gb1322, 5, none⟩ = some (.slice A2_5 l2_5.length c2_5) := ct BK1322 5; have hfz16_0 := blk_frozen BK1322.out 0; have hfz16_1 := blk_frozen BK1322.out 1; have hfz16_2 := blk_frozen BK1322.out 2; have hfz16_3 := blk_frozen BK1322.out 3; have hfz16_4 := blk_frozen BK1322.out 4; have hfz16_5 := blk_frozen BK1322.out 5
     go_wp2_with (first | (go_at_call 161; (with_reducible refine (model_tick.calls a2_0 true _ A8.out).mono ?_); rintro e w' ⟨rfl, ⟨nd, rfl⟩⟩; (try first | exact ⟨rfl, _, World.drewN_drewN _ _ _⟩ | exact ⟨rfl, _, Eq.trans (World.drewN_drewN _ _ _) (congrArg (World.drewN _) (Nat.add_assoc _ _ _))⟩)) | (go_at_call 161; (with_reducible refine (model_tick.calls a2_1 false _ A10.out).mono ?_); rintro e w' ⟨rfl, ⟨nd, rfl⟩⟩; (try first | exact ⟨rfl, _, World.drewN_drewN _ _ _⟩ | exact ⟨rfl, _, Eq.trans (World.drewN_drewN _ _ _) (congrArg (World.drewN _) (Nat.add_assoc _ _ _))⟩)))
     repeat (go_quiet (first | (go_at_call 161; (with_reducible refine (model_tick.calls a2_0 true _ A8.out).mono ?_); rintro e w' ⟨rfl, ⟨nd, rfl⟩⟩; (try first | exact ⟨rfl, _, World.drewN_drewN _ _ _⟩ | exact ⟨rfl, _, Eq.trans (World.drewN_drewN _ _ _) (congrArg (World.drewN _) (Nat.add_assoc _ _ _))⟩)) | (go_at_call 161; (with_reducible refine (model_tick.calls a2_1 false _ A10.out).mono ?_); rintro e w' ⟨rfl, ⟨nd, rfl⟩⟩; (try first | exact ⟨rfl, _, World.drewN_drewN _ _ _⟩ | exact ⟨rfl, _, Eq.trans (World.drewN_drewN _ _ _) (congrArg (World.drewN _) (Nat.add_assoc _ _ _))⟩))); try go_wp2_with (first | (go_at_call 161; (with_reducible refine (model_tick.calls a2_0 true _ A8.out).mono ?_); rintro e w' ⟨rfl, ⟨nd, rfl⟩⟩; (try first | exact ⟨rfl, _, World.drewN_drewN _ _ _⟩ | exact ⟨rfl, _, Eq.trans (World.drewN_drewN _ _ _) (congrArg (World.drewN _) (Nat.add_assoc _ _ _))⟩)) | (go_at_call 161; (with_reducible refine (model_tick.calls a2_1 false _ A10.out).mono ?_); rintro e w' ⟨rfl, ⟨nd, rfl⟩⟩; (try first | exact ⟨rfl, _, World.drewN_drewN _ _ _⟩ | exact ⟨rfl, _, Eq.trans (World.drewN_drewN _ _ _) (congrArg (World.drewN _) (Nat.add_assoc _ _ _))⟩))))
     go_meet
     case rel => exact ⟨_, (true), jz, H', ⟨by first | omega | exact Nat.le_refl _⟩, ⟨kz⟩, ⟨kz⟩, ⟨bz⟩⟩
   ·obtain rfl := bf c9; rw [if_neg (show ¬ (false = true) by decide)] at H; have H' := Aside0.mk H; clear H; have hnb17 := NB1322_1321.out; have hnc17 := NB1321_1322.out; have hcz18_0 : w6.cell? ⟨gb1322, 0, none⟩ = some (.int .i64 a2_0) := ct BK1322 0; have hcz18_1 : w6.cell? ⟨gb1322, 1, none⟩ = some (.int .i64 a2_1) := ct BK1322 1; have hcz18_2 : w6.cell? ⟨gb1322, 2, none⟩ = some (.int .i64 a2_2) := ct BK1322 2; have hcz18_3 : w6.cell? ⟨gb1322, 3, none⟩ = some (.bool a2_3) := ct BK1322 3; have hcz18_4 : w6.cell? ⟨gb1322, 4, none⟩ = some (.slice A2_4 l2_4.length c2_4) := ct BK1322 4; have hcz18_5 : w6.cell? ⟨gb1322, 5, none⟩ = some (.slice A2_5 l2_5.length c2_5) := ct BK1322 5; have hfz18_0 := blk_frozen BK1322.out 0; have hfz18_1 := blk_frozen BK1322.out 1; have hfz18_2 := blk_frozen BK1322.out 2; have hfz18_3 := blk_frozen BK1322.out 3; have hfz18_4 := blk_frozen BK1322.out 4; have hfz18_5 := blk_frozen BK1322.out 5
    go_wp2_with (first | (go_at_call 161; (with_reducible refine (model_tick.calls a2_0 false _ A8.out).mono ?_); rintro e w' ⟨rfl, ⟨nd, rfl⟩⟩; (try first | exact ⟨rfl, _, World.drewN_drewN _ _ _⟩ | exact ⟨rfl, _, Eq.trans (World.drewN_drewN _ _ _) (congrArg (World.drewN _) (Nat.add_assoc _ _ _))⟩)))
    repeat (go_quiet (first | (go_at_call 161; (with_reducible refine (model_tick.calls a2_0 false _ A8.out).mono ?_); rintro e w' ⟨rfl, ⟨nd, rfl⟩⟩; (try first | exact ⟨rfl, _, World.drewN_drewN _ _ _⟩ | exact ⟨rfl, _, Eq.trans (World.drewN_drewN _ _ _) (congrArg (World.drewN _) (Nat.add_assoc _ _ _))⟩))); try go_wp2_with (first | (go_at_call 161; (with_reducible refine (model_tick.calls a2_0 false _ A8.out).mono ?_); rintro e w' ⟨rfl, ⟨nd, rfl⟩⟩; (try first | exact ⟨rfl, _, World.drewN_drewN _ _ _⟩ | exact ⟨rfl, _, Eq.trans (World.drewN_drewN _ _ _) (congrArg (World.drewN _) (Nat.add_assoc _ _ _))⟩))))
    go_meet
    case rel => exact ⟨_, (true), jz, H', ⟨by first | omega | exact Nat.le_refl _⟩, ⟨kz⟩, ⟨kz⟩, ⟨bz⟩⟩
  case rest =>
   clear HC7
   try clear c1
   try clear c2
   try clear p2
   try clear c9
   try clear c11
   try clear c13
   try clear c14
   try clear c15
   try clear c17
   try clear hcz14_0
   try clear hcz14_1
   try clear hcz14_2
   try clear hcz14_3
   try clear hcz14_4
   try clear hcz14_5
   try clear hcz16_0
   try clear hcz16_1
   try clear hcz16_2
   try clear hcz16_3
   try clear hcz16_4
   try clear hcz16_5
   try clear hcz18_0
   try clear hcz18_1
   try clear hcz18_2
   try clear hcz18_3
   try clear hcz18_4
   try clear hcz18_5
   try clear hfz14_0
   try clear hfz14_1
   try clear hfz14_2
   try clear hfz14_3
   try clear hfz14_4
   try clear hfz14_5
   try clear hfz16_0
   try clear hfz16_1
   try clear hfz16_2
   try clear hfz16_3
   try clear hfz16_4
   try clear hfz16_5
   try clear hfz18_0
   try clear hfz18_1
   try clear hfz18_2
   try clear hfz18_3
   try clear hfz18_4
   try clear hfz18_5
   obtain ⟨kq, x10_6, rfl, HA, HJ6, BK1321, BK1322, HB⟩ := hcut
   cases kq with
   | zero => exact absurd HA.out (by simp [model_checkSample.j0])
   | succ kj6 =>
    have H := HA.out; clear HA; simp only [model_checkSample.j0] at H
    by_cases c19 : x10_6 = true
    ·subst c19; rw [if_pos rfl] at H; obtain rfl := Option.some.inj H
     go_wp2
     repeat (go_quiet (fail); try go_wp2)
     go_ret
     exact ⟨ez, bz⟩
    ·obtain rfl := bf c19; rw [if_neg (show ¬ (false = true) by decide)] at H; have HC20 := Aside0.mk H; clear H
     go_upto_region 3 with (fail)
     repeat (go_quiet (fail); go_upto_region 3 with (fail))
     go_cut [27] (fun v27 wc => ∃ (kq : Nat) (x27_19 : Bool), v27 = .bool x27_19 ∧ Aside0 (model_checkSample.j1 kq a1 x27_19 a0_0 a0_1 a0_2 a0_3 l0_4 a0_5 a0_6 a0_7 l0_8 l0_9 l0_10 a2_0 a2_1 a2_2 a2_3 l2_4 l2_5 = some r) ∧ Aside0 (kq ≤ kj6) ∧ Aside0 (wc.heap[gb1321]? = some (.cells #[.int .i64 a0_0, .int .i64 a0_1, .string a0_2, .int .i64 a0_3, (.slice A0_4 l0_4.length c0_4), .string a0_5, .string a0_6, .int .i64 a0_7, (.slice A0_8 l0_8.length c0_8), (.slice A0_9 l0_9.length c0_9), (.slice A0_10 l0_10.length c0_10)] 71 (0, 0))) ∧ Aside0 (wc.heap[gb1322]? = some (.cells #[.int .i64 a2_0, .int .i64 a2_1, .int .i64 a2_2, .bool a2_3, (.slice A2_4 l2_4.length c2_4), (.slice A2_5 l2_5.length c2_5)] 120 (0, 0))) ∧ Aside0 (Below w.heap.size w wc))
     case first =>
      have H := HC20.out; clear HC20
      by_cases c21 : (l2_5.length : Int) > 65536
      ·rw [if_pos c21] at H; have c21b0 : decide (65536 < (l2_5.length : Int)) = true := decide_eq_true c21; have c21b1 : decide (65536 < l2_5.length) = true := decide_eq_true (by omega); clear c21
       (first | rw [c21b0] | (simp only [i64_w, i32_w]; rw [c21b0]) | skip)
       have H' := Aside0.mk H; clear H; have hnb22 := NB1322_1321.out; have hnc22 := NB1321_1322.out; have hcz23_0 : wc.cell? ⟨gb1322, 0, none⟩ = some (.int .i64 a2_0) := ct BK1322 0; have hcz23_1 : wc.cell? ⟨gb1322, 1, none⟩ = some (.int .i64 a2_1) := ct BK1322 1; have hcz23_2 : wc.cell? ⟨gb1322, 2, none⟩ = some (.int .i64 a2_2) := ct BK1322 2; have hcz23_3 : wc.cell? ⟨gb1322, 3, none⟩ = some (.bool a2_3) := ct BK1322 3; have hcz23_4 : wc.cell? ⟨gb1322, 4, none⟩ = some (.slice A2_4 l2_4.length c2_4) := ct BK1322 4; have hcz23_5 : wc.cell? ⟨gb1322, 5, none⟩ = some (.slice A2_5 l2_5.length c2_5) := ct BK1322 5; have hfz23_0 := blk_frozen BK1322.out 0; have hfz23_1 := blk_frozen BK1322.out 1; have hfz23_2 := blk_frozen BK1322.out 2; have hfz23_3 := blk_frozen BK1322.out 3; have hfz23_4 := blk_frozen BK1322.out 4; have hfz23_5 := blk_frozen BK1322.out 5
       go_wp2
       repeat (go_quiet (fail); try go_wp2)
       go_meet
       case rel => exact ⟨_, (true), jz, H', ⟨by have := HJ6.out; first | omega | exact Nat.le_refl _⟩, ⟨kz⟩, ⟨kz⟩, ⟨bz⟩⟩
      ·rw [if_neg c21] at H; have c21b0 : decide (65536 < (l2_5.length : Int)) = false := decide_eq_false c21; have c21b1 : decide (65536 < l2_5.length) = false := decide_eq_false (by omega); clear c21
       (first | rw [c21b0] | (simp only [i64_w, i32_w]; rw [c21b0]) | skip)
       have H' := Aside0.mk H; clear H; have hnb24 := NB1322_1321.out; have hnc24 := NB1321_1322.out; have hcz25_0 : wc.cell? ⟨gb1322, 0, none⟩ = some (.int .i64 a2_0) := ct BK1322 0; have hcz25_1 : wc.cell? ⟨gb1322, 1, none⟩ = some (.int .i64 a2_1) := ct BK1322 1; have hcz25_2 : wc.cell? ⟨gb1322, 2, none⟩ = some (.int .i64 a2_2) := ct BK1322 2; have hcz25_3 : wc.cell? ⟨gb1322, 3, none⟩ = some (.bool a2_3) := ct BK1322 3; have hcz25_4 : wc.cell? ⟨gb1322, 4, none⟩ = some (.slice A2_4 l2_4.length c2_4) := ct BK1322 4; have hcz25_5 : wc.cell? ⟨gb1322, 5, none⟩ = some (.slice A2_5 l2_5.length c2_5) := ct BK1322 5; have hfz25_0 := blk_frozen BK1322.out 0; have hfz25_1 := blk_frozen BK1322.out 1; have hfz25_2 := blk_frozen BK1322.out 2; have hfz25_3 := blk_frozen BK1322.out 3; have hfz25_4 := blk_frozen BK1322.out 4; have hfz25_5 := blk_frozen BK1322.out 5
       go_wp2
       repeat (go_quiet (fail); try go_wp2)
       go_meet
       case rel => exact ⟨_, (decide ((l2_4.length : Int) > 4)), jz, H', ⟨by have := HJ6.out; first | omega | exact Nat.le_refl _⟩, ⟨kz⟩, ⟨kz⟩, ⟨bz⟩⟩
     case rest =>
      clear HC20
      try clear c1
      try clear c2
      try clear p2
      try clear c9
      try clear c11
      try clear c13
      try clear c14
      try clear c15
      try clear c17
      try clear c19
      try clear c21
      try clear c21b0
      try clear c21b1
      try clear c22
      try clear c24
      try clear hcz14_0
      try clear hcz14_1
      try clear hcz14_2
      try clear hcz14_3
      try clear hcz14_4
      try clear hcz14_5
      try clear hcz16_0
      try clear hcz16_1
      try clear hcz16_2
      try clear hcz16_3
      try clear hcz16_4
      try clear hcz16_5
      try clear hcz18_0
      try clear hcz18_1
      try clear hcz18_2
      try clear hcz18_3
      try clear hcz18_4
      try clear hcz18_5
      try clear hcz23_0
      try clear hcz23_1
      try clear hcz23_2
      try clear hcz23_3
      try clear hcz23_4
      try clear hcz23_5
      try clear hcz25_0
      try clear hcz25_1
      try clear hcz25_2
      try clear hcz25_3
      try clear hcz25_4
      try clear hcz25_5
      try clear hfz14_0
      try clear hfz14_1
      try clear hfz14_2
      try clear hfz14_3
      try clear hfz14_4
      try clear hfz14_5
      try clear hfz16_0
      try clear hfz16_1
      try clear hfz16_2
      try clear hfz16_3
      try clear hfz16_4
      try clear hfz16_5
      try clear hfz18_0
      try clear hfz18_1
      try clear hfz18_2
      try clear hfz18_3
      try clear hfz18_4
      try clear hfz18_5
      try clear hfz23_0
      try clear hfz23_1
      try clear hfz23_2
      try clear hfz23_3
      try clear hfz23_4
      try clear hfz23_5
      try clear hfz25_0
      try clear hfz25_1
      try clear hfz25_2
      try clear hfz25_3
      try clear hfz25_4
      try clear hfz25_5
      try clear p2
      obtain ⟨kq, x27_19, rfl, HA, HJ19, BK1321, BK1322, HB⟩ := hcut
      cases kq with
      | zero => exact absurd HA.out (by simp [model_checkSample.j1])
      | succ kj19 =>
       have H := HA.out; clear HA; simp only [model_checkSample.j1] at H
       by_cases c26 : x27_19 = true
       ·subst c26; rw [if_pos rfl] at H; obtain rfl := Option.some.inj H
        go_wp2
        repeat (go_quiet (fail); try go_wp2)
        go_ret
        exact ⟨ez, bz⟩
       ·obtain rfl := bf c26; rw [if_neg (show ¬ (false = true) by decide)] at H; have HC27 := Aside0.mk H; clear H
        go_upto_region 5 with (fail)
        repeat (go_quiet (fail); go_upto_region 5 with (fail))
        go_cut [38] (fun v38 wc => ∃ (kq : Nat) (x38_26 : Bool), v38 = .bool x38_26 ∧ Aside0 (model_checkSample.j2 kq a1 x38_26 a2_0 a2_1 a2_2 a2_3 l2_4 l2_5 = some r) ∧ Aside0 (kq ≤ kj19) ∧ Aside0 (wc.heap[gb1321]? = some (.cells #[.int .i64 a0_0, .int .i64 a0_1, .string a0_2, .int .i64 a0_3, (.slice A0_4 l0_4.length c0_4), .string a0_5, .string a0_6, .int .i64 a0_7, (.slice A0_8 l0_8.length c0_8), (.slice A0_9 l0_9.length c0_9), (.slice A0_10 l0_10.length c0_10)] 71 (0, 0))) ∧ Aside0 (wc.heap[gb1322]? = some (.cells #[.int .i64 a2_0, .int .i64 a2_1, .int .i64 a2_2, .bool a2_3, (.slice A2_4 l2_4.length c2_4), (.slice A2_5 l2_5.length c2_5)] 120 (0, 0))) ∧ Aside0 (Below w.heap.size w wc))
        case first =>
         have H := HC27.out; clear HC27
         by_cases c28 : a1 > 0
         ·rw [if_pos c28] at H; have c28b0 : decide (0 < a1) = true := decide_eq_true c28; clear c28
          (first | rw [c28b0] | (simp only [i64_w, i32_w]; rw [c28b0]) | skip)
          obtain ⟨ji29, hji29⟩ : ∃ j_ : Int, (wrap64 (a1 - 1)) = j_ := ⟨_, rfl⟩; replace H : (if 0 ≤ (ji29) then (if (ji29) < (l0_10.length : Int) then (model_checkSample.j2 kj19 a1 (decide (a2_0 ≤ ((rd_T120 l0_10 (ji29)).f0))) a2_0 a2_1 a2_2 a2_3 l2_4 l2_5) else (none)) else (none)) = some r := by first | (rw [hji29] at H; exact H) | (simp only [hji29] at H ⊢; exact H)
          have hji29w : (IntKind.i64.wrap (a1 - 1)) = ji29 := (i64_w _).trans hji29
          by_cases c30 : 0 ≤ (ji29)
          ·rw [if_pos c30] at H; have c30b0 : decide (0 ≤ (ji29)) = true := decide_eq_true c30; clear c30
           by_cases c31 : (ji29) < (l0_10.length : Int)
           ·rw [if_pos c31] at H; have c31b0 : decide ((ji29) < (l0_10.length : Int)) = true := decide_eq_true c31; clear c31; have H' := Aside0.mk H; clear H; have hnb32 := NB1322_1321.out; have hnc32 := NB1321_1322.out; have hcz33_0 : wc.cell? ⟨gb1322, 0, none⟩ = some (.int .i64 a2_0) := ct BK1322 0; have hcz33_1 : wc.cell? ⟨gb1322, 1, none⟩ = some (.int .i64 a2_1) := ct BK1322 1; have hcz33_2 : wc.cell? ⟨gb1322, 2, none⟩ = some (.int .i64 a2_2) := ct BK1322 2; have hcz33_3 : wc.cell? ⟨gb1322, 3, none⟩ = some (.bool a2_3) := ct BK1322 3; have hcz33_4 : wc.cell? ⟨gb1322, 4, none⟩ = some (.slice A2_4 l2_4.length c2_4) := ct BK1322 4; have hcz33_5 : wc.cell? ⟨gb1322, 5, none⟩ = some (.slice A2_5 l2_5.length c2_5) := ct BK1322 5; have hfz33_0 := blk_frozen BK1322.out 0; have hfz33_1 := blk_frozen BK1322.out 1; have hfz33_2 := blk_frozen BK1322.out 2; have hfz33_3 := blk_frozen BK1322.out 3; have hfz33_4 := blk_frozen BK1322.out 4; have hfz33_5 := blk_frozen BK1322.out 5; have hcz34_0 : wc.cell? ⟨gb1321, 0, none⟩ = some (.int .i64 a0_0) := ct BK1321 0; have hcz34_1 : wc.cell? ⟨gb1321, 1, none⟩ = some (.int .i64 a0_1) := ct BK1321 1; have hcz34_2 : wc.cell? ⟨gb1321, 2, none⟩ = some (.string a0_2) := ct BK1321 2; have hcz34_3 : wc.cell? ⟨gb1321, 3, none⟩ = some (.int .i64 a0_3) := ct BK1321 3; have hcz34_4 : wc.cell? ⟨gb1321, 4, none⟩ = some (.slice A0_4 l0_4.length c0_4) := ct BK1321 4; have hcz34_5 : wc.cell? ⟨gb1321, 5, none⟩ = some (.string a0_5) := ct BK1321 5; have hcz34_6 : wc.cell? ⟨gb1321, 6, none⟩ = some (.string a0_6) := ct BK1321 6; have hcz34_7 : wc.cell? ⟨gb1321, 7, none⟩ = some (.int .i64 a0_7) := ct BK1321 7; have hcz34_8 : wc.cell? ⟨gb1321, 8, none⟩ = some (.slice A0_8 l0_8.length c0_8) := ct BK1321 8; have hcz34_9 : wc.cell? ⟨gb1321, 9, none⟩ = some (.slice A0_9 l0_9.length c0_9) := ct BK1321 9; have hcz34_10 : wc.cell? ⟨gb1321, 10, none⟩ = some (.slice A0_10 l0_10.length c0_10) := ct BK1321 10; have hfz34_0 := blk_frozen BK1321.out 0; have hfz34_1 := blk_frozen BK1321.out 1; have hfz34_2 := blk_frozen BK1321.out 2; have hfz34_3 := blk_frozen BK1321.out 3; have hfz34_4 := blk_frozen BK1321.out 4; have hfz34_5 := blk_frozen BK1321.out 5; have hfz34_6 := blk_frozen BK1321.out 6; have hfz34_7 := blk_frozen BK1321.out 7; have hfz34_8 := blk_frozen BK1321.out 8; have hfz34_9 := blk_frozen BK1321.out 9; have hfz34_10 := blk_frozen BK1321.out 10; have p1326 : 0 ≤ ((ji29) : Int) := od; have q1326 : (ji29) < (l0_10.length : Int) := od; obtain ⟨ad1326, A1326_4, c1326_4, A1326_5, c1326_5, e1326, hx1326_0, hx1326_1, hx1326_2, hx1326_3, hx1326_4, hx1326_5, hl1326_4, hi1326_4, hl1326_5, hi1326_5⟩ := at_T120 HR0_10.out (ji29) p1326 q1326
            cases e1326
            replace hx1326_0 := cl HB hx1326_0; replace hx1326_1 := cl HB hx1326_1; replace hx1326_2 := cl HB hx1326_2; replace hx1326_3 := cl HB hx1326_3; replace hx1326_4 := cl HB hx1326_4; replace hx1326_5 := cl HB hx1326_5; have HR1326_4 := Aside0.mk hi1326_4; have HC1326_4 := Aside0.mk hl1326_4; clear hi1326_4 hl1326_4; have HR1326_5 := Aside0.mk hi1326_5; have HC1326_5 := Aside0.mk hl1326_5; clear hi1326_5 hl1326_5; replace p1326 := eq_true p1326; replace q1326 := eq_true q1326
            go_wp2
            repeat (go_quiet (fail); try go_wp2)
            go_meet
            case rel => exact ⟨_, (decide (a2_0 ≤ ((rd_T120 l0_10 (ji29)).f0))), (by first | rfl | (simp; done) | (simp only [← hji29] <;> (first | rfl | simp)) | (simp [*]; done)), H', ⟨by have := HJ6.out; have := HJ19.out; first | omega | exact Nat.le_refl _⟩, ⟨kz⟩, ⟨kz⟩, ⟨bz⟩⟩
           ·rw [if_neg c31] at H
            exact absurd H (by simp)
          ·rw [if_neg c30] at H
           exact absurd H (by simp)
         ·rw [if_neg c28] at H; have c28b0 : decide (0 < a1) = false := decide_eq_false c28; clear c28
          (first | rw [c28b0] | (simp only [i64_w, i32_w]; rw [c28b0]) | skip)
          have H' := Aside0.mk H; clear H
          go_wp2
          repeat (go_quiet (fail); try go_wp2)
          go_meet
          case rel => exact ⟨_, (false), jz, H', ⟨by have := HJ6.out; have := HJ19.out; first | omega | exact Nat.le_refl _⟩, ⟨kz⟩, ⟨kz⟩, ⟨bz⟩⟩
        case rest =>
         clear HC27
         try clear c1
         try clear p1
         try clear q1
         try clear hx1
         try clear c2
         try clear p2
         try clear c3
         try clear p6
         try clear c9
         try clear c11
         try clear c13
         try clear p13
         try clear q13
         try clear hx13
         try clear c14
         try clear c15
         try clear c17
         try clear c19
         try clear c21
         try clear c21b0
         try clear c21b1
         try clear c22
         try clear c24
         try clear c26
         try clear c28
         try clear c28b0
         try clear c30
         try clear c30b0
         try clear c31
         try clear c31b0
         try clear c32
         try clear hcz14_0
         try clear hcz14_1
         try clear hcz14_2
         try clear hcz14_3
         try clear hcz14_4
         try clear hcz14_5
         try clear hcz16_0
         try clear hcz16_1
         try clear hcz16_2
         try clear hcz16_3
         try clear hcz16_4
         try clear hcz16_5
         try clear hcz18_0
         try clear hcz18_1
         try clear hcz18_2
         try clear hcz18_3
         try clear hcz18_4
         try clear hcz18_5
         try clear hcz23_0
         try clear hcz23_1
         try clear hcz23_2
         try clear hcz23_3
         try clear hcz23_4
         try clear hcz23_5
         try clear hcz25_0
         try clear hcz25_1
         try clear hcz25_2
         try clear hcz25_3
         try clear hcz25_4
         try clear hcz25_5
         try clear hcz33_0
         try clear hcz33_1
         try clear hcz33_2
         try clear hcz33_3
         try clear hcz33_4
         try clear hcz33_5
         try clear hcz34_0
         try clear hcz34_1
         try clear hcz34_10
         try clear hcz34_2
         try clear hcz34_3
         try clear hcz34_4
         try clear hcz34_5
         try clear hcz34_6
         try clear hcz34_7
         try clear hcz34_8
         try clear hcz34_9
         try clear hfz14_0
         try clear hfz14_1
         try clear hfz14_2
         try clear hfz14_3
         try clear hfz14_4
         try clear hfz14_5
         try clear hfz16_0
         try clear hfz16_1
         try clear hfz16_2
         try clear hfz16_3
         try clear hfz16_4
         try clear hfz16_5
         try clear hfz18_0
         try clear hfz18_1
         try clear hfz18_2
         try clear hfz18_3
         try clear hfz18_4
         try clear hfz18_5
         try clear hfz23_0
         try clear hfz23_1
         try clear hfz23_2
         try clear hfz23_3
         try clear hfz23_4
         try clear hfz23_5
         try clear hfz25_0
         try clear hfz25_1
         try clear hfz25_2
         try clear hfz25_3
         try clear hfz25_4
         try clear hfz25_5
         try clear hfz33_0
         try clear hfz33_1
         try clear hfz33_2
         try clear hfz33_3
         try clear hfz33_4
         try clear hfz33_5
         try clear hfz34_0
         try clear hfz34_1
         try clear hfz34_10
         try clear hfz34_2
         try clear hfz34_3
         try clear hfz34_4
         try clear hfz34_5
         try clear hfz34_6
         try clear hfz34_7
         try clear hfz34_8
         try clear hfz34_9
         try clear hx1326_0
         try clear hx1326_1
         try clear hx1326_2
         try clear hx1326_3
         try clear hx1326_4
         try clear hx1326_5
         try clear p1326
         try clear p2
         try clear q1326
         obtain ⟨kq, x38_26, rfl, HA, HJ26, BK1321, BK1322, HB⟩ := hcut
         cases kq with
         | zero => exact absurd HA.out (by simp [model_checkSample.j2])
         | succ kj26 =>
          have H := HA.out; clear HA; simp only [model_checkSample.j2] at H
          by_cases c35 : x38_26 = true
          ·subst c35; rw [if_pos rfl] at H; obtain rfl := Option.some.inj H
           go_wp2
           repeat (go_quiet (fail); try go_wp2)
           go_ret
           exact ⟨ez, bz⟩
          ·obtain rfl := bf c35; rw [if_neg (show ¬ (false = true) by decide)] at H
           by_cases c36 : a2_3 = true
           ·subst c36; rw [if_pos rfl] at H
            by_cases c37 : (l2_4.length : Int) > 0
            ·rw [if_pos c37] at H; have c37b0 : decide (0 < (l2_4.length : Int)) = true := decide_eq_true c37; have c37b1 : decide (0 < l2_4.length) = true := decide_eq_true (by omega); clear c37; obtain rfl := Option.some.inj H; have hnb38 := NB1322_1321.out; have hnc38 := NB1321_1322.out; have hcz39_0 : wc.cell? ⟨gb1322, 0, none⟩ = some (.int .i64 a2_0) := ct BK1322 0; have hcz39_1 : wc.cell? ⟨gb1322, 1, none⟩ = some (.int .i64 a2_1) := ct BK1322 1; have hcz39_2 : wc.cell? ⟨gb1322, 2, none⟩ = some (.int .i64 a2_2) := ct BK1322 2; have hcz39_3 : wc.cell? ⟨gb1322, 3, none⟩ = some (.bool true) := ct BK1322 3; have hcz39_4 : wc.cell? ⟨gb1322, 4, none⟩ = some (.slice A2_4 l2_4.length c2_4) := ct BK1322 4; have hcz39_5 : wc.cell? ⟨gb1322, 5, none⟩ = some (.slice A2_5 l2_5.length c2_5) := ct BK1322 5; have hfz39_0 := blk_frozen BK1322.out 0; have hfz39_1 := blk_frozen BK1322.out 1; have hfz39_2 := blk_frozen BK1322.out 2; have hfz39_3 := blk_frozen BK1322.out 3; have hfz39_4 := blk_frozen BK1322.out 4; have hfz39_5 := blk_frozen BK1322.out 5
             go_wp2
             repeat (go_quiet (fail); try go_wp2)
             go_ret
             exact ⟨ez, bz⟩
            ·rw [if_neg c37] at H; have c37b0 : decide (0 < (l2_4.length : Int)) = false := decide_eq_false c37; have c37b1 : decide (0 < l2_4.length) = false := decide_eq_false (by omega); clear c37; have H' := Aside0.mk H; clear H; have hnb40 := NB1322_1321.out; have hnc40 := NB1321_1322.out; have hcz41_0 : wc.cell? ⟨gb1322, 0, none⟩ = some (.int .i64 a2_0) := ct BK1322 0; have hcz41_1 : wc.cell? ⟨gb1322, 1, none⟩ = some (.int .i64 a2_1) := ct BK1322 1; have hcz41_2 : wc.cell? ⟨gb1322, 2, none⟩ = some (.int .i64 a2_2) := ct BK1322 2; have hcz41_3 : wc.cell? ⟨gb1322, 3, none⟩ = some (.bool true) := ct BK1322 3; have hcz41_4 : wc.cell? ⟨gb1322, 4, none⟩ = some (.slice A2_4 l2_4.length c2_4) := ct BK1322 4; have hcz41_5 : wc.cell? ⟨gb1322, 5, none⟩ = some (.slice A2_5 l2_5.length c2_5) := ct BK1322 5; have hfz41_0 := blk_frozen BK1322.out 0; have hfz41_1 := blk_frozen BK1322.out 1; have hfz41_2 := blk_frozen BK1322.out 2; have hfz41_3 := blk_frozen BK1322.out 3; have hfz41_4 := blk_frozen BK1322.out 4; have hfz41_5 := blk_frozen BK1322.out 5
             go_wp2
             repeat (go_quiet (fail); try go_wp2)
             go_meet
             case rel => exact ⟨_, H', ⟨by have := HJ6.out; have := HJ19.out; have := HJ26.out; first | omega | exact Nat.le_refl _⟩, ⟨kz⟩, ⟨kz⟩, ⟨bz⟩⟩
           ·obtain rfl := bf c36; rw [if_neg (show ¬ (false = true) by decide)] at H; have H' := Aside0.mk H; clear H; have hnb42 := NB1322_1321.out; have hnc42 := NB1321_1322.out; have hcz43_0 : wc.cell? ⟨gb1322, 0, none⟩ = some (.int .i64 a2_0) := ct BK1322 0; have hcz43_1 : wc.cell? ⟨gb1322, 1, none⟩ = some (.int .i64 a2_1) := ct BK1322 1; have hcz43_2 : wc.cell? ⟨gb1322, 2, none⟩ = some (.int .i64 a2_2) := ct BK1322 2; have hcz43_3 : wc.cell? ⟨gb1322, 3, none⟩ = some (.bool false) := ct BK1322 3; have hcz43_4 : wc.cell? ⟨gb1322, 4, none⟩ = some (.slice A2_4 l2_4.length c2_4) := ct BK1322 4; have hcz43_5 : wc.cell? ⟨gb1322, 5, none⟩ = some (.slice A2_5 l2_5.length c2_5) := ct BK1322 5; have hfz43_0 := blk_frozen BK1322.out 0; have hfz43_1 := blk_frozen BK1322.out 1; have hfz43_2 := blk_frozen BK1322.out 2; have hfz43_3 := blk_frozen BK1322.out 3; have hfz43_4 := blk_frozen BK1322.out 4; have hfz43_5 := blk_frozen BK1322.out 5
            go_wp2
            repeat (go_quiet (fail); try go_wp2)
            go_meet
            case rel => exact ⟨_, H', ⟨by have := HJ6.out; have := HJ19.out; have := HJ26.out; first | omega | exact Nat.le_refl _⟩, ⟨kz⟩, ⟨kz⟩, ⟨bz⟩⟩
 case rest =>
  clear HC4
  try clear c1
  try clear p1
  try clear q1
  try clear hx1
  try clear c2
  try clear p2
  try clear c3
  try clear c4
  try clear p6
  try clear c9
  try clear c11
  try clear c13
  try clear p13
  try clear q13
  try clear hx13
  try clear c14
  try clear c15
  try clear c17
  try clear c19
  try clear c21
  try clear c21b0
  try clear c21b1
  try clear c22
  try clear c24
  try clear c26
  try clear c28
  try clear c28b0
  try clear c30
  try clear c30b0
  try clear c31
  try clear c31b0
  try clear c32
  try clear c35
  try clear c36
  try clear c37
  try clear c37b0
  try clear c37b1
  try clear c38
  try clear c40
  try clear c42
  try clear hcz14_0
  try clear hcz14_1
  try clear hcz14_2
  try clear hcz14_3
  try clear hcz14_4
  try clear hcz14_5
  try clear hcz16_0
  try clear hcz16_1
  try clear hcz16_2
  try clear hcz16_3
  try clear hcz16_4
  try clear hcz16_5
  try clear hcz18_0
  try clear hcz18_1
  try clear hcz18_2
  try clear hcz18_3
  try clear hcz18_4
  try clear hcz18_5
  try clear hcz23_0
  try clear hcz23_1
  try clear hcz23_2
  try clear hcz23_3
  try clear hcz23_4
  try clear hcz23_5
  try clear hcz25_0
  try clear hcz25_1
  try clear hcz25_2
  try clear hcz25_3
  try clear hcz25_4
  try clear hcz25_5
  try clear hcz33_0
  try clear hcz33_1
  try clear hcz33_2
  try clear hcz33_3
  try clear hcz33_4
  try clear hcz33_5
  try clear hcz34_0
  try clear hcz34_1
  try clear hcz34_10
  try clear hcz34_2
  try clear hcz34_3
  try clear hcz34_4
  try clear hcz34_5
  try clear hcz34_6
  try clear hcz34_7
  try clear hcz34_8
  try clear hcz34_9
  try clear hcz39_0
  try clear hcz39_1
  try clear hcz39_2
  try clear hcz39_3
  try clear hcz39_4
  try clear hcz39_5
  try clear hcz41_0
  try clear hcz41_1
  try clear hcz41_2
  try clear hcz41_3
  try clear hcz41_4
  try clear hcz41_5
  try clear hcz43_0
  try clear hcz43_1
  try clear hcz43_2
  try clear hcz43_3
  try clear hcz43_4
  try clear hcz43_5
  try clear hfz14_0
  try clear hfz14_1
  try clear hfz14_2
  try clear hfz14_3
  try clear hfz14_4
  try clear hfz14_5
  try clear hfz16_0
  try clear hfz16_1
  try clear hfz16_2
  try clear hfz16_3
  try clear hfz16_4
  try clear hfz16_5
  try clear hfz18_0
  try clear hfz18_1
  try clear hfz18_2
  try clear hfz18_3
  try clear hfz18_4
  try clear hfz18_5
  try clear hfz23_0
  try clear hfz23_1
  try clear hfz23_2
  try clear hfz23_3
  try clear hfz23_4
  try clear hfz23_5
  try clear hfz25_0
  try clear hfz25_1
  try clear hfz25_2
  try clear hfz25_3
  try clear hfz25_4
  try clear hfz25_5
  try clear hfz33_0
  try clear hfz33_1
  try clear hfz33_2
  try clear hfz33_3
  try clear hfz33_4
  try clear hfz33_5
  try clear hfz34_0
  try clear hfz34_1
  try clear hfz34_10
  try clear hfz34_2
  try clear hfz34_3
  try clear hfz34_4
  try clear hfz34_5
  try clear hfz34_6
  try clear hfz34_7
  try clear hfz34_8
  try clear hfz34_9
  try clear hfz39_0
  try clear hfz39_1
  try clear hfz39_2
  try clear hfz39_3
  try clear hfz39_4
  try clear hfz39_5
  try clear hfz41_0
  try clear hfz41_1
  try clear hfz41_2
  try clear hfz41_3
  try clear hfz41_4
  try clear hfz41_5
  try clear hfz43_0
  try clear hfz43_1
  try clear hfz43_2
  try clear hfz43_3
  try clear hfz43_4
  try clear hfz43_5
  try clear hx1326_0
  try clear hx1326_1
  try clear hx1326_2
  try clear hx1326_3
  try clear hx1326_4
  try clear hx1326_5
  try clear p1
  try clear p13
  try clear p1326
  try clear p2
  try clear p6
  try clear q1
  try clear q13
  try clear q1326
  obtain ⟨kq, HA, HJ3, BK1321, BK1322, HB⟩ := hcut
  cases kq with
  | zero => exact absurd HA.out (by simp [model_checkSample.j3])
  | succ kj3 =>
   have H := HA.out; clear HA; simp only [model_checkSample.j3] at H; have H' := Aside0.mk H; clear H; have hnb44 := NB1322_1321.out; have hnc44 := NB1321_1322.out; have hcz45_0 : wc.cell? ⟨gb1322, 0, none⟩ = some (.int .i64 a2_0) := ct BK1322 0; have hcz45_1 : wc.cell? ⟨gb1322, 1, none⟩ = some (.int .i64 a2_1) := ct BK1322 1; have hcz45_2 : wc.cell? ⟨gb1322, 2, none⟩ = some (.int .i64 a2_2) := ct BK1322 2; have hcz45_3 : wc.cell? ⟨gb1322, 3, none⟩ = some (.bool a2_3) := ct BK1322 3; have hcz45_4 : wc.cell? ⟨gb1322, 4, none⟩ = some (.slice A2_4 l2_4.length c2_4) := ct BK1322 4; have hcz45_5 : wc.cell? ⟨gb1322, 5, none⟩ = some (.slice A2_5 l2_5.length c2_5) := ct BK1322 5; have hfz45_0 := blk_frozen BK1322.out 0; have hfz45_1 := blk_frozen BK1322.out 1; have hfz45_2 := blk_frozen BK1322.out 2; have hfz45_3 := blk_frozen BK1322.out 3; have hfz45_4 := blk_frozen BK1322.out 4; have hfz45_5 := blk_frozen BK1322.out 5
   go_wp2
   repeat (go_quiet (fail); try go_wp2)
   go_loopg [7, 65] kj3 (fun kq v7 v65 w' => ∃ (x7_2 : Int) (x65_2 : Int), v7 = .int .i64 x7_2 ∧ v65 = .int .i64 x65_2 ∧ Aside0 (model_checkSample.l0 kq a1 x7_2 l2_4 (l2_4.length : Int) x65_2 = some r) ∧ Aside0 (kq ≤ kj3) ∧ Aside0 (w'.heap[gb1321]? = some (.cells #[.int .i64 a0_0, .int .i64 a0_1, .string a0_2, .int .i64 a0_3, (.slice A0_4 l0_4.length c0_4), .string a0_5, .string a0_6, .int .i64 a0_7, (.slice A0_8 l0_8.length c0_8), (.slice A0_9 l0_9.length c0_9), (.slice A0_10 l0_10.length c0_10)] 71 (0, 0))) ∧ Aside0 (w'.heap[gb1322]? = some (.cells #[.int .i64 a2_0, .int .i64 a2_1, .int .i64 a2_2, .bool a2_3, (.slice A2_4 l2_4.length c2_4), (.slice A2_5 l2_5.length c2_5)] 120 (0, 0))) ∧ Aside0 (Below w.heap.size w w'))
   case atStart => exact ⟨((-1)), (0), jz, jz, H', ⟨Nat.le_refl _⟩, ⟨kz⟩, ⟨kz⟩, ⟨bz⟩⟩
   case round =>
    clear H'
    try clear c1
    try clear p1
    try clear q1
    try clear hx1
    try clear c2
    try clear p2
    try clear c3
    try clear c4
    try clear p6
    try clear c9
    try clear c11
    try clear c13
    try clear p13
    try clear q13
    try clear hx13
    try clear c14
    try clear c15
    try clear c17
    try clear c19
    try clear c21
    try clear c21b0
    try clear c21b1
    try clear c22
    try clear c24
    try clear c26
    try clear c28
    try clear c28b0
    try clear c30
    try clear c30b0
    try clear c31
    try clear c31b0
    try clear c32
    try clear c35
    try clear c36
    try clear c37
    try clear c37b0
    try clear c37b1
    try clear c38
    try clear c40
    try clear c42
    try clear c44
    try clear hcz14_0
    try clear hcz14_1
    try clear hcz14_2
    try clear hcz14_3
    try clear hcz14_4
    try clear hcz14_5
    try clear hcz16_0
    try clear hcz16_1
    try clear hcz16_2
    try clear hcz16_3
    try clear hcz16_4
    try clear hcz16_5
    try clear hcz18_0
    try clear hcz18_1
    try clear hcz18_2
    try clear hcz18_3
    try clear hcz18_4
    try clear hcz18_5
    try clear hcz23_0
    try clear hcz23_1
    try clear hcz23_2
    try clear hcz23_3
    try clear hcz23_4
    try clear hcz23_5
    try clear hcz25_0
    try clear hcz25_1
    try clear hcz25_2
    try clear hcz25_3
    try clear hcz25_4
    try clear hcz25_5
    try clear hcz33_0
    try clear hcz33_1
    try clear hcz33_2
    try clear hcz33_3
    try clear hcz33_4
    try clear hcz33_5
    try clear hcz34_0
    try clear hcz34_1
    try clear hcz34_10
    try clear hcz34_2
    try clear hcz34_3
    try clear hcz34_4
    try clear hcz34_5
    try clear hcz34_6
    try clear hcz34_7
    try clear hcz34_8
    try clear hcz34_9
    try clear hcz39_0
    try clear hcz39_1
    try clear hcz39_2
    try clear hcz39_3
    try clear hcz39_4
    try clear hcz39_5
    try clear hcz41_0
    try clear hcz41_1
    try clear hcz41_2
    try clear hcz41_3
    try clear hcz41_4
    try clear hcz41_5
    try clear hcz43_0
    try clear hcz43_1
    try clear hcz43_2
    try clear hcz43_3
    try clear hcz43_4
    try clear hcz43_5
    try clear hcz45_0
    try clear hcz45_1
    try clear hcz45_2
    try clear hcz45_3
    try clear hcz45_4
    try clear hcz45_5
    try clear hfz14_0
    try clear hfz14_1
    try clear hfz14_2
    try clear hfz14_3
    try clear hfz14_4
    try clear hfz14_5
    try clear hfz16_0
    try clear hfz16_1
    try clear hfz16_2
    try clear hfz16_3
    try clear hfz16_4
    try clear hfz16_5
    try clear hfz18_0
    try clear hfz18_1
    try clear hfz18_2
    try clear hfz18_3
    try clear hfz18_4
    try clear hfz18_5
    try clear hfz23_0
    try clear hfz23_1
    try clear hfz23_2
    try clear hfz23_3
    try clear hfz23_4
    try clear hfz23_5
    try clear hfz25_0
    try clear hfz25_1
    try clear hfz25_2
    try clear hfz25_3
    try clear hfz25_4
    try clear hfz25_5
    try clear hfz33_0
    try clear hfz33_1
    try clear hfz33_2
    try clear hfz33_3
    try clear hfz33_4
    try clear hfz33_5
    try clear hfz34_0
    try clear hfz34_1
    try clear hfz34_10
    try clear hfz34_2
    try clear hfz34_3
    try clear hfz34_4
    try clear hfz34_5
    try clear hfz34_6
    try clear hfz34_7
    try clear hfz34_8
    try clear hfz34_9
    try clear hfz39_0
    try clear hfz39_1
    try clear hfz39_2
    try clear hfz39_3
    try clear hfz39_4
    try clear hfz39_5
    try clear hfz41_0
    try clear hfz41_1
    try clear hfz41_2
    try clear hfz41_3
    try clear hfz41_4
    try clear hfz41_5
    try clear hfz43_0
    try clear hfz43_1
    try clear hfz43_2
    try clear hfz43_3
    try clear hfz43_4
    try clear hfz43_5
    try clear hfz45_0
    try clear hfz45_1
    try clear hfz45_2
    try clear hfz45_3
    try clear hfz45_4
    try clear hfz45_5
    try clear hx1326_0
    try clear hx1326_1
    try clear hx1326_2
    try clear hx1326_3
    try clear hx1326_4
    try clear hx1326_5
    try clear p1
    try clear p13
    try clear p1326
    try clear p2
    try clear p6
    try clear q1
    try clear q13
    try clear q1326
    obtain ⟨x7_2, x65_2, rfl, rfl, HA, HK2, BK1321, BK1322, HB⟩ := hrel
    cases gk with
    | zero => exact absurd HA.out (by simp [model_checkSample.l0])
    | succ k2 =>
     have H := HA.out; clear HA; simp only [model_checkSample.l0] at H
     by_cases c46 : x65_2 < (l2_4.length : Int)
     ·rw [if_pos c46] at H; have c46b0 : decide (x65_2 < (l2_4.length : Int)) = true := decide_eq_true c46; clear c46
      by_cases c47 : 0 ≤ x65_2
      ·rw [if_pos c47] at H; have c47b0 : decide (0 ≤ x65_2) = true := decide_eq_true c47; clear c47
       by_cases c48 : x65_2 < (l2_4.length : Int)
       ·rw [if_pos c48] at H; have c48b0 : decide (x65_2 < (l2_4.length : Int)) = true := decide_eq_true c48; clear c48
        by_cases c49 : (rd l2_4 x65_2) ≤ x7_2
        ·rw [if_pos c49] at H; have c49b0 : decide ((rd l2_4 x65_2) ≤ x7_2) = true := decide_eq_true c49; clear c49; obtain rfl := Option.some.inj H; have p1327 : 0 ≤ (x65_2 : Int) := od; have q1327 : x65_2 < (l2_4.length : Int) := od; obtain ⟨ad1327, e1327, hx1327_0⟩ := Kd.at_int HR2_4.out x65_2 p1327 q1327
         cases e1327
         replace hx1327_0 := cl HB hx1327_0; replace p1327 := eq_true p1327; replace q1327 := eq_true q1327
         go_wp2
         repeat (go_quiet (fail); try go_wp2)
         go_ret
         exact ⟨ez, bz⟩
        ·rw [if_neg c49] at H; have c49b0 : decide ((rd l2_4 x65_2) ≤ x7_2) = false := decide_eq_false c49; clear c49
         by_cases c50 : (rd l2_4 x65_2) ≥ a1
         ·rw [if_pos c50] at H; have c50b0 : decide (a1 ≤ (rd l2_4 x65_2)) = true := decide_eq_true c50; clear c50; obtain rfl := Option.some.inj H; have p1327 : 0 ≤ (x65_2 : Int) := od; have q1327 : x65_2 < (l2_4.length : Int) := od; obtain ⟨ad1327, e1327, hx1327_0⟩ := Kd.at_int HR2_4.out x65_2 p1327 q1327
          cases e1327
          replace hx1327_0 := cl HB hx1327_0; replace p1327 := eq_true p1327; replace q1327 := eq_true q1327
          go_wp2
          repeat (go_quiet (fail); try go_wp2)
          go_ret
          exact ⟨ez, bz⟩
         ·rw [if_neg c50] at H; have c50b0 : decide (a1 ≤ (rd l2_4 x65_2)) = false := decide_eq_false c50; clear c50; have H' := Aside0.mk H; clear H; have p1327 : 0 ≤ (x65_2 : Int) := od; have q1327 : x65_2 < (l2_4.length : Int) := od; obtain ⟨ad1327, e1327, hx1327_0⟩ := Kd.at_int HR2_4.out x65_2 p1327 q1327
          cases e1327
          replace hx1327_0 := cl HB hx1327_0; replace p1327 := eq_true p1327; replace q1327 := eq_true q1327
          go_wp2
          repeat (go_quiet (fail); try go_wp2)
          go_roundg k2
          case measure => have := HJ3.out; have := HK2.out; omega
          case rel => exact ⟨(rd l2_4 x65_2), (wrap64 (x65_2 + 1)), jz, jz, H', ⟨by have := HJ3.out; have := HK2.out; omega⟩, ⟨kz⟩, ⟨kz⟩, ⟨bz⟩⟩
       ·rw [if_neg c48] at H
        exact absurd H (by simp)
      ·rw [if_neg c47] at H
       exact absurd H (by simp)
     ·rw [if_neg c46] at H; have c46b0 : decide (x65_2 < (l2_4.length : Int)) = false := decide_eq_false c46; clear c46; obtain rfl := Option.some.inj H
      go_wp2
      repeat (go_quiet (fail); try go_wp2)
      go_ret
      exact ⟨ez, bz⟩
end Go.Proofs.Ytpbhepdgamoiaaa.E

/-
  edit.Back: the walk.
-/
import Derived.Test.YtpbhepdgamoiaaaQREditInstantsa
import Derived.Test.YtpbhepdgamoiaaaQREditInstantsd
import Derived.Test.YtpbhepdgamoiaaaQREditInstantsc
import Derived.Outline
namespace Go.Proofs.Ytpbhepdgamoiaaa.E
open Go.Proofs.Ytpbhepdgamoiaaa.Z Go.RowKit Go.Proofs.YtpbhepdgamoiaaaW.PrintWords Go.Proofs.YtpbhepdgamoiaaaW.PrintLast Go.Proofs.YtpbhepdgamoiaaaW.PrintMore
attribute [local go_sem] max2_int min2_int max_two min_two max_three min_three max_four min_four
set_option linter.unusedVariables false
set_option linter.unusedSimpArgs false
mutual
def dioramaref02_Over.l0 : Nat → List Int → List Int → List Int → List Int → Int → Option (List Int × List Int)
  | 0, _, _, _, _, _ => none
  | k + 1, x0, x1, x6, x7, x8 => if x8 ≥ 0 then (if 0 ≤ x8 then (if x8 < (x0.length : Int) then ((some (([rd x0 x8] : List Int) : List Int)).bind fun y415 => (if y415.length + x7.length < 17592186044416 then ((dioramaref02_trimmed.f k (y415 ++ x7)).bind fun t421 => (dioramaref02_Over.l1 k x0 x1 x6 t421 x8 0 999999999)) else (none))) else (none)) else (none)) else ((dioramaref02_trimmed.f k x6).bind fun t411 => (some (t411, x7)))
def dioramaref02_Over.l1 : Nat → List Int → List Int → List Int → List Int → Int → Int → Int → Option (List Int × List Int)
  | 0, _, _, _, _, _, _, _ => none
  | k + 1, x0, x1, x6, x7, x8, x10, x11 => if x10 < x11 then ((dioramaref02_Of.f k (wrap64 (Int.tdiv (wrap64 ((wrap64 (x10 + x11)) + 1)) 2))).bind fun t434 => ((dioramaref02_Times.f k x1 t434).bind fun t437 => ((dioramaref02_Compare.f k t437 x7).bind fun t440 => (if t440 ≤ 0 then (dioramaref02_Over.l1 k x0 x1 x6 x7 x8 (wrap64 (Int.tdiv (wrap64 ((wrap64 (x10 + x11)) + 1)) 2)) x11) else (dioramaref02_Over.l1 k x0 x1 x6 x7 x8 x10 (wrap64 ((wrap64 (Int.tdiv (wrap64 ((wrap64 (x10 + x11)) + 1)) 2)) - 1))))))) else (if 0 ≤ x8 then (if x8 < (x6.length : Int) then ((dioramaref02_Of.f k x10).bind fun t425 => ((dioramaref02_Times.f k x1 t425).bind fun t428 => ((dioramaref02_Minus.f k x7 t428).bind fun t431 => (dioramaref02_Over.l0 k x0 x1 (x6.set (x8 : Int).toNat x10) t431 (wrap64 (x8 - 1)))))) else (none)) else (none))
end
def dioramaref02_Over.f (k : Nat) (l0 : List Int) (l1 : List Int) : Option (List Int × List Int) := if 0 ≤ (l0.length : Int) then (if ((l0.length : Int) : Int).toNat ≤ 35184372088832 then (dioramaref02_Over.l0 k l0 l1 (List.replicate ((l0.length : Int) : Int).toNat 0) ([] : List Int) (wrap64 ((l0.length : Int) - 1))) else (none)) else (none)
set_option maxHeartbeats 8000000 in
set_option maxRecDepth 100000 in
theorem dioramaref02_Over.calls (k : Nat) (A0 : Option Addr) (c0 : Nat) (l0 : List Int) (A1 : Option Addr) (c1 : Nat) (l1 : List Int) (r1 : List Int) (r2 : List Int) (w : World) (hr0 : Kd.C (Kd.int .i64) w A0 l0.length l0) (hc0 : l0.length ≤ c0) (hr1 : Kd.C (Kd.int .i64) w A1 l1.length l1) (hc1 : l1.length ≤ c1) (h : dioramaref02_Over.f k l0 l1 = some (r1, r2)) :
  Calls Try.prog 123 #[.slice A0 l0.length c0, .slice A1 l1.length c1] w fun e w' => ∃ v0_ v1_ : Value, e = .returned (.tuple #[v0_, v1_]) ∧ Kd.R (Kd.int .i64) 3 w' w.heap.size (fun k_ => some k_ ≠ (v1_ : Value).ownBlock) v0_ r1 ∧ Kd.R (Kd.int .i64) 3 w' w.heap.size (fun k_ => some k_ ≠ (v0_ : Value).ownBlock) v1_ r2 ∧ Below w.heap.size w w' := by
 have HR0 := Aside0.mk hr0; have HC0 := Aside0.mk hc0; clear hr0 hc0; have HR1 := Aside0.mk hr1; have HC1 := Aside0.mk hc1; clear hr1 hc1; have HB := Aside0.mk (Below.refl w.heap.size w); have H : (if 0 ≤ (l0.length : Int) then (if ((l0.length : Int) : Int).toNat ≤ 35184372088832 then (dioramaref02_Over.l0 k l0 l1 (List.replicate ((l0.length : Int) : Int).toNat 0) ([] : List Int) (wrap64 ((l0.length : Int) - 1))) else (none)) else (none)) = some (r1, r2) := h; clear h
 by_cases c3 : 0 ≤ (l0.length : Int)
 ·rw [if_pos c3] at H; have c3b0 := eq_true c3; have c3b1 : decide (0 ≤ (l0.length : Int)) = true := decide_eq_true c3; clear c3
  by_cases c4 : ((l0.length : Int) : Int).toNat ≤ 35184372088832
  ·rw [if_pos c4] at H; have c4b0 := eq_true c4; have c4b1 : decide (((l0.length : Int) : Int).toNat ≤ 35184372088832) = true := decide_eq_true c4; clear c4; obtain ⟨y408, hy408⟩ : ∃ y_ : List Int, y_ = (List.replicate ((l0.length : Int) : Int).toNat 0) := ⟨_, rfl⟩; replace H : (dioramaref02_Over.l0 k l0 l1 y408 ([] : List Int) (wrap64 ((l0.length : Int) - 1))) = some (r1, r2) := by first | (rw [hy408]; with_reducible exact H) | (have H2_ := (Option.bind_some _ _).symm.trans H; rw [hy408]; with_reducible exact H2_) | (have H2_ := (Option.bind_some _ _).symm.trans H; with_reducible exact H2_) | with_reducible exact H | (rw [hy408]; exact H) | exact H
   have Ny408 := Aside0.mk hy408; clear hy408; have H' := Aside0.mk H; clear H
   go_enter Try.func123, Try.ntmps123
   go_wp2_with (first | ((with_reducible refine gate_dst (N := 15) rfl ?_); refine Kd.R_make (Kd.int .i64) _ 3 rfl (N := 15) rfl 93 _ _ rfl (l0.length : Int) rfl rfl Try.underlying93 (.int .i64 0) 8 info3 rfl (by decide) (by omega) 0 (ok := fun _ => True) (okp := fun _ => True) rfl (fun _ hk => hk) trivial (od) (Nat.le_trans (Nat.mul_le_mul_right _ (od : (l0.length : Int).toNat ≤ 35184372088832)) (by omega)) (Below.refl _ _) (Nat.le_refl _) ?_; intro v409 w5 ho6 hb hg_ hnew_; clear hg_ hnew_; (first | rw [← Ny408.out] at ho6 | (simp only [Int.reduceToNat] at ho6; rw [← Ny408.out] at ho6)); have HO410 := Aside0.mk (Kd.R_lower ho6 sz); replace HB := bp hb; clear hb ho6))
   go_loopg [7, 8] k (fun kq v7 v8 w' => ∃ (x6_1 : List Int) (x7_1 : List Int) (x8_1 : Int), v8 = .int .i64 x8_1 ∧ Aside0 (dioramaref02_Over.l0 kq l0 l1 x6_1 x7_1 x8_1 = some (r1, r2)) ∧ Aside0 (kq ≤ k) ∧ Aside0 (Kd.R (Kd.int .i64) 3 w' w.heap.size (fun k_ => some k_ ≠ (v7 : Value).ownBlock) v409 x6_1) ∧ Aside0 (Kd.R (Kd.int .i64) 3 w' w.heap.size (fun k_ => some k_ ≠ (v409 : Value).ownBlock) v7 x7_1) ∧ Aside0 (Below w.heap.size w w'))
   case atStart => exact ⟨(y408), (([] : List Int)), (wrap64 ((l0.length : Int) - 1)), jz, H', ⟨Nat.le_refl _⟩, ⟨by (with_reducible repeat (first | apply Kd.R_alloc | apply Kd.R_drewN | apply Kd.R_drew)); exact Kd.R_mono HO410.out (fun _ hk => (by simp [Value.ownBlock]))⟩, ⟨by first | exact Kd.R_nil _ _ _ _ _ | exact Kd.N_nil _ _ _ _ _ | exact Kd.V_nil _ _ _ _ _ | exact Kd.Q_nil _ _ _ _ _ | exact Kd.S_nil _ _ _ _ _⟩, ⟨bz⟩⟩
   case round =>
    clear H'
    try clear c1
    try clear p2
    try clear c3
    try clear c3b0
    try clear c3b1
    try clear c4
    try clear c4b0
    try clear c4b1
    try clear p6
    obtain ⟨x6_1, x7_1, x8_1, rfl, HA, HK1, HO_6, HO_7, HB⟩ := hrel
    cases gk with
    | zero => exact absurd HA.out (by simp [dioramaref02_Over.l0])
    | succ k1 =>
     have H := HA.out; clear HA; simp only [dioramaref02_Over.l0] at H
     by_cases c7 : x8_1 ≥ 0
     ·rw [if_pos c7] at H; have c7b0 : decide (0 ≤ x8_1) = true := decide_eq_true c7; clear c7
      by_cases c8 : 0 ≤ x8_1
      ·rw [if_pos c8] at H; have c8b0 : decide (0 ≤ x8_1) = true := decide_eq_true c8; clear c8
       by_cases c9 : x8_1 < (l0.length : Int)
       ·rw [if_pos c9] at H; have c9b0 : decide (x8_1 < (l0.length : Int)) = true := decide_eq_true c9; clear c9; obtain ⟨y415, hy415⟩ : ∃ y_ : List Int, y_ = (([rd l0 x8_1] : List Int)) := ⟨_, rfl⟩; replace H : (if y415.length + x7_1.length < 17592186044416 then ((dioramaref02_trimmed.f k1 (y415 ++ x7_1)).bind fun t421 => (dioramaref02_Over.l1 k1 l0 l1 x6_1 t421 x8_1 0 999999999)) else (none)) = some (r1, r2) := by first | (rw [hy415]; with_reducible exact H) | (have H2_ := (Option.bind_some _ _).symm.trans H; rw [hy415]; with_reducible exact H2_) | (have H2_ := (Option.bind_some _ _).symm.trans H; with_reducible exact H2_) | with_reducible exact H | (rw [hy415]; exact H) | exact H
        have Ny415 := Aside0.mk hy415; clear hy415
        by_cases c10 : y415.length + x7_1.length < 17592186044416
        ·rw [if_pos c10] at H; have LMc10 := Aside0.mk c10; clear c10; obtain ⟨y418, hy418⟩ : ∃ y_ : List Int, y_ = (y415 ++ x7_1) := ⟨_, rfl⟩; replace H : ((dioramaref02_trimmed.f k1 y418).bind fun t421 => (dioramaref02_Over.l1 k1 l0 l1 x6_1 t421 x8_1 0 999999999)) = some (r1, r2) := by first | (rw [hy418]; with_reducible exact H) | (have H2_ := (Option.bind_some _ _).symm.trans H; rw [hy418]; with_reducible exact H2_) | (have H2_ := (Option.bind_some _ _).symm.trans H; with_reducible exact H2_) | with_reducible exact H | (rw [hy418]; exact H) | exact H
         have Ny418 := Aside0.mk hy418; clear hy418; obtain ⟨t421, A11, H⟩ := ob H; have H' := Aside0.mk H; clear H; have p414 : 0 ≤ (x8_1 : Int) := od; have q414 : x8_1 < (l0.length : Int) := od; obtain ⟨ad414, e414, hx414_0⟩ := Kd.at_int HR0.out x8_1 p414 q414
         cases e414
         replace hx414_0 := cl HB hx414_0; replace p414 := eq_true p414; replace q414 := eq_true q414
         go_wp2_with (first | ((with_reducible refine gate_dst (N := 27) rfl ?_); refine Kd.R_lit (Kd.int .i64) _ 3 ?hg (N := 27) ?hd (xs := ([rd l0 x8_1] : List Int)) (inner := [.int .i64 (rd l0 x8_1)]) (ok := fun _ => True) (okp := fun _ => True) ?hr ?hp (fun _ hk => hk) trivial (Below.refl _ _) (Nat.le_refl _) (by simp) ?_; (case hd => rfl); (case hg => rfl); (case hr => first | (go_simp; done) | (go_simp; rfl)); (case hp => exact (Reps.one (show Kd.M (Kd.int .i64) _ _ _ (rd l0 x8_1) [.int .i64 (rd l0 x8_1)] from rfl) (Reps.none _ _))); intro v416 w12 ho13 hb hg_ hnew_; clear hg_ hnew_; (first | rw [← Ny415.out] at ho13 | (simp only [Int.reduceToNat] at ho13; rw [← Ny415.out] at ho13)); have HO417 := Aside0.mk (Kd.R_lower (Kd.R_new' (Kd.R_new' ho13 (Kd.R_lt (rz HO_6))) (Kd.R_lt (rz HO_7))) sz); replace HO_6 := Aside0.mk (Kd.R_elder' (rz HO_6) (Kd.R_base ho13) hb); replace HO_7 := Aside0.mk (Kd.R_elder' (rz HO_7) (Kd.R_base ho13) hb); replace HB := bp hb; clear hb ho13; obtain ⟨Ao15, co15, eo15⟩ := Kd.R_slice HO_7.out; subst eo15) | ((with_reducible refine gate_builtin (b := .append) (xs := #[.tmp 28, .tmp 29]) rfl ?_); at_builtin; refine Kd.R_append_rows (Kd.int .i64) (w0 := w) w.heap.size rfl (.tmp 28) (.tmp 29) 93 3 (.int .i64 0) 8 rfl Try.underlying93 info3 rfl (by decide) (by omega) v416 y415 x7_1 _ _ _ (fun k_ => some k_ ≠ (v409 : Value).ownBlock ∧ some k_ ≠ (.slice Ao15 x7_1.length co15 : Value).ownBlock) (fun _ => False) rfl rfl ?aO ?aR (fun _ _ h => h) (fun _ h => h.elim) ?aF ?aB ?aS ?aL ?_; (case aR => repeat (first | exact (Kd.R_reads' HO_7.out).2.2 | (with_reducible refine Kd.C_alloc ?_ _) | (with_reducible refine Kd.C_drewN ?_ _) | (with_reducible refine Kd.C_drew ?_))); (case aB => exact bz); (case aF => exact (fun k_ hk => ⟨Kd.fresh' (Kd.R_lt (rz HO_6)) k_ hk, Kd.fresh' (Kd.R_lt (rz HO_7)) k_ hk⟩)); (case aO => exact (by (with_reducible repeat (first | apply Kd.R_alloc | apply Kd.R_drewN | apply Kd.R_drew)); exact Kd.R_mono HO417.out (fun _ hk => ⟨hk.1.2, hk.2⟩))); (case aS => exact sz); (case aL => have := LMc10.out; omega); intro v419 w14 ho hb hg hat; rw [← Ny418.out] at ho; replace HO_6 := Aside0.mk (Kd.R_after (ok := (fun k_ => some k_ ≠ (.slice Ao15 x7_1.length co15 : Value).ownBlock)) (rz HO_6) hg hat); replace HO_7 := Aside0.mk (Kd.R_after (ok := (fun k_ => some k_ ≠ (v409 : Value).ownBlock)) (rz HO_7) hg hat); replace HB := Aside0.mk (hb); have HO420 := Aside0.mk (ho); clear HO417; clear ho hb hg hat; obtain ⟨Ao16, co16, eo16⟩ := Kd.R_slice HO420.out; subst eo16) | ((with_reducible refine gate_callee (f := 154) rfl ?_); refine zC 31 Try.func154 #[.slice Ao16 y418.length co16] ?_; (with_reducible refine (dioramaref02_trimmed.calls k1 (fun k_ => some k_ = (.slice Ao16 y418.length co16 : Value).ownBlock) (.slice Ao16 y418.length co16) y418 t421 w _ ?side1 ?side2 A11.out).mono ?_); (case side1 => repeat (first | (with_reducible first | exact HB.out | apply below_alloc | apply pw_below_drewN | apply below_drew1) | exact HB.out)); (case side2 => exact Kd.R_tight rfl HO420.out); rintro e w17 ⟨v422, rfl, ho0, hb, hkp⟩; refine ⟨_, rfl, ?_⟩; have HO423 := Aside0.mk (Kd.R_mono (ok' := fun k_ => some k_ ≠ (v409 : Value).ownBlock ∧ some k_ ≠ (.slice Ao15 x7_1.length co15 : Value).ownBlock) ho0 (fun k_ hk_ => ⟨Or.elim hk_ (fun hs_ => fun e_ => (((HO_6.out).1 k_ e_.symm).2) hs_) (fun hn_ => (Kd.fresh' (Kd.R_lt (rz HO_6)) k_ hn_)), Or.elim hk_ (fun hs_ => fun e_ => (((HO_7.out).1 k_ e_.symm).2) hs_) (fun hn_ => (Kd.fresh' (Kd.R_lt (rz HO_7)) k_ hn_))⟩)); replace HO_6 := Aside0.mk (Kd.R_mono (ok' := fun k_ => some k_ ≠ (.slice Ao15 x7_1.length co15 : Value).ownBlock ∧ some k_ ≠ (v422 : Value).ownBlock) (Kd.R_keptB (HO_6.out) hkp (fun k_ hk_ hs_ => (hk_.2) hs_)) (fun k_ hk_ => ⟨hk_.1.1, fun e_ => Or.elim (ho0.1 k_ e_.symm) (fun hs_ => hk_.2.1 hs_) (fun hn_ => Nat.not_le.2 hk_.2.2 hn_)⟩)); replace HO_7 := Aside0.mk (Kd.R_mono (ok' := fun k_ => some k_ ≠ (v409 : Value).ownBlock ∧ some k_ ≠ (v422 : Value).ownBlock) (Kd.R_keptB (HO_7.out) hkp (fun k_ hk_ hs_ => (hk_.2) hs_)) (fun k_ hk_ => ⟨hk_.1.1, fun e_ => Or.elim (ho0.1 k_ e_.symm) (fun hs_ => hk_.2.1 hs_) (fun hn_ => Nat.not_le.2 hk_.2.2 hn_)⟩)); replace HB := Aside0.mk (hb); clear HO420; clear hb hkp ho0))
         go_loopg [10, 11] k1 (fun kq v10 v11 w' => ∃ (x10_2 : Int) (x11_2 : Int), v10 = .int .i64 x10_2 ∧ v11 = .int .i64 x11_2 ∧ Aside0 (dioramaref02_Over.l1 kq l0 l1 x6_1 t421 x8_1 x10_2 x11_2 = some (r1, r2)) ∧ Aside0 (kq ≤ k1) ∧ Aside0 (Kd.R (Kd.int .i64) 3 w' w.heap.size (fun k_ => some k_ ≠ (v422 : Value).ownBlock) v409 x6_1) ∧ Aside0 (Kd.R (Kd.int .i64) 3 w' w.heap.size (fun k_ => some k_ ≠ (v409 : Value).ownBlock) v422 t421) ∧ Aside0 (Below w.heap.size w w'))
         case atStart => exact ⟨(0), (999999999), jz, jz, H', ⟨Nat.le_refl _⟩, ⟨by (with_reducible repeat (first | apply Kd.R_alloc | apply Kd.R_drewN | apply Kd.R_drew)); exact Kd.R_mono HO_6.out (fun _ hk => hk.2)⟩, ⟨by (with_reducible repeat (first | apply Kd.R_alloc | apply Kd.R_drewN | apply Kd.R_drew)); exact Kd.R_mono HO423.out (fun _ hk => hk.1)⟩, ⟨bz⟩⟩
         case round =>
          clear H'
          try clear c1
          try clear p2
          try clear c3
          try clear c3b0
          try clear c3b1
          try clear c4
          try clear c4b0
          try clear c4b1
          try clear p4
          try clear q4
          try clear hx4
          try clear p6
          try clear c7
          try clear c7b0
          try clear c8
          try clear c8b0
          try clear c9
          try clear c9b0
          try clear c10
          try clear c12
          try clear c15
          try clear hx414_0
          try clear p2
          try clear p414
          try clear p6
          try clear q414
          obtain ⟨x10_2, x11_2, rfl, rfl, HA, HK2, HO_6, HO_7, HB⟩ := hrel
          cases gk with
          | zero => exact absurd HA.out (by simp [dioramaref02_Over.l1])
          | succ k2 =>
           have H := HA.out; clear HA; simp only [dioramaref02_Over.l1] at H
           by_cases c18 : x10_2 < x11_2
           ·rw [if_pos c18] at H; have c18b0 : decide (x10_2 < x11_2) = true := decide_eq_true c18; clear c18; obtain ⟨t434, A19, H⟩ := ob H; obtain ⟨t437, A20, H⟩ := ob H; obtain ⟨t440, A21, H⟩ := ob H
            by_cases c22 : t440 ≤ 0
            ·rw [if_pos c22] at H; have c22b0 : decide (t440 ≤ 0) = true := decide_eq_true c22; clear c22; have H' := Aside0.mk H; clear H
             go_wp2_with (first | ((with_reducible refine gate_callee (f := 121) rfl ?_); refine zC 42 Try.func121 #[.int .i64 (wrap64 (Int.tdiv (wrap64 ((wrap64 (x10_2 + x11_2)) + 1)) 2))] ?_; (with_reducible refine (dioramaref02_Of.calls k2 (wrap64 (Int.tdiv (wrap64 ((wrap64 (x10_2 + x11_2)) + 1)) 2)) t434 _ A19.out).mono ?_); rintro e w23 ⟨v435, rfl, ho0, hb⟩; refine ⟨_, rfl, ?_⟩; have HO436 := Aside0.mk (Kd.R_lower (Kd.R_new' (Kd.R_new' ho0 (Kd.R_lt (rz HO_6))) (Kd.R_lt (rz HO_7))) sz); replace HO_6 := Aside0.mk (Kd.R_elder' (rz HO_6) (Kd.R_base ho0) hb); replace HO_7 := Aside0.mk (Kd.R_elder' (rz HO_7) (Kd.R_base ho0) hb); replace HB := bp hb; clear hb ho0; obtain ⟨Ao24, co24, eo24⟩ := Kd.R_slice HO436.out; subst eo24) | ((with_reducible refine gate_callee (f := 124) rfl ?_); refine zC 43 Try.func124 #[.slice A1 l1.length c1, .slice Ao24 t434.length co24] ?_; (with_reducible refine (dioramaref02_Times.calls k2 _ _ l1 _ _ t434 t437 _ ?side1 ?side2 ?side3 ?side4 A20.out).mono ?_); (case side1 => exact cz HR1); (case side2 => exact HC1.out); (case side3 => exact cr HO436); (case side4 => exact (Kd.R_reads' HO436.out).2.1); rintro e w25 ⟨v438, rfl, ho0, hb⟩; refine ⟨_, rfl, ?_⟩; have HO439 := Aside0.mk (Kd.R_lower (Kd.R_new' (Kd.R_new' (Kd.R_new' ho0 (Kd.R_lt (rz HO_6))) (Kd.R_lt (rz HO_7))) (Kd.R_lt (rz HO436))) sz); replace HO_6 := Aside0.mk (Kd.R_elder' (rz HO_6) (Kd.R_base ho0) hb); replace HO_7 := Aside0.mk (Kd.R_elder' (rz HO_7) (Kd.R_base ho0) hb); replace HO436 := Aside0.mk (Kd.R_elder' (rz HO436) (Kd.R_base ho0) hb); replace HB := bp hb; clear hb ho0; obtain ⟨Ao26, co26, eo26⟩ := Kd.R_slice HO439.out; subst eo26; obtain ⟨Ao27, co27, eo27⟩ := Kd.R_slice HO_7.out; subst eo27) | ((with_reducible refine gate_callee (f := 122) rfl ?_); refine zC 45 Try.func122 #[.slice Ao26 t437.length co26, .slice Ao27 t421.length co27] ?_; (with_reducible refine (dioramaref02_Compare.calls k2 _ _ t437 _ _ t421 t440 _ ?side1 ?side2 ?side3 ?side4 A21.out).mono ?_); (case side1 => exact cr HO439); (case side2 => exact (Kd.R_reads' HO439.out).2.1); (case side3 => exact cr HO_7); (case side4 => exact (Kd.R_reads' HO_7.out).2.1); rintro e w' ⟨rfl, ⟨nd, rfl⟩⟩; refine ⟨_, rfl, ?_⟩))
             go_roundg k2
             case measure => have := HK1.out; have := HK2.out; omega
             case rel => exact ⟨(wrap64 (Int.tdiv (wrap64 ((wrap64 (x10_2 + x11_2)) + 1)) 2)), (x11_2), jz, jz, H', ⟨by have := HK1.out; have := HK2.out; omega⟩, ⟨by (with_reducible repeat (first | apply Kd.R_alloc | apply Kd.R_drewN | apply Kd.R_drew)); exact Kd.R_mono HO_6.out (fun _ hk => hk.1.1)⟩, ⟨by (with_reducible repeat (first | apply Kd.R_alloc | apply Kd.R_drewN | apply Kd.R_drew)); exact Kd.R_mono HO_7.out (fun _ hk => hk.1.1)⟩, ⟨bz⟩⟩
            ·rw [if_neg c22] at H; have c22b0 : decide (t440 ≤ 0) = false := decide_eq_false c22; clear c22; have H' := Aside0.mk H; clear H
             go_wp2_with (first | ((with_reducible refine gate_callee (f := 121) rfl ?_); refine zC 42 Try.func121 #[.int .i64 (wrap64 (Int.tdiv (wrap64 ((wrap64 (x10_2 + x11_2)) + 1)) 2))] ?_; (with_reducible refine (dioramaref02_Of.calls k2 (wrap64 (Int.tdiv (wrap64 ((wrap64 (x10_2 + x11_2)) + 1)) 2)) t434 _ A19.out).mono ?_); rintro e w28 ⟨v435, rfl, ho0, hb⟩; refine ⟨_, rfl, ?_⟩; have HO436 := Aside0.mk (Kd.R_lower (Kd.R_new' (Kd.R_new' ho0 (Kd.R_lt (rz HO_6))) (Kd.R_lt (rz HO_7))) sz); replace HO_6 := Aside0.mk (Kd.R_elder' (rz HO_6) (Kd.R_base ho0) hb); replace HO_7 := Aside0.mk (Kd.R_elder' (rz HO_7) (Kd.R_base ho0) hb); replace HB := bp hb; clear hb ho0; obtain ⟨Ao29, co29, eo29⟩ := Kd.R_slice HO436.out; subst eo29) | ((with_reducible refine gate_callee (f := 124) rfl ?_); refine zC 43 Try.func124 #[.slice A1 l1.length c1, .slice Ao29 t434.length co29] ?_; (with_reducible refine (dioramaref02_Times.calls k2 _ _ l1 _ _ t434 t437 _ ?side1 ?side2 ?side3 ?side4 A20.out).mono ?_); (case side1 => exact cz HR1); (case side2 => exact HC1.out); (case side3 => exact cr HO436); (case side4 => exact (Kd.R_reads' HO436.out).2.1); rintro e w30 ⟨v438, rfl, ho0, hb⟩; refine ⟨_, rfl, ?_⟩; have HO439 := Aside0.mk (Kd.R_lower (Kd.R_new' (Kd.R_new' (Kd.R_new' ho0 (Kd.R_lt (rz HO_6))) (Kd.R_lt (rz HO_7))) (Kd.R_lt (rz HO436))) sz); replace HO_6 := Aside0.mk (Kd.R_elder' (rz HO_6) (Kd.R_base ho0) hb); replace HO_7 := Aside0.mk (Kd.R_elder' (rz HO_7) (Kd.R_base ho0) hb); replace HO436 := Aside0.mk (Kd.R_elder' (rz HO436) (Kd.R_base ho0) hb); replace HB := bp hb; clear hb ho0; obtain ⟨Ao31, co31, eo31⟩ := Kd.R_slice HO439.out; subst eo31; obtain ⟨Ao32, co32, eo32⟩ := Kd.R_slice HO_7.out; subst eo32) | ((with_reducible refine gate_callee (f := 122) rfl ?_); refine zC 45 Try.func122 #[.slice Ao31 t437.length co31, .slice Ao32 t421.length co32] ?_; (with_reducible refine (dioramaref02_Compare.calls k2 _ _ t437 _ _ t421 t440 _ ?side1 ?side2 ?side3 ?side4 A21.out).mono ?_); (case side1 => exact cr HO439); (case side2 => exact (Kd.R_reads' HO439.out).2.1); (case side3 => exact cr HO_7); (case side4 => exact (Kd.R_reads' HO_7.out).2.1); rintro e w' ⟨rfl, ⟨nd, rfl⟩⟩; refine ⟨_, rfl, ?_⟩))
             go_roundg k2
             case measure => have := HK1.out; have := HK2.out; omega
             case rel => exact ⟨(x10_2), (wrap64 ((wrap64 (Int.tdiv (wrap64 ((wrap64 (x10_2 + x11_2)) + 1)) 2)) - 1)), jz, jz, H', ⟨by have := HK1.out; have := HK2.out; omega⟩, ⟨by (with_reducible repeat (first | apply Kd.R_alloc | apply Kd.R_drewN | apply Kd.R_drew)); exact Kd.R_mono HO_6.out (fun _ hk => hk.1.1)⟩, ⟨by (with_reducible repeat (first | apply Kd.R_alloc | apply Kd.R_drewN | apply Kd.R_drew)); exact Kd.R_mono HO_7.out (fun _ hk => hk.1.1)⟩, ⟨bz⟩⟩
           ·rw [if_neg c18] at H; have c18b0 : decide (x10_2 < x11_2) = false := decide_eq_false c18; clear c18
            by_cases c33 : 0 ≤ x8_1
            ·rw [if_pos c33] at H; have c33b0 : decide (0 ≤ x8_1) = true := decide_eq_true c33; clear c33
             by_cases c34 : x8_1 < (x6_1.length : Int)
             ·rw [if_pos c34] at H; have c34b0 : decide (x8_1 < (x6_1.length : Int)) = true := decide_eq_true c34; clear c34; obtain ⟨y424, hy424⟩ : ∃ y_ : List Int, y_ = (x6_1.set (x8_1 : Int).toNat x10_2) := ⟨_, rfl⟩; replace H : ((dioramaref02_Of.f k2 x10_2).bind fun t425 => ((dioramaref02_Times.f k2 l1 t425).bind fun t428 => ((dioramaref02_Minus.f k2 t421 t428).bind fun t431 => (dioramaref02_Over.l0 k2 l0 l1 y424 t431 (wrap64 (x8_1 - 1)))))) = some (r1, r2) := by first | (rw [hy424]; with_reducible exact H) | (have H2_ := (Option.bind_some _ _).symm.trans H; rw [hy424]; with_reducible exact H2_) | (have H2_ := (Option.bind_some _ _).symm.trans H; with_reducible exact H2_) | with_reducible exact H | (rw [hy424]; exact H) | exact H
              have Ny424 := Aside0.mk hy424; clear hy424; obtain ⟨t425, A36, H⟩ := ob H; obtain ⟨t428, A37, H⟩ := ob H; obtain ⟨t431, A38, H⟩ := ob H; have H' := Aside0.mk H; clear H; have p35 : 0 ≤ (x8_1 : Int) := od; have q35 : (x8_1 : Int) < ((x6_1.length : Int) : Int) := od; obtain ⟨go35, co35, eo35, gb35, gl35, cl35, HG35⟩ := Kd.R_form HO_6.out (by omega)
              (first | cases eo35 | (injection eo35 with ea_ en_ ec_; (first | subst ea_ | (injection ea_ with ea_; subst ea_)); subst ec_; clear en_))
              have GB35 := Aside0.mk gb35; have GG35 := Aside0.mk HG35; clear gb35 gl35 HG35; obtain ⟨hx35_0, hf35_0⟩ := Kd.R_celln 0 HO_6.out (x8_1 : Int) p35 q35; replace p35 := eq_true p35; replace q35 := eq_true q35; have HP39 := Kd.R_putg HO_6.out (x8_1 : Int) x10_2
              go_wp2_with (first | ((with_reducible refine gate_store (t := 3) (p := 53) rfl ?_); refine store_event (t := 3) (p := 53) (v := ?vo_w40) (w1 := (wr.setCell ⟨go35, (x8_1 : Int).toNat, none⟩ (.int .i64 x10_2))) ?hg ?ho ?hn ?hr ?_; (case ho => rfl); (case hg => rfl); (case hn => rfl); (case hr => first | (go_simp; done) | (go_simp; rfl)); intro w40 hw; have hg : wr.grownBy w40 (some go35) := (by rw [hw]; exact HP39.2); have hp_ : Kd.R (Kd.int .i64) 3 w40 w.heap.size (fun k_ => some k_ ≠ (v422 : Value).ownBlock) (.slice (some ⟨go35, 0, none⟩) x6_1.length co35) y424 := (by rw [hw, Ny424.out]; exact HP39.1); clear HP39; replace HO_6 := Aside0.mk (hp_); replace HO_7 := Aside0.mk (Kd.R_after (v := (.slice (some ⟨go35, 0, none⟩) x6_1.length co35)) (v1 := (.slice (some ⟨go35, 0, none⟩) x6_1.length co35)) (ok := (fun _ => True)) (by (with_reducible repeat (first | apply Kd.R_alloc | apply Kd.R_drewN | apply Kd.R_drew)); exact Kd.R_mono HO_7.out (fun _ hk => ⟨trivial, hk⟩)) hg (.inl rfl)); replace HB := Aside0.mk ((by rw [hw]; exact below_set (HB.out) GB35.out : Below w.heap.size w w40)); clear hg hw hp_) | ((with_reducible refine gate_callee (f := 121) rfl ?_); refine zC 57 Try.func121 #[.int .i64 x10_2] ?_; (with_reducible refine (dioramaref02_Of.calls k2 x10_2 t425 _ A36.out).mono ?_); rintro e w41 ⟨v426, rfl, ho0, hb⟩; refine ⟨_, rfl, ?_⟩; have HO427 := Aside0.mk (Kd.R_lower (Kd.R_new' (Kd.R_new' ho0 (Kd.R_lt (rz HO_6))) (Kd.R_lt (rz HO_7))) sz); replace HO_6 := Aside0.mk (Kd.R_elder' (rz HO_6) (Kd.R_base ho0) hb); replace HO_7 := Aside0.mk (Kd.R_elder' (rz HO_7) (Kd.R_base ho0) hb); replace HB := bp hb; clear hb ho0; obtain ⟨Ao42, co42, eo42⟩ := Kd.R_slice HO427.out; subst eo42) | ((with_reducible refine gate_callee (f := 124) rfl ?_); refine zC 58 Try.func124 #[.slice A1 l1.length c1, .slice Ao42 t425.length co42] ?_; (with_reducible refine (dioramaref02_Times.calls k2 _ _ l1 _ _ t425 t428 _ ?side1 ?side2 ?side3 ?side4 A37.out).mono ?_); (case side1 => exact cz HR1); (case side2 => exact HC1.out); (case side3 => exact cr HO427); (case side4 => exact (Kd.R_reads' HO427.out).2.1); rintro e w43 ⟨v429, rfl, ho0, hb⟩; refine ⟨_, rfl, ?_⟩; have HO430 := Aside0.mk (Kd.R_lower (Kd.R_new' (Kd.R_new' (Kd.R_new' ho0 (Kd.R_lt (rz HO_6))) (Kd.R_lt (rz HO_7))) (Kd.R_lt (rz HO427))) sz); replace HO_6 := Aside0.mk (Kd.R_elder' (rz HO_6) (Kd.R_base ho0) hb); replace HO_7 := Aside0.mk (Kd.R_elder' (rz HO_7) (Kd.R_base ho0) hb); replace HO427 := Aside0.mk (Kd.R_elder' (rz HO427) (Kd.R_base ho0) hb); replace HB := bp hb; clear hb ho0; obtain ⟨Ao44, co44, eo44⟩ := Kd.R_slice HO_7.out; subst eo44; obtain ⟨Ao45, co45, eo45⟩ := Kd.R_slice HO430.out; subst eo45) | ((with_reducible refine gate_callee (f := 138) rfl ?_); refine zC 59 Try.func138 #[.slice Ao44 t421.length co44, .slice Ao45 t428.length co45] ?_; (with_reducible refine (dioramaref02_Minus.calls k2 _ _ t421 _ _ t428 t431 _ ?side1 ?side2 ?side3 ?side4 A38.out).mono ?_); (case side1 => exact cr HO_7); (case side2 => exact (Kd.R_reads' HO_7.out).2.1); (case side3 => exact cr HO430); (case side4 => exact (Kd.R_reads' HO430.out).2.1); rintro e w46 ⟨v432, rfl, ho0, hb⟩; refine ⟨_, rfl, ?_⟩; have HO433 := Aside0.mk (Kd.R_lower (Kd.R_new' (Kd.R_new' (Kd.R_new' (Kd.R_new' ho0 (Kd.R_lt (rz HO_6))) (Kd.R_lt (rz HO_7))) (Kd.R_lt (rz HO427))) (Kd.R_lt (rz HO430))) sz); replace HO_6 := Aside0.mk (Kd.R_elder' (rz HO_6) (Kd.R_base ho0) hb); replace HO_7 := Aside0.mk (Kd.R_elder' (rz HO_7) (Kd.R_base ho0) hb); replace HO427 := Aside0.mk (Kd.R_elder' (rz HO427) (Kd.R_base ho0) hb); replace HO430 := Aside0.mk (Kd.R_elder' (rz HO430) (Kd.R_base ho0) hb); replace HB := bp hb; clear hb ho0))
              go_roundg k2
              case measure => have := HK1.out; have := HK2.out; omega
              case rel => exact ⟨(y424), (t431), (wrap64 (x8_1 - 1)), jz, H', ⟨by have := HK1.out; have := HK2.out; omega⟩, ⟨by (with_reducible repeat (first | apply Kd.R_alloc | apply Kd.R_drewN | apply Kd.R_drew)); exact Kd.R_mono HO_6.out (fun _ hk => hk.2)⟩, ⟨by (with_reducible repeat (first | apply Kd.R_alloc | apply Kd.R_drewN | apply Kd.R_drew)); exact Kd.R_mono HO433.out (fun _ hk => hk.1.1.1.2)⟩, ⟨bz⟩⟩
             ·rw [if_neg c34] at H
              exact absurd H (by simp)
            ·rw [if_neg c33] at H
             exact absurd H (by simp)
        ·rw [if_neg c10] at H
         exact absurd H (by simp)
       ·rw [if_neg c9] at H
        exact absurd H (by simp)
      ·rw [if_neg c8] at H
       exact absurd H (by simp)
     ·rw [if_neg c7] at H; have c7b0 : decide (0 ≤ x8_1) = false := decide_eq_false c7; clear c7; obtain ⟨t411, A47, H⟩ := ob H; simp only [Option.some.injEq, Prod.mk.injEq] at H; obtain ⟨rfl, rfl⟩ := H; obtain ⟨Ao48, co48, eo48⟩ := Kd.R_slice HO_6.out; subst eo48
      go_wp2_with (first | ((with_reducible refine gate_callee (f := 154) rfl ?_); refine zC 61 Try.func154 #[.slice Ao48 x6_1.length co48] ?_; (with_reducible refine (dioramaref02_trimmed.calls k1 (fun k_ => some k_ = (.slice Ao48 x6_1.length co48 : Value).ownBlock) (.slice Ao48 x6_1.length co48) x6_1 t411 w _ ?side1 ?side2 A47.out).mono ?_); (case side1 => repeat (first | (with_reducible first | exact HB.out | apply below_alloc | apply pw_below_drewN | apply below_drew1) | exact HB.out)); (case side2 => exact Kd.R_tight rfl HO_6.out); rintro e w49 ⟨v412, rfl, ho0, hb, hkp⟩; refine ⟨_, rfl, ?_⟩; have HO413 := Aside0.mk (Kd.R_mono (ok' := fun k_ => some k_ ≠ (u7 : Value).ownBlock) ho0 (fun k_ hk_ => Or.elim hk_ (fun hs_ => fun e_ => (((HO_7.out).1 k_ e_.symm)) hs_) (fun hn_ => (Kd.fresh' (Kd.R_lt (rz HO_7)) k_ hn_)))); replace HO_7 := Aside0.mk (Kd.R_mono (ok' := fun k_ => some k_ ≠ (v412 : Value).ownBlock) (Kd.R_keptB (HO_7.out) hkp (fun k_ hk_ hs_ => (hk_) hs_)) (fun k_ hk_ => fun e_ => Or.elim (ho0.1 k_ e_.symm) (fun hs_ => hk_.2.1 hs_) (fun hn_ => Nat.not_le.2 hk_.2.2 hn_))); replace HB := Aside0.mk (hb); clear HO_6; clear hb hkp ho0))
      go_ret2
      exact ⟨_, _, ez, by (with_reducible repeat (first | apply Kd.R_alloc | apply Kd.R_drewN | apply Kd.R_drew)); exact HO413.out, by (with_reducible repeat (first | apply Kd.R_alloc | apply Kd.R_drewN | apply Kd.R_drew)); exact HO_7.out, bz⟩
  ·rw [if_neg c4] at H
   exact absurd H (by simp)
 ·rw [if_neg c3] at H
  exact absurd H (by simp)
def dioramaref02_Valid.f (a0_0 : Int) (a0_1 : Int) : Option (Bool) := if a0_1 ≥ 1 then (if a0_1 ≤ 1152921504606846976 then (if a0_0 ≥ (-1152921504606846976) then (some (decide (a0_0 ≤ 1152921504606846976))) else (some false)) else (some false)) else (some false)
set_option maxHeartbeats 8000000 in
set_option maxRecDepth 100000 in
theorem dioramaref02_Valid.calls (a0_0 : Int) (a0_1 : Int) (r : Bool) (w : World) (h : dioramaref02_Valid.f a0_0 a0_1 = some r) :
  Calls Try.prog 35 #[.agg #[.int .i64 a0_0, .int .i64 a0_1]] w fun e w' => e = .returned (.bool r) ∧ Below w.heap.size w w' := by
 have hu37 := Try.underlying37; have HB := Aside0.mk (Below.refl w.heap.size w); have H : (if a0_1 ≥ 1 then (if a0_1 ≤ 1152921504606846976 then (if a0_0 ≥ (-1152921504606846976) then (some (decide (a0_0 ≤ 1152921504606846976))) else (some false)) else (some false)) else (some false)) = some r := h; clear h
 by_cases c2 : a0_1 ≥ 1
 ·rw [if_pos c2] at H; have c2b0 : decide (1 ≤ a0_1) = true := decide_eq_true c2; clear c2
  by_cases c3 : a0_1 ≤ 1152921504606846976
  ·rw [if_pos c3] at H; have c3b0 : decide (a0_1 ≤ 1152921504606846976) = true := decide_eq_true c3; clear c3
   by_cases c4 : a0_0 ≥ (-1152921504606846976)
   ·rw [if_pos c4] at H; have c4b0 : decide ((-1152921504606846976) ≤ a0_0) = true := decide_eq_true c4; clear c4; obtain rfl := Option.some.inj H
    go_enter Try.func35, Try.ntmps35
    go_wp2_with (first | ((with_reducible refine gate_dst (N := 1) rfl ?_); refine zB 1 37 #[.int .i64 a0_0, .int .i64 a0_1] ?_; intro gb702 hg w5 hbox hb; have BK702 := Aside0.mk hbox; have GW702 := gz hg; have GE702 := gz hg; replace HB := bp hb; clear hb hbox hg; obtain ⟨hcz6_0, hcz6_1, hfz6_0, hfz6_1⟩ := xc2 BK702))
    go_ret
    exact ⟨ez, bz⟩
   ·rw [if_neg c4] at H; have c4b0 : decide ((-1152921504606846976) ≤ a0_0) = false := decide_eq_false c4; clear c4; obtain rfl := Option.some.inj H
    go_enter Try.func35, Try.ntmps35
    go_wp2_with (first | ((with_reducible refine gate_dst (N := 1) rfl ?_); refine zB 1 37 #[.int .i64 a0_0, .int .i64 a0_1] ?_; intro gb702 hg w7 hbox hb; have BK702 := Aside0.mk hbox; have GW702 := gz hg; have GE702 := gz hg; replace HB := bp hb; clear hb hbox hg; obtain ⟨hcz8_0, hcz8_1, hfz8_0, hfz8_1⟩ := xc2 BK702))
    go_ret
    exact ⟨ez, bz⟩
  ·rw [if_neg c3] at H; have c3b0 : decide (a0_1 ≤ 1152921504606846976) = false := decide_eq_false c3; clear c3; obtain rfl := Option.some.inj H
   go_enter Try.func35, Try.ntmps35
   go_wp2_with (first | ((with_reducible refine gate_dst (N := 1) rfl ?_); refine zB 1 37 #[.int .i64 a0_0, .int .i64 a0_1] ?_; intro gb702 hg w9 hbox hb; have BK702 := Aside0.mk hbox; have GW702 := gz hg; have GE702 := gz hg; replace HB := bp hb; clear hb hbox hg; obtain ⟨hcz10_0, hcz10_1, hfz10_0, hfz10_1⟩ := xc2 BK702))
   go_ret
   exact ⟨ez, bz⟩
 ·rw [if_neg c2] at H; have c2b0 : decide (1 ≤ a0_1) = false := decide_eq_false c2; clear c2; obtain rfl := Option.some.inj H
  go_enter Try.func35, Try.ntmps35
  go_wp2_with (first | ((with_reducible refine gate_dst (N := 1) rfl ?_); refine zB 1 37 #[.int .i64 a0_0, .int .i64 a0_1] ?_; intro gb702 hg w11 hbox hb; have BK702 := Aside0.mk hbox; have GW702 := gz hg; have GE702 := gz hg; replace HB := bp hb; clear hb hbox hg; obtain ⟨hcz12_0, hcz12_1, hfz12_0, hfz12_1⟩ := xc2 BK702))
  go_ret
  exact ⟨ez, bz⟩
def dioramaref02_size.f (k : Nat) (a0 : Int) : Option (List Int) := if a0 < 0 then ((dioramaref02_Of.f k (wrap64 (-a0))).bind fun t703 => (some t703)) else ((dioramaref02_Of.f k a0).bind fun t706 => (some t706))
set_option maxHeartbeats 8000000 in
set_option maxRecDepth 100000 in
theorem dioramaref02_size.calls (k : Nat) (a0 : Int) (r : List Int) (w : World) (h : dioramaref02_size.f k a0 = some r) :
  Calls Try.prog 133 #[.int .i64 a0] w fun e w' => ∃ v0_ : Value, e = .returned (v0_) ∧ Kd.R (Kd.int .i64) 3 w' w.heap.size (fun _ => True) v0_ r ∧ Below w.heap.size w w' := by
 have HB := Aside0.mk (Below.refl w.heap.size w); have H : (if a0 < 0 then ((dioramaref02_Of.f k (wrap64 (-a0))).bind fun t703 => (some t703)) else ((dioramaref02_Of.f k a0).bind fun t706 => (some t706))) = some r := h
 clear h
 by_cases c2 : a0 < 0
 ·rw [if_pos c2] at H; have c2b0 : decide (a0 < 0) = true := decide_eq_true c2; clear c2; obtain ⟨t703, A3, H⟩ := ob H; obtain rfl := Option.some.inj H
  go_enter Try.func133, Try.ntmps133
  go_wp2_with (first | ((with_reducible refine gate_callee (f := 121) rfl ?_); refine zC 7 Try.func121 #[.int .i64 (wrap64 (-a0))] ?_; (with_reducible refine (dioramaref02_Of.calls k (wrap64 (-a0)) t703 _ A3.out).mono ?_); rintro e w4 ⟨v704, rfl, ho0, hb⟩; refine ⟨_, rfl, ?_⟩; have HO705 := Aside0.mk (Kd.R_lower ho0 sz); replace HB := bp hb; clear hb ho0))
  go_ret
  exact ⟨_, ez, by (with_reducible repeat (first | apply Kd.R_alloc | apply Kd.R_drewN | apply Kd.R_drew)); exact HO705.out, bz⟩
 ·rw [if_neg c2] at H; have c2b0 : decide (a0 < 0) = false := decide_eq_false c2; clear c2; obtain ⟨t706, A5, H⟩ := ob H; obtain rfl := Option.some.inj H
  go_enter Try.func133, Try.ntmps133
  go_wp2_with (first | ((with_reducible refine gate_callee (f := 121) rfl ?_); refine zC 9 Try.func121 #[.int .i64 a0] ?_; (with_reducible refine (dioramaref02_Of.calls k a0 t706 _ A5.out).mono ?_); rintro e w6 ⟨v707, rfl, ho0, hb⟩; refine ⟨_, rfl, ?_⟩; have HO708 := Aside0.mk (Kd.R_lower ho0 sz); replace HB := bp hb; clear hb ho0))
  go_ret
  exact ⟨_, ez, by (with_reducible repeat (first | apply Kd.R_alloc | apply Kd.R_drewN | apply Kd.R_drew)); exact HO708.out, bz⟩
def dioramaref02_RatOf.f (k : Nat) (a0_0 : Int) (a0_1 : Int) : Option (Bool × List Int × List Int) := (dioramaref02_size.f k a0_0).bind fun t711 => ((dioramaref02_Of.f k a0_1).bind fun t714 => (some (decide (a0_0 < 0), t711, t714)))
set_option maxHeartbeats 8000000 in
set_option maxRecDepth 100000 in
theorem dioramaref02_RatOf.calls (k : Nat) (a0_0 : Int) (a0_1 : Int) (r1 : Bool) (r2 : List Int) (r3 : List Int) (w : World) (h : dioramaref02_RatOf.f k a0_0 a0_1 = some (r1, r2, r3)) :
  Calls Try.prog 85 #[.agg #[.int .i64 a0_0, .int .i64 a0_1]] w fun e w' => ∃ v1_ v2_ : Value, e = .returned (.agg #[.bool r1, v1_, v2_]) ∧ Kd.R (Kd.int .i64) 3 w' w.heap.size (fun k_ => some k_ ≠ (v2_ : Value).ownBlock) v1_ r2 ∧ Kd.R (Kd.int .i64) 3 w' w.heap.size (fun k_ => some k_ ≠ (v1_ : Value).ownBlock) v2_ r3 ∧ Below w.heap.size w w' := by
 have hu37 := Try.underlying37; have hu95 := Try.underlying95; have HB := Aside0.mk (Below.refl w.heap.size w); have H : ((dioramaref02_size.f k a0_0).bind fun t711 => ((dioramaref02_Of.f k a0_1).bind fun t714 => (some (decide (a0_0 < 0), t711, t714)))) = some (r1, r2, r3) := h
 clear h; obtain ⟨t711, A2, H⟩ := ob H; obtain ⟨t714, A3, H⟩ := ob H; simp only [Option.some.injEq, Prod.mk.injEq] at H; obtain ⟨rfl, rfl, rfl⟩ := H
 go_enter Try.func85, Try.ntmps85
 try go_wp2_with (first | ((with_reducible refine gate_dst (N := 1) rfl ?_); refine zB 1 37 #[.int .i64 a0_0, .int .i64 a0_1] ?_; intro gb709 hg w4 hbox hb; have BK709 := Aside0.mk hbox; have GW709 := gz hg; have GE709 := gz hg; replace HB := bp hb; clear hb hbox hg) | ((with_reducible refine gate_dst (N := 2) rfl ?_); refine zB 2 95 #[.bool false, .slice none 0 0, .slice none 0 0] ?_; intro gb710 hg w5 hbox hb; have BK710 := Aside0.mk hbox; have GW710 := gz hg; have GE710 := gz hg; replace HB := bp hb; have NB709_710 := Aside0.mk ((by rw [hg]; exact Nat.ne_of_lt (bl BK709) : gb709 ≠ gb710)); have NB710_709 := Aside0.mk ((by rw [hg]; exact Nat.ne_of_gt (bl BK709) : gb710 ≠ gb709)); replace BK709 := kb BK709 hb; clear hb hbox hg))
 replace BK709 := Aside0.mk (blk_drew BK709.out); replace BK710 := Aside0.mk (blk_drew BK710.out); replace HB := Aside0.mk (below_drew1 HB.out); refine start_ (n := 11) (S := fun w' => w'.cell? ⟨gb709, 0, none⟩ = some (.int .i64 a0_0) ∧ w'.cell? ⟨gb709, 1, none⟩ = some (.int .i64 a0_1)) (ds := []) (bs 11 0) (by kernel_rfl) rfl rfl ⟨ct BK709 0, ct BK709 1⟩ (fun hHeld => ?_)
 generalize w5.drew = w6 at BK709 BK710 HB hHeld ⊢; refine zP 0 3 11 1 ?_; refine zP 3 6 11 9 ?_; refine zP 6 9 11 73 ?_; refine zT 1 4 11 75 hHeld ?_; refine zP 2 5 11 79 ?_; refine zT 4 7 11 95 hHeld ?_; refine zT 7 10 11 223 hHeld ?_; refine zN 5 (some 8) 11 255 (fun K hK => ?_); refine zG Try.func133 #[.int .i64 a0_0] ?_
 with_reducible refine (dioramaref02_size.calls k a0_0 t711 _ A2.out).mono ?_
 rintro e w7 ⟨v712, rfl, ho0, hb⟩; refine ⟨_, rfl, ?_⟩; have HO713 := Aside0.mk (Kd.R_lower ho0 sz); replace BK709 := kb BK709 hb; replace BK710 := kb BK710 hb; replace HB := bp hb; clear hb ho0; refine hK.out _ _ ⟨ct BK709 0, ct BK709 1⟩ (fun hHeld => ?_); clear hK K; refine zM 8 ?_; refine zN 8 (some 11) 11 511 (fun K hK => ?_); refine zG Try.func121 #[.int .i64 a0_1] ?_
 with_reducible refine (dioramaref02_Of.calls k a0_1 t714 _ A3.out).mono ?_
 rintro e w8 ⟨v715, rfl, ho0, hb⟩; refine ⟨_, rfl, ?_⟩; have HO716 := Aside0.mk (Kd.R_lower (Kd.R_new' ho0 (Kd.R_lt (rz HO713))) sz); replace HO713 := Aside0.mk (Kd.R_elder' (rz HO713) (Kd.R_base ho0) hb); replace BK709 := kb BK709 hb; replace BK710 := kb BK710 hb; replace HB := bp hb; clear hb ho0; obtain ⟨Ao9, co9, eo9⟩ := Kd.R_slice HO716.out
 (first | subst eo9 | (injection eo9 with f1_ f2_ f3_; have f4_ := f1_.symm; have f5_ := f3_.symm; clear f1_ f2_ f3_; subst f4_; subst f5_))
 obtain ⟨Ao10, co10, eo10⟩ := Kd.R_slice HO713.out
 (first | subst eo10 | (injection eo10 with f1_ f2_ f3_; have f4_ := f1_.symm; have f5_ := f3_.symm; clear f1_ f2_ f3_; subst f4_; subst f5_))
 refine hK.out _ _ ⟨ct BK709 0, ct BK709 1⟩ (fun hHeld => ?_); clear hK K; refine zM 11 ?_; refine zP 9 12 11 1023 ?_; refine zN 10 none 11 2047 (fun K hK => ?_); have hs11 : w8.cell? ⟨gb710, 0, none⟩ = some (.bool false) := ct BK710 0; have hfs11 := blk_frozen BK710.out 0; have hns11_0 := NB709_710.out; have hms11_0 := NB710_709.out; have hs12 : w8.cell? ⟨gb710, 1, none⟩ = some (.slice none 0 0) := ct BK710 1; have hfs12 := blk_frozen BK710.out 1; have hns12_0 := NB709_710.out; have hms12_0 := NB710_709.out; have hs13 : w8.cell? ⟨gb710, 2, none⟩ = some (.slice none 0 0) := ct BK710 2; have hfs13 := blk_frozen BK710.out 2; have hns13_0 := NB709_710.out; have hms13_0 := NB710_709.out; refine skip_ (w1 := ?_) (by rfl) rfl ?_ ?_
 rotate_left
 ·go_simp
  rfl
 refine hK.out _ _ ⟨((cell_far (p := ⟨gb710, _, none⟩) NB709_710.out _).trans (((cell_far (p := ⟨gb710, _, none⟩) NB709_710.out _).trans (((cell_far (p := ⟨gb710, _, none⟩) NB709_710.out _).trans (hHeld.1)))))), ((cell_far (p := ⟨gb710, _, none⟩) NB709_710.out _).trans (((cell_far (p := ⟨gb710, _, none⟩) NB709_710.out _).trans (((cell_far (p := ⟨gb710, _, none⟩) NB709_710.out _).trans (hHeld.2))))))⟩ (fun hHeld => ?_); clear hK K; refine done_ (by kernel_rfl) ?_
 try go_wp2
 refine bodyPost_ret (results_cell_row rfl _ _ gb710 95 #[.bool (decide (a0_0 < 0)), .slice Ao10 t711.length co10, .slice Ao9 t714.length co9] (0, 0) _ rfl (by (with_reducible repeat (first | refine blk_drewN ?_ _ | refine blk_drew ?_ | refine blk_alloc ?_ _)); refine blk_put (cs := #[.bool (decide (a0_0 < 0)), .slice Ao10 t711.length co10, .slice none 0 0]) ?_ 2 _ rfl; (with_reducible repeat (first | refine blk_drewN ?_ _ | refine blk_drew ?_ | refine blk_alloc ?_ _)); refine blk_put (cs := #[.bool (decide (a0_0 < 0)), .slice none 0 0, .slice none 0 0]) ?_ 1 _ rfl; (with_reducible repeat (first | refine blk_drewN ?_ _ | refine blk_drew ?_ | refine blk_alloc ?_ _)); refine blk_put (cs := #[.bool false, .slice none 0 0, .slice none 0 0]) ?_ 0 _ rfl; (with_reducible repeat (first | refine blk_drewN ?_ _ | refine blk_drew ?_ | refine blk_alloc ?_ _)); exact BK710.out) Try.underlying95 rfl (by kernel_rfl)) rfl ?_
 exact ⟨_, _, ez, by (with_reducible repeat (first | apply Kd.R_alloc | apply Kd.R_drewN | apply Kd.R_drew)); exact Kd.R_mono (Kd.R_far (p := ⟨gb710, 2, none⟩) (Kd.R_far (p := ⟨gb710, 1, none⟩) (Kd.R_far (p := ⟨gb710, 0, none⟩) (Kd.R_types HO713.out BK710.out (by decide)) (fun _ hk => hk.2) (.bool (decide (a0_0 < 0)))) (fun _ hk => hk.2) (.slice Ao10 t711.length co10)) (fun _ hk => hk.2) (.slice Ao9 t714.length co9)) (fun _ hk => hk.1.2), by (with_reducible repeat (first | apply Kd.R_alloc | apply Kd.R_drewN | apply Kd.R_drew)); exact Kd.R_mono (Kd.R_far (p := ⟨gb710, 2, none⟩) (Kd.R_far (p := ⟨gb710, 1, none⟩) (Kd.R_far (p := ⟨gb710, 0, none⟩) (Kd.R_types HO716.out BK710.out (by decide)) (fun _ hk => hk.2) (.bool (decide (a0_0 < 0)))) (fun _ hk => hk.2) (.slice Ao10 t711.length co10)) (fun _ hk => hk.2) (.slice Ao9 t714.length co9)) (fun _ hk => hk.1.2), bz⟩
mutual
def dioramaref02_Time.l0 : Nat → List Int → List Int → Bool → List Int → List Int → Option (Int × Int × Int)
  | 0, _, _, _, _, _ => none
  | k + 1, x4, x5, x718000, x718001, x718002 => if (x5.length : Int) > 0 then ((dioramaref02_Over.f k x4 x5).bind fun bt719 => (dioramaref02_Time.l0 k x5 bt719.2 x718000 x718001 x718002)) else ((dioramaref02_Over.f k x718001 x4).bind fun bt725 => ((dioramaref02_Over.f k x718002 x4).bind fun bt731 => ((dioramaref02_Small.f k bt725.1 1152921504606846976).bind fun bt737 => ((dioramaref02_Small.f k bt731.1 1152921504606846976).bind fun bt739 => (if bt737.2 = true then (dioramaref02_Time.j1 k bt737.1 bt739.1 (!bt739.2) x718000 x718001 x718002) else (dioramaref02_Time.j1 k bt737.1 bt739.1 true x718000 x718001 x718002))))))
def dioramaref02_Time.j1 : Nat → Int → Int → Bool → Bool → List Int → List Int → Option (Int × Int × Int)
  | 0, _, _, _, _, _, _ => none
  | k + 1, x12, x14, x65, x718000, x718001, x718002 => if x65 = true then (some (0, 0, 2)) else (if x718000 = true then (some (wrap64 (-x12), x14, 0)) else (some (x12, x14, 0)))
end
def dioramaref02_Time.f (k : Nat) (a0_0 : Bool) (l0_1 : List Int) (l0_2 : List Int) : Option (Int × Int × Int) := if (l0_1.length : Int) = 0 then (some (0, 1, 0)) else (dioramaref02_Time.l0 k l0_1 l0_2 a0_0 l0_1 l0_2)
set_option maxHeartbeats 8000000 in
set_option maxRecDepth 100000 in
theorem dioramaref02_Time.calls (k : Nat) (a0_0 : Bool) (P0_1_ : Nat → Prop) (A0_1 : Option Addr) (c0_1 : Nat) (l0_1 : List Int) (P0_2_ : Nat → Prop) (A0_2 : Option Addr) (c0_2 : Nat) (l0_2 : List Int) (r1 : Int) (r2 : Int) (r3 : Int) (w : World) (hs0_1 : Kd.V (Kd.int .i64) 3 w w.heap.size (fun k_ => P0_1_ k_) (.slice A0_1 l0_1.length c0_1) l0_1) (hs0_2 : Kd.V (Kd.int .i64) 3 w w.heap.size (fun k_ => P0_2_ k_) (.slice A0_2 l0_2.length c0_2) l0_2) (h : dioramaref02_Time.f k a0_0 l0_1 l0_2 = some (r1, r2, r3)) :
  Calls Try.prog 87 #[.agg #[.bool a0_0, .slice A0_1 l0_1.length c0_1, .slice A0_2 l0_2.length c0_2]] w fun e w' => e = .returned (.tuple #[.agg #[.int .i64 r1, .int .i64 r2], .int .i64 r3]) ∧ Below w.heap.size w w' := by
 have hu95 := Try.underlying95; have hu37 := Try.underlying37; have HO0_1 := Aside0.mk (show Kd.V (Kd.int .i64) 3 w w.heap.size (fun k_ => ((P0_1_ k_ ∨ P0_2_ k_) ∨ w.heap.size ≤ k_)) (.slice A0_1 l0_1.length c0_1) l0_1 from Kd.V_mono hs0_1 (fun k_ hk => .inl (.inl hk)))
 have HO0_2 := Aside0.mk (show Kd.V (Kd.int .i64) 3 w w.heap.size (fun k_ => ((P0_1_ k_ ∨ P0_2_ k_) ∨ w.heap.size ≤ k_)) (.slice A0_2 l0_2.length c0_2) l0_2 from Kd.V_mono hs0_2 (fun k_ hk => .inl (.inr hk)))
 have HB := Aside0.mk (Below.refl w.heap.size w); have H : (if (l0_1.length : Int) = 0 then (some (0, 1, 0)) else (dioramaref02_Time.l0 k l0_1 l0_2 a0_0 l0_1 l0_2)) = some (r1, r2, r3) := h; clear h
 by_cases c2 : (l0_1.length : Int) = 0
 ·rw [if_pos c2] at H; have c2b0 : ((l0_1.length : Int) == 0) = true := beq_iff_eq.mpr c2; have c2b1 : ((l0_1.length : Int) != 0) = false := bne_eq_false_iff_eq.mpr c2; clear c2; simp only [Option.some.injEq, Prod.mk.injEq] at H; obtain ⟨rfl, rfl, rfl⟩ := H
  go_enter Try.func87, Try.ntmps87
  go_wp2_with (first | ((with_reducible refine gate_dst (N := 1) rfl ?_); refine zB 1 95 #[.bool a0_0, .slice A0_1 l0_1.length c0_1, .slice A0_2 l0_2.length c0_2] ?_; intro gb717 hg w3 hbox hb; replace HO0_1 := Aside0.mk (Kd.V_below (Kd.V_elderB (by (with_reducible repeat (first | apply Kd.V_alloc | apply Kd.V_drewN | apply Kd.V_drew)); exact HO0_1.out) gb717 (Nat.le_of_eq hg.symm)) hb); replace HO0_2 := Aside0.mk (Kd.V_below (Kd.V_elderB (by (with_reducible repeat (first | apply Kd.V_alloc | apply Kd.V_drewN | apply Kd.V_drew)); exact HO0_2.out) gb717 (Nat.le_of_eq hg.symm)) hb); have BK717 := Aside0.mk hbox; have GW717 := gz hg; have GE717 := gz hg; replace HB := bp hb; clear hb hbox hg) | ((with_reducible refine gate_dst (N := 2) rfl ?_); refine zB 2 37 #[.int .i64 0, .int .i64 0] ?_; intro gb718 hg w4 hbox hb; replace HO0_1 := Aside0.mk (Kd.V_below (Kd.V_elderB (by (with_reducible repeat (first | apply Kd.V_alloc | apply Kd.V_drewN | apply Kd.V_drew)); exact HO0_1.out) gb718 (Nat.le_of_eq hg.symm)) hb); replace HO0_2 := Aside0.mk (Kd.V_below (Kd.V_elderB (by (with_reducible repeat (first | apply Kd.V_alloc | apply Kd.V_drewN | apply Kd.V_drew)); exact HO0_2.out) gb718 (Nat.le_of_eq hg.symm)) hb); have BK718 := Aside0.mk hbox; have GW718 := gz hg; have GE718 := gz hg; replace HB := bp hb; have NB717_718 := Aside0.mk ((by rw [hg]; exact Nat.ne_of_lt (bl BK717) : gb717 ≠ gb718)); have NB718_717 := Aside0.mk ((by rw [hg]; exact Nat.ne_of_gt (bl BK717) : gb718 ≠ gb717)); replace BK717 := kb BK717 hb; clear hb hbox hg; have hnb5 := NB717_718.out; have hnc5 := NB718_717.out; obtain ⟨hcz6_0, hcz6_1, hcz6_2, hfz6_0, hfz6_1, hfz6_2⟩ := xc3 BK717; obtain ⟨hcz7_0, hcz7_1, hfz7_0, hfz7_1⟩ := xc2 BK718))
  repeat (go_quiet (first | ((with_reducible refine gate_dst (N := 1) rfl ?_); refine zB 1 95 #[.bool a0_0, .slice A0_1 l0_1.length c0_1, .slice A0_2 l0_2.length c0_2] ?_; intro gb717 hg w3 hbox hb; replace HO0_1 := Aside0.mk (Kd.V_below (Kd.V_elderB (by (with_reducible repeat (first | apply Kd.V_alloc | apply Kd.V_drewN | apply Kd.V_drew)); exact HO0_1.out) gb717 (Nat.le_of_eq hg.symm)) hb); replace HO0_2 := Aside0.mk (Kd.V_below (Kd.V_elderB (by (with_reducible repeat (first | apply Kd.V_alloc | apply Kd.V_drewN | apply Kd.V_drew)); exact HO0_2.out) gb717 (Nat.le_of_eq hg.symm)) hb); have BK717 := Aside0.mk hbox; have GW717 := gz hg; have GE717 := gz hg; replace HB := bp hb; clear hb hbox hg) | ((with_reducible refine gate_dst (N := 2) rfl ?_); refine zB 2 37 #[.int .i64 0, .int .i64 0] ?_; intro gb718 hg w4 hbox hb; have n0_ := Aside0.mk (Kd.V_below (Kd.V_elderB (by (with_reducible repeat (first | apply Kd.V_alloc | apply Kd.V_drewN | apply Kd.V_drew)); exact HO0_1.out) gb718 (Nat.le_of_eq hg.symm)) hb); have n1_ := Aside0.mk (Kd.V_below (Kd.V_elderB (by (with_reducible repeat (first | apply Kd.V_alloc | apply Kd.V_drewN | apply Kd.V_drew)); exact HO0_2.out) gb718 (Nat.le_of_eq hg.symm)) hb); have n2_ := kb BK717 hb; have n3_ := bp hb; have n4_ := Aside0.mk hbox; have n5_ := gz hg; have n6_ := gz hg; have n7_ := Aside0.mk ((by rw [hg]; exact Nat.ne_of_lt (bl BK717) : gb717 ≠ gb718)); have n8_ := Aside0.mk ((by rw [hg]; exact Nat.ne_of_gt (bl BK717) : gb718 ≠ gb717)); clear HO0_1; clear HO0_2; clear BK717; clear HB; have HO0_1 := n0_; have HO0_2 := n1_; have BK717 := n2_; have HB := n3_; have BK718 := n4_; have GW718 := n5_; have GE718 := n6_; have NB717_718 := n7_; have NB718_717 := n8_; clear n0_ n1_ n2_ n3_ n4_ n5_ n6_ n7_ n8_; clear hb hbox hg; have hnb5 := NB717_718.out; have hnc5 := NB718_717.out; have hcz6_0 : w4.cell? ⟨gb717, 0, none⟩ = some (.bool a0_0) := ct BK717 0; have hcz6_1 : w4.cell? ⟨gb717, 1, none⟩ = some (.slice A0_1 l0_1.length c0_1) := ct BK717 1; have hcz6_2 : w4.cell? ⟨gb717, 2, none⟩ = some (.slice A0_2 l0_2.length c0_2) := ct BK717 2; have hfz6_0 := blk_frozen BK717.out 0; have hfz6_1 := blk_frozen BK717.out 1; have hfz6_2 := blk_frozen BK717.out 2; have hcz7_0 : w4.cell? ⟨gb718, 0, none⟩ = some (.int .i64 0) := ct BK718 0; have hcz7_1 : w4.cell? ⟨gb718, 1, none⟩ = some (.int .i64 0) := ct BK718 1; have hfz7_0 := blk_frozen BK718.out 0; have hfz7_1 := blk_frozen BK718.out 1)); try go_wp2_with (first | ((with_reducible refine gate_dst (N := 1) rfl ?_); refine zB 1 95 #[.bool a0_0, .slice A0_1 l0_1.length c0_1, .slice A0_2 l0_2.length c0_2] ?_; intro gb717 hg w3 hbox hb; replace HO0_1 := Aside0.mk (Kd.V_below (Kd.V_elderB (by (with_reducible repeat (first | apply Kd.V_alloc | apply Kd.V_drewN | apply Kd.V_drew)); exact HO0_1.out) gb717 (Nat.le_of_eq hg.symm)) hb); replace HO0_2 := Aside0.mk (Kd.V_below (Kd.V_elderB (by (with_reducible repeat (first | apply Kd.V_alloc | apply Kd.V_drewN | apply Kd.V_drew)); exact HO0_2.out) gb717 (Nat.le_of_eq hg.symm)) hb); have BK717 := Aside0.mk hbox; have GW717 := gz hg; have GE717 := gz hg; replace HB := bp hb; clear hb hbox hg) | ((with_reducible refine gate_dst (N := 2) rfl ?_); refine zB 2 37 #[.int .i64 0, .int .i64 0] ?_; intro gb718 hg w4 hbox hb; replace HO0_1 := Aside0.mk (Kd.V_below (Kd.V_elderB (by (with_reducible repeat (first | apply Kd.V_alloc | apply Kd.V_drewN | apply Kd.V_drew)); exact HO0_1.out) gb718 (Nat.le_of_eq hg.symm)) hb); replace HO0_2 := Aside0.mk (Kd.V_below (Kd.V_elderB (by (with_reducible repeat (first | apply Kd.V_alloc | apply Kd.V_drewN | apply Kd.V_drew)); exact HO0_2.out) gb718 (Nat.le_of_eq hg.symm)) hb); have BK718 := Aside0.mk hbox; have GW718 := gz hg; have GE718 := gz hg; replace HB := bp hb; have NB717_718 := Aside0.mk ((by rw [hg]; exact Nat.ne_of_lt (bl BK717) : gb717 ≠ gb718)); have NB718_717 := Aside0.mk ((by rw [hg]; exact Nat.ne_of_gt (bl BK717) : gb718 ≠ gb717)); replace BK717 := kb BK717 hb; clear hb hbox hg; have hnb5 := NB717_718.out; have hnc5 := NB718_717.out; obtain ⟨hcz6_0, hcz6_1, hcz6_2, hfz6_0, hfz6_1, hfz6_2⟩ := xc3 BK717; have hcz7_0 : w4.cell? ⟨gb718, 0, none⟩ = some (.int .i64 0) := ct BK718 0; have hcz7_1 : w4.cell? ⟨gb718, 1, none⟩ = some (.int .i64 0) := ct BK718 1; have hfz7_0 := blk_frozen BK718.out 0; have hfz7_1 := blk_frozen BK718.out 1)))
  refine bodyPost_ret (results_ct rfl _ _ gb718 37 #[.int .i64 0, .int .i64 1] (0, 0) _ rfl (by (with_reducible repeat (first | refine blk_drewN ?_ _ | refine blk_drew ?_ | refine blk_alloc ?_ _)); refine blk_put (cs := #[.int .i64 0, .int .i64 0]) ?_ 1 _ rfl; (with_reducible repeat (first | refine blk_drewN ?_ _ | refine blk_drew ?_ | refine blk_alloc ?_ _)); refine blk_put (cs := #[.int .i64 0, .int .i64 0]) ?_ 0 _ rfl; (with_reducible repeat (first | refine blk_drewN ?_ _ | refine blk_drew ?_ | refine blk_alloc ?_ _)); exact BK718.out) Try.underlying37 rfl (by kernel_rfl)) rfl ?_
  exact ⟨ez, bz⟩
 ·rw [if_neg c2] at H; have c2b0 : ((l0_1.length : Int) == 0) = false := beq_eq_false_iff_ne.mpr c2; have c2b1 : ((l0_1.length : Int) != 0) = true := bne_iff_ne.mpr c2; have c2b2 : ¬ (l0_1 = []) := fun h_ => c2 (by rw [h_]; rfl)
  have H' := Aside0.mk H; clear H
  go_enter Try.func87, Try.ntmps87
  go_wp2_with (first | ((with_reducible refine gate_dst (N := 1) rfl ?_); refine zB 1 95 #[.bool a0_0, .slice A0_1 l0_1.length c0_1, .slice A0_2 l0_2.length c0_2] ?_; intro gb717 hg w8 hbox hb; replace HO0_1 := Aside0.mk (Kd.V_below (Kd.V_elderB (by (with_reducible repeat (first | apply Kd.V_alloc | apply Kd.V_drewN | apply Kd.V_drew)); exact HO0_1.out) gb717 (Nat.le_of_eq hg.symm)) hb); replace HO0_2 := Aside0.mk (Kd.V_below (Kd.V_elderB (by (with_reducible repeat (first | apply Kd.V_alloc | apply Kd.V_drewN | apply Kd.V_drew)); exact HO0_2.out) gb717 (Nat.le_of_eq hg.symm)) hb); have BK717 := Aside0.mk hbox; have GW717 := gz hg; have GE717 := gz hg; replace HB := bp hb; clear hb hbox hg) | ((with_reducible refine gate_dst (N := 2) rfl ?_); refine zB 2 37 #[.int .i64 0, .int .i64 0] ?_; intro gb718 hg w9 hbox hb; replace HO0_1 := Aside0.mk (Kd.V_below (Kd.V_elderB (by (with_reducible repeat (first | apply Kd.V_alloc | apply Kd.V_drewN | apply Kd.V_drew)); exact HO0_1.out) gb718 (Nat.le_of_eq hg.symm)) hb); replace HO0_2 := Aside0.mk (Kd.V_below (Kd.V_elderB (by (with_reducible repeat (first | apply Kd.V_alloc | apply Kd.V_drewN | apply Kd.V_drew)); exact HO0_2.out) gb718 (Nat.le_of_eq hg.symm)) hb); have BK718 := Aside0.mk hbox; have GW718 := gz hg; have GE718 := gz hg; replace HB := bp hb; have NB717_718 := Aside0.mk ((by rw [hg]; exact Nat.ne_of_lt (bl BK717) : gb717 ≠ gb718)); have NB718_717 := Aside0.mk ((by rw [hg]; exact Nat.ne_of_gt (bl BK717) : gb718 ≠ gb717)); replace BK717 := kb BK717 hb; clear hb hbox hg; have hnb10 := NB717_718.out; have hnc10 := NB718_717.out; obtain ⟨hcz11_0, hcz11_1, hcz11_2, hfz11_0, hfz11_1, hfz11_2⟩ := xc3 BK717))
  repeat (go_quiet (first | ((with_reducible refine gate_dst (N := 1) rfl ?_); refine zB 1 95 #[.bool a0_0, .slice A0_1 l0_1.length c0_1, .slice A0_2 l0_2.length c0_2] ?_; intro gb717 hg w8 hbox hb; replace HO0_1 := Aside0.mk (Kd.V_below (Kd.V_elderB (by (with_reducible repeat (first | apply Kd.V_alloc | apply Kd.V_drewN | apply Kd.V_drew)); exact HO0_1.out) gb717 (Nat.le_of_eq hg.symm)) hb); replace HO0_2 := Aside0.mk (Kd.V_below (Kd.V_elderB (by (with_reducible repeat (first | apply Kd.V_alloc | apply Kd.V_drewN | apply Kd.V_drew)); exact HO0_2.out) gb717 (Nat.le_of_eq hg.symm)) hb); have BK717 := Aside0.mk hbox; have GW717 := gz hg; have GE717 := gz hg; replace HB := bp hb; clear hb hbox hg) | ((with_reducible refine gate_dst (N := 2) rfl ?_); refine zB 2 37 #[.int .i64 0, .int .i64 0] ?_; intro gb718 hg w9 hbox hb; have n0_ := Aside0.mk (Kd.V_below (Kd.V_elderB (by (with_reducible repeat (first | apply Kd.V_alloc | apply Kd.V_drewN | apply Kd.V_drew)); exact HO0_1.out) gb718 (Nat.le_of_eq hg.symm)) hb); have n1_ := Aside0.mk (Kd.V_below (Kd.V_elderB (by (with_reducible repeat (first | apply Kd.V_alloc | apply Kd.V_drewN | apply Kd.V_drew)); exact HO0_2.out) gb718 (Nat.le_of_eq hg.symm)) hb); have n2_ := kb BK717 hb; have n3_ := bp hb; have n4_ := Aside0.mk hbox; have n5_ := gz hg; have n6_ := gz hg; have n7_ := Aside0.mk ((by rw [hg]; exact Nat.ne_of_lt (bl BK717) : gb717 ≠ gb718)); have n8_ := Aside0.mk ((by rw [hg]; exact Nat.ne_of_gt (bl BK717) : gb718 ≠ gb717)); clear HO0_1; clear HO0_2; clear BK717; clear HB; have HO0_1 := n0_; have HO0_2 := n1_; have BK717 := n2_; have HB := n3_; have BK718 := n4_; have GW718 := n5_; have GE718 := n6_; have NB717_718 := n7_; have NB718_717 := n8_; clear n0_ n1_ n2_ n3_ n4_ n5_ n6_ n7_ n8_; clear hb hbox hg; have hnb10 := NB717_718.out; have hnc10 := NB718_717.out; have hcz11_0 : w9.cell? ⟨gb717, 0, none⟩ = some (.bool a0_0) := ct BK717 0; have hcz11_1 : w9.cell? ⟨gb717, 1, none⟩ = some (.slice A0_1 l0_1.length c0_1) := ct BK717 1; have hcz11_2 : w9.cell? ⟨gb717, 2, none⟩ = some (.slice A0_2 l0_2.length c0_2) := ct BK717 2; have hfz11_0 := blk_frozen BK717.out 0; have hfz11_1 := blk_frozen BK717.out 1; have hfz11_2 := blk_frozen BK717.out 2)); try go_wp2_with (first | ((with_reducible refine gate_dst (N := 1) rfl ?_); refine zB 1 95 #[.bool a0_0, .slice A0_1 l0_1.length c0_1, .slice A0_2 l0_2.length c0_2] ?_; intro gb717 hg w8 hbox hb; replace HO0_1 := Aside0.mk (Kd.V_below (Kd.V_elderB (by (with_reducible repeat (first | apply Kd.V_alloc | apply Kd.V_drewN | apply Kd.V_drew)); exact HO0_1.out) gb717 (Nat.le_of_eq hg.symm)) hb); replace HO0_2 := Aside0.mk (Kd.V_below (Kd.V_elderB (by (with_reducible repeat (first | apply Kd.V_alloc | apply Kd.V_drewN | apply Kd.V_drew)); exact HO0_2.out) gb717 (Nat.le_of_eq hg.symm)) hb); have BK717 := Aside0.mk hbox; have GW717 := gz hg; have GE717 := gz hg; replace HB := bp hb; clear hb hbox hg) | ((with_reducible refine gate_dst (N := 2) rfl ?_); refine zB 2 37 #[.int .i64 0, .int .i64 0] ?_; intro gb718 hg w9 hbox hb; replace HO0_1 := Aside0.mk (Kd.V_below (Kd.V_elderB (by (with_reducible repeat (first | apply Kd.V_alloc | apply Kd.V_drewN | apply Kd.V_drew)); exact HO0_1.out) gb718 (Nat.le_of_eq hg.symm)) hb); replace HO0_2 := Aside0.mk (Kd.V_below (Kd.V_elderB (by (with_reducible repeat (first | apply Kd.V_alloc | apply Kd.V_drewN | apply Kd.V_drew)); exact HO0_2.out) gb718 (Nat.le_of_eq hg.symm)) hb); have BK718 := Aside0.mk hbox; have GW718 := gz hg; have GE718 := gz hg; replace HB := bp hb; have NB717_718 := Aside0.mk ((by rw [hg]; exact Nat.ne_of_lt (bl BK717) : gb717 ≠ gb718)); have NB718_717 := Aside0.mk ((by rw [hg]; exact Nat.ne_of_gt (bl BK717) : gb718 ≠ gb717)); replace BK717 := kb BK717 hb; clear hb hbox hg; have hnb10 := NB717_718.out; have hnc10 := NB718_717.out; have hcz11_0 : w9.cell? ⟨gb717, 0, none⟩ = some (.bool a0_0) := ct BK717 0; have hcz11_1 : w9.cell? ⟨gb717, 1, none⟩ = some (.slice A0_1 l0_1.length c0_1) := ct BK717 1; have hcz11_2 : w9.cell? ⟨gb717, 2, none⟩ = some (.slice A0_2 l0_2.length c0_2) := ct BK717 2; have hfz11_0 := blk_frozen BK717.out 0; have hfz11_1 := blk_frozen BK717.out 1; have hfz11_2 := blk_frozen BK717.out 2)))
  go_loopg [4, 5] k (fun kq v4 v5 w' => ∃ (x4_1 : List Int) (x5_1 : List Int), Aside0 (dioramaref02_Time.l0 kq x4_1 x5_1 a0_0 l0_1 l0_2 = some (r1, r2, r3)) ∧ Aside0 (kq ≤ k) ∧ Aside0 (Kd.V (Kd.int .i64) 3 w' w.heap.size (fun k_ => ((P0_1_ k_ ∨ P0_2_ k_) ∨ w.heap.size ≤ k_) ∧ k_ ≠ gb717 ∧ k_ ≠ gb718) v4 x4_1) ∧ Aside0 (Kd.V (Kd.int .i64) 3 w' w.heap.size (fun k_ => ((P0_1_ k_ ∨ P0_2_ k_) ∨ w.heap.size ≤ k_) ∧ k_ ≠ gb717 ∧ k_ ≠ gb718) v5 x5_1) ∧ Aside0 (Kd.V (Kd.int .i64) 3 w' w.heap.size (fun k_ => ((P0_1_ k_ ∨ P0_2_ k_) ∨ w.heap.size ≤ k_) ∧ k_ ≠ gb717 ∧ k_ ≠ gb718) (.slice A0_1 l0_1.length c0_1) l0_1) ∧ Aside0 (Kd.V (Kd.int .i64) 3 w' w.heap.size (fun k_ => ((P0_1_ k_ ∨ P0_2_ k_) ∨ w.heap.size ≤ k_) ∧ k_ ≠ gb717 ∧ k_ ≠ gb718) (.slice A0_2 l0_2.length c0_2) l0_2) ∧ Aside0 (w'.heap[gb717]? = some (.cells #[.bool a0_0, (.slice A0_1 l0_1.length c0_1), (.slice A0_2 l0_2.length c0_2)] 95 (0, 0))) ∧ Aside0 (w'.heap[gb718]? = some (.cells #[.int .i64 0, .int .i64 0] 37 (0, 0))) ∧ Aside0 (Below w.heap.size w w'))
  case atStart => exact ⟨(l0_1), (l0_2), H', ⟨Nat.le_refl _⟩, ⟨by (with_reducible repeat (first | apply Kd.V_alloc | apply Kd.V_drewN | apply Kd.V_drew)); exact Kd.V_mono HO0_1.out (fun _ hk => ⟨hk.1.1, ⟨hk.1.2, hk.2⟩⟩)⟩, ⟨by (with_reducible repeat (first | apply Kd.V_alloc | apply Kd.V_drewN | apply Kd.V_drew)); exact Kd.V_mono HO0_2.out (fun _ hk => ⟨hk.1.1, ⟨hk.1.2, hk.2⟩⟩)⟩, ⟨by (with_reducible repeat (first | apply Kd.V_alloc | apply Kd.V_drewN | apply Kd.V_drew)); exact Kd.V_mono HO0_1.out (fun _ hk => ⟨hk.1.1, ⟨hk.1.2, hk.2⟩⟩)⟩, ⟨by (with_reducible repeat (first | apply Kd.V_alloc | apply Kd.V_drewN | apply Kd.V_drew)); exact Kd.V_mono HO0_2.out (fun _ hk => ⟨hk.1.1, ⟨hk.1.2, hk.2⟩⟩)⟩, ⟨kz⟩, ⟨kz⟩, ⟨bz⟩⟩
  case round =>
   clear H'
   try clear c1
   try clear c2
   try clear c2b0
   try clear c2b1
   try clear c2b2
   try clear p2
   try clear c5
   try clear c8
   try clear c10
   try clear hcz11_0
   try clear hcz11_1
   try clear hcz11_2
   try clear hcz6_0
   try clear hcz6_1
   try clear hcz6_2
   try clear hcz7_0
   try clear hcz7_1
   try clear hfz11_0
   try clear hfz11_1
   try clear hfz11_2
   try clear hfz6_0
   try clear hfz6_1
   try clear hfz6_2
   try clear hfz7_0
   try clear hfz7_1
   obtain ⟨x4_1, x5_1, HA, HK1, HO_4, HO_5, HO_718001, HO_718002, BK717, BK718, HB⟩ := hrel
   cases gk with
   | zero => exact absurd HA.out (by simp [dioramaref02_Time.l0])
   | succ k1 =>
    have H := HA.out; clear HA; simp only [dioramaref02_Time.l0] at H
    by_cases c12 : (x5_1.length : Int) > 0
    ·rw [if_pos c12] at H; have c12b0 : decide (0 < (x5_1.length : Int)) = true := decide_eq_true c12; have c12b1 : decide (0 < x5_1.length) = true := decide_eq_true (by omega); clear c12; obtain ⟨⟨t719, t720⟩, A13, H⟩ := ob H
     (try dsimp only at H)
     have H' := Aside0.mk H; clear H; obtain ⟨Ao14, co14, eo14⟩ := Kd.V_slice HO_5.out; subst eo14; obtain ⟨Ao15, co15, eo15⟩ := Kd.V_slice HO_4.out; subst eo15
     go_wp2_with (first | (go_at_call 123; (with_reducible refine (dioramaref02_Over.calls k1 _ _ x4_1 _ _ x5_1 t719 t720 _ ?side1 ?side2 ?side3 ?side4 A13.out).mono ?_); (case side1 => repeat (first | exact (Kd.V_reads' HO_4.out).2.2 | (with_reducible refine Kd.C_alloc ?_ _) | (with_reducible refine Kd.C_drewN ?_ _) | (with_reducible refine Kd.C_drew ?_))); (case side2 => exact (Kd.V_reads' HO_4.out).2.1); (case side3 => repeat (first | exact (Kd.V_reads' HO_5.out).2.2 | (with_reducible refine Kd.C_alloc ?_ _) | (with_reducible refine Kd.C_drewN ?_ _) | (with_reducible refine Kd.C_drew ?_))); (case side4 => exact (Kd.V_reads' HO_5.out).2.1); rintro e w16 ⟨v721, v723, rfl, ho0, ho1, hb⟩; replace HO_4 := Aside0.mk (Kd.V_mono (Kd.V_told (Kd.V_told (Kd.V_old (by (with_reducible repeat (first | apply Kd.V_alloc | apply Kd.V_drewN | apply Kd.V_drew)); exact HO_4.out) hb) (Kd.R_base ho0)) (Kd.R_base ho1)) (fun _ h_ => h_.1)); replace HO_5 := Aside0.mk (Kd.V_mono (Kd.V_told (Kd.V_told (Kd.V_old (by (with_reducible repeat (first | apply Kd.V_alloc | apply Kd.V_drewN | apply Kd.V_drew)); exact HO_5.out) hb) (Kd.R_base ho0)) (Kd.R_base ho1)) (fun _ h_ => h_.1)); replace HO_718001 := Aside0.mk (Kd.V_mono (Kd.V_told (Kd.V_told (Kd.V_old (by (with_reducible repeat (first | apply Kd.V_alloc | apply Kd.V_drewN | apply Kd.V_drew)); exact HO_718001.out) hb) (Kd.R_base ho0)) (Kd.R_base ho1)) (fun _ h_ => h_.1)); replace HO_718002 := Aside0.mk (Kd.V_mono (Kd.V_told (Kd.V_told (Kd.V_old (by (with_reducible repeat (first | apply Kd.V_alloc | apply Kd.V_drewN | apply Kd.V_drew)); exact HO_718002.out) hb) (Kd.R_base ho0)) (Kd.R_base ho1)) (fun _ h_ => h_.1)); have HO722 := Aside0.mk (Kd.R_lower (Kd.R_newM (M := fun k_ => (w.heap.size ≤ k_)) ho0 sz (fun k_ h_ => h_)) sz); have HO724 := Aside0.mk (Kd.R_lower (Kd.R_newM (M := fun k_ => (w.heap.size ≤ k_)) ho1 sz (fun k_ h_ => h_)) sz); replace BK717 := kb BK717 hb; replace BK718 := kb BK718 hb; replace HB := bp hb; clear hb ho0 ho1))
     repeat (go_quiet (first | (go_at_call 123; (with_reducible refine (dioramaref02_Over.calls k1 _ _ x4_1 _ _ x5_1 t719 t720 _ ?side1 ?side2 ?side3 ?side4 A13.out).mono ?_); (case side1 => repeat (first | exact (Kd.V_reads' HO_4.out).2.2 | (with_reducible refine Kd.C_alloc ?_ _) | (with_reducible refine Kd.C_drewN ?_ _) | (with_reducible refine Kd.C_drew ?_))); (case side2 => exact (Kd.V_reads' HO_4.out).2.1); (case side3 => repeat (first | exact (Kd.V_reads' HO_5.out).2.2 | (with_reducible refine Kd.C_alloc ?_ _) | (with_reducible refine Kd.C_drewN ?_ _) | (with_reducible refine Kd.C_drew ?_))); (case side4 => exact (Kd.V_reads' HO_5.out).2.1); rintro e w16 ⟨v721, v723, rfl, ho0, ho1, hb⟩; have n0_ := Aside0.mk (Kd.V_mono (Kd.V_told (Kd.V_told (Kd.V_old (by (with_reducible repeat (first | apply Kd.V_alloc | apply Kd.V_drewN | apply Kd.V_drew)); exact HO_4.out) hb) (Kd.R_base ho0)) (Kd.R_base ho1)) (fun _ h_ => h_.1)); have n1_ := Aside0.mk (Kd.V_mono (Kd.V_told (Kd.V_told (Kd.V_old (by (with_reducible repeat (first | apply Kd.V_alloc | apply Kd.V_drewN | apply Kd.V_drew)); exact HO_5.out) hb) (Kd.R_base ho0)) (Kd.R_base ho1)) (fun _ h_ => h_.1)); have n2_ := Aside0.mk (Kd.V_mono (Kd.V_told (Kd.V_told (Kd.V_old (by (with_reducible repeat (first | apply Kd.V_alloc | apply Kd.V_drewN | apply Kd.V_drew)); exact HO_718001.out) hb) (Kd.R_base ho0)) (Kd.R_base ho1)) (fun _ h_ => h_.1)); have n3_ := Aside0.mk (Kd.V_mono (Kd.V_told (Kd.V_told (Kd.V_old (by (with_reducible repeat (first | apply Kd.V_alloc | apply Kd.V_drewN | apply Kd.V_drew)); exact HO_718002.out) hb) (Kd.R_base ho0)) (Kd.R_base ho1)) (fun _ h_ => h_.1)); have n4_ := Aside0.mk (Kd.R_lower (Kd.R_newM (M := fun k_ => (w.heap.size ≤ k_)) ho0 sz (fun k_ h_ => h_)) sz); have n5_ := Aside0.mk (Kd.R_lower (Kd.R_newM (M := fun k_ => (w.heap.size ≤ k_)) ho1 sz (fun k_ h_ => h_)) sz); have n6_ := kb BK717 hb; have n7_ := kb BK718 hb; have n8_ := bp hb; clear HO_4; clear HO_5; clear HO_718001; clear HO_718002; clear BK717; clear BK718; clear HB; have HO_4 := n0_; have HO_5 := n1_; have HO_718001 := n2_; have HO_718002 := n3_; have HO722 := n4_; have HO724 := n5_; have BK717 := n6_; have BK718 := n7_; have HB := n8_; clear n0_ n1_ n2_ n3_ n4_ n5_ n6_ n7_ n8_; (try clear hb); (try clear hb2); (try clear hk); (try clear hi); (try clear ho0); (try clear ho1))); try go_wp2_with (first | (go_at_call 123; (with_reducible refine (dioramaref02_Over.calls k1 _ _ x4_1 _ _ x5_1 t719 t720 _ ?side1 ?side2 ?side3 ?side4 A13.out).mono ?_); (case side1 => repeat (first | exact (Kd.V_reads' HO_4.out).2.2 | (with_reducible refine Kd.C_alloc ?_ _) | (with_reducible refine Kd.C_drewN ?_ _) | (with_reducible refine Kd.C_drew ?_))); (case side2 => exact (Kd.V_reads' HO_4.out).2.1); (case side3 => repeat (first | exact (Kd.V_reads' HO_5.out).2.2 | (with_reducible refine Kd.C_alloc ?_ _) | (with_reducible refine Kd.C_drewN ?_ _) | (with_reducible refine Kd.C_drew ?_))); (case side4 => exact (Kd.V_reads' HO_5.out).2.1); rintro e w16 ⟨v721, v723, rfl, ho0, ho1, hb⟩; replace HO_4 := Aside0.mk (Kd.V_mono (Kd.V_told (Kd.V_told (Kd.V_old (by (with_reducible repeat (first | apply Kd.V_alloc | apply Kd.V_drewN | apply Kd.V_drew)); exact HO_4.out) hb) (Kd.R_base ho0)) (Kd.R_base ho1)) (fun _ h_ => h_.1)); replace HO_5 := Aside0.mk (Kd.V_mono (Kd.V_told (Kd.V_told (Kd.V_old (by (with_reducible repeat (first | apply Kd.V_alloc | apply Kd.V_drewN | apply Kd.V_drew)); exact HO_5.out) hb) (Kd.R_base ho0)) (Kd.R_base ho1)) (fun _ h_ => h_.1)); replace HO_718001 := Aside0.mk (Kd.V_mono (Kd.V_told (Kd.V_told (Kd.V_old (by (with_reducible repeat (first | apply Kd.V_alloc | apply Kd.V_drewN | apply Kd.V_drew)); exact HO_718001.out) hb) (Kd.R_base ho0)) (Kd.R_base ho1)) (fun _ h_ => h_.1)); replace HO_718002 := Aside0.mk (Kd.V_mono (Kd.V_told (Kd.V_told (Kd.V_old (by (with_reducible repeat (first | apply Kd.V_alloc | apply Kd.V_drewN | apply Kd.V_drew)); exact HO_718002.out) hb) (Kd.R_base ho0)) (Kd.R_base ho1)) (fun _ h_ => h_.1)); have HO722 := Aside0.mk (Kd.R_lower (Kd.R_newM (M := fun k_ => (w.heap.size ≤ k_)) ho0 sz (fun k_ h_ => h_)) sz); have HO724 := Aside0.mk (Kd.R_lower (Kd.R_newM (M := fun k_ => (w.heap.size ≤ k_)) ho1 sz (fun k_ h_ => h_)) sz); replace BK717 := kb BK717 hb; replace BK718 := kb BK718 hb; replace HB := bp hb; clear hb ho0; (try clear ho1))))
     go_roundg k1
     case measure => have := HK1.out; omega
     case rel => exact ⟨(x5_1), (t720), H', ⟨by have := HK1.out; omega⟩, ⟨by (with_reducible repeat (first | apply Kd.V_alloc | apply Kd.V_drewN | apply Kd.V_drew)); exact Kd.V_mono HO_5.out (fun _ hk => ⟨hk.1.1.1, ⟨hk.1.1.2.1, hk.1.1.2.2⟩⟩)⟩, ⟨Kd.V_mono (Kd.R_V (by (with_reducible repeat (first | apply Kd.R_alloc | apply Kd.R_drewN | apply Kd.R_drew)); exact Kd.R_mono (Kd.R_types (Kd.R_types HO724.out BK717.out (by decide)) BK718.out (by decide)) (fun _ hk => (And.intro (hk.1.1.1) (And.intro (hk.1.2) hk.2))))) (fun k_ hk => by first | exact ⟨(.inr (hk.1)), hk.2⟩ | exact (.inr (hk)))⟩, ⟨by (with_reducible repeat (first | apply Kd.V_alloc | apply Kd.V_drewN | apply Kd.V_drew)); exact Kd.V_mono HO_718001.out (fun _ hk => ⟨hk.1.1.1, ⟨hk.1.1.2.1, hk.1.1.2.2⟩⟩)⟩, ⟨by (with_reducible repeat (first | apply Kd.V_alloc | apply Kd.V_drewN | apply Kd.V_drew)); exact Kd.V_mono HO_718002.out (fun _ hk => ⟨hk.1.1.1, ⟨hk.1.1.2.1, hk.1.1.2.2⟩⟩)⟩, ⟨kz⟩, ⟨kz⟩, ⟨bz⟩⟩
    ·rw [if_neg c12] at H; have c12b0 : decide (0 < (x5_1.length : Int)) = false := decide_eq_false c12; have c12b1 : decide (0 < x5_1.length) = false := decide_eq_false (by omega); clear c12; obtain ⟨⟨t725, t726⟩, A17, H⟩ := ob H
     (try dsimp only at H)
     obtain ⟨⟨t731, t732⟩, A18, H⟩ := ob H
     (try dsimp only at H)
     obtain ⟨⟨t737, t738⟩, A19, H⟩ := ob H
     (try dsimp only at H)
     obtain ⟨⟨t739, t740⟩, A20, H⟩ := ob H
     (try dsimp only at H)
     have HC21 := Aside0.mk H; clear H; obtain ⟨Ao22, co22, eo22⟩ := Kd.V_slice HO_5.out; subst eo22; have hnb23 := NB717_718.out; have hnc23 := NB718_717.out; obtain ⟨hcz24_0, hcz24_1, hcz24_2, hfz24_0, hfz24_1, hfz24_2⟩ := xc3 BK717; obtain ⟨Ao25, co25, eo25⟩ := Kd.V_slice HO_4.out; subst eo25
     go_upto_region 11 with (first | (go_at_call 123; (with_reducible refine (dioramaref02_Over.calls k1 _ _ l0_1 _ _ x4_1 t725 t726 _ ?side1 ?side2 ?side3 ?side4 A17.out).mono ?_); (case side1 => repeat (first | exact (Kd.V_reads' HO_718001.out).2.2 | (with_reducible refine Kd.C_alloc ?_ _) | (with_reducible refine Kd.C_drewN ?_ _) | (with_reducible refine Kd.C_drew ?_))); (case side2 => exact (Kd.V_reads' HO_718001.out).2.1); (case side3 => repeat (first | exact (Kd.V_reads' HO_4.out).2.2 | (with_reducible refine Kd.C_alloc ?_ _) | (with_reducible refine Kd.C_drewN ?_ _) | (with_reducible refine Kd.C_drew ?_))); (case side4 => exact (Kd.V_reads' HO_4.out).2.1); rintro e w26 ⟨v727, v729, rfl, ho0, ho1, hb⟩; replace HO_4 := Aside0.mk (Kd.V_mono (Kd.V_told (Kd.V_told (Kd.V_old (by (with_reducible repeat (first | apply Kd.V_alloc | apply Kd.V_drewN | apply Kd.V_drew)); exact HO_4.out) hb) (Kd.R_base ho0)) (Kd.R_base ho1)) (fun _ h_ => h_.1)); replace HO_5 := Aside0.mk (Kd.V_mono (Kd.V_told (Kd.V_told (Kd.V_old (by (with_reducible repeat (first | apply Kd.V_alloc | apply Kd.V_drewN | apply Kd.V_drew)); exact HO_5.out) hb) (Kd.R_base ho0)) (Kd.R_base ho1)) (fun _ h_ => h_.1)); replace HO_718001 := Aside0.mk (Kd.V_mono (Kd.V_told (Kd.V_told (Kd.V_old (by (with_reducible repeat (first | apply Kd.V_alloc | apply Kd.V_drewN | apply Kd.V_drew)); exact HO_718001.out) hb) (Kd.R_base ho0)) (Kd.R_base ho1)) (fun _ h_ => h_.1)); replace HO_718002 := Aside0.mk (Kd.V_mono (Kd.V_told (Kd.V_told (Kd.V_old (by (with_reducible repeat (first | apply Kd.V_alloc | apply Kd.V_drewN | apply Kd.V_drew)); exact HO_718002.out) hb) (Kd.R_base ho0)) (Kd.R_base ho1)) (fun _ h_ => h_.1)); have HO728 := Aside0.mk (Kd.R_lower (Kd.R_newM (M := fun k_ => (w.heap.size ≤ k_)) ho0 sz (fun k_ h_ => h_)) sz); have HO730 := Aside0.mk (Kd.R_lower (Kd.R_newM (M := fun k_ => (w.heap.size ≤ k_)) ho1 sz (fun k_ h_ => h_)) sz); replace BK717 := kb BK717 hb; replace BK718 := kb BK718 hb; replace HB := bp hb; clear hb ho0 ho1; obtain ⟨hcz27_0, hcz27_1, hcz27_2, hfz27_0, hfz27_1, hfz27_2⟩ := xc3 BK717) | (go_at_call 123; (with_reducible refine (dioramaref02_Over.calls k1 _ _ l0_2 _ _ x4_1 t731 t732 _ ?side1 ?side2 ?side3 ?side4 A18.out).mono ?_); (case side1 => repeat (first | exact (Kd.V_reads' HO_718002.out).2.2 | (with_reducible refine Kd.C_alloc ?_ _) | (with_reducible refine Kd.C_drewN ?_ _) | (with_reducible refine Kd.C_drew ?_))); (case side2 => exact (Kd.V_reads' HO_718002.out).2.1); (case side3 => repeat (first | exact (Kd.V_reads' HO_4.out).2.2 | (with_reducible refine Kd.C_alloc ?_ _) | (with_reducible refine Kd.C_drewN ?_ _) | (with_reducible refine Kd.C_drew ?_))); (case side4 => exact (Kd.V_reads' HO_4.out).2.1); rintro e w28 ⟨v733, v735, rfl, ho0, ho1, hb⟩; replace HO_4 := Aside0.mk (Kd.V_mono (Kd.V_told (Kd.V_told (Kd.V_old (by (with_reducible repeat (first | apply Kd.V_alloc | apply Kd.V_drewN | apply Kd.V_drew)); exact HO_4.out) hb) (Kd.R_base ho0)) (Kd.R_base ho1)) (fun _ h_ => h_.1)); replace HO_5 := Aside0.mk (Kd.V_mono (Kd.V_told (Kd.V_told (Kd.V_old (by (with_reducible repeat (first | apply Kd.V_alloc | apply Kd.V_drewN | apply Kd.V_drew)); exact HO_5.out) hb) (Kd.R_base ho0)) (Kd.R_base ho1)) (fun _ h_ => h_.1)); replace HO_718001 := Aside0.mk (Kd.V_mono (Kd.V_told (Kd.V_told (Kd.V_old (by (with_reducible repeat (first | apply Kd.V_alloc | apply Kd.V_drewN | apply Kd.V_drew)); exact HO_718001.out) hb) (Kd.R_base ho0)) (Kd.R_base ho1)) (fun _ h_ => h_.1)); replace HO_718002 := Aside0.mk (Kd.V_mono (Kd.V_told (Kd.V_told (Kd.V_old (by (with_reducible repeat (first | apply Kd.V_alloc | apply Kd.V_drewN | apply Kd.V_drew)); exact HO_718002.out) hb) (Kd.R_base ho0)) (Kd.R_base ho1)) (fun _ h_ => h_.1)); have HO734 := Aside0.mk (Kd.R_lower (Kd.R_new' (Kd.R_new' (Kd.R_newM (M := fun k_ => (w.heap.size ≤ k_)) ho0 sz (fun k_ h_ => h_)) (Kd.R_lt (rz HO728))) (Kd.R_lt (rz HO730))) sz); have HO736 := Aside0.mk (Kd.R_lower (Kd.R_new' (Kd.R_new' (Kd.R_newM (M := fun k_ => (w.heap.size ≤ k_)) ho1 sz (fun k_ h_ => h_)) (Kd.R_lt (rz HO728))) (Kd.R_lt (rz HO730))) sz); replace HO728 := Aside0.mk (Kd.R_mono (Kd.R_told (Kd.R_told (Kd.R_old (rz HO728) hb) (Kd.R_base ho0)) (Kd.R_base ho1)) (fun _ h_ => h_.1)); replace HO730 := Aside0.mk (Kd.R_mono (Kd.R_told (Kd.R_told (Kd.R_old (rz HO730) hb) (Kd.R_base ho0)) (Kd.R_base ho1)) (fun _ h_ => h_.1)); replace BK717 := kb BK717 hb; replace BK718 := kb BK718 hb; replace HB := bp hb; clear hb ho0 ho1; obtain ⟨Ao29, co29, eo29⟩ := Kd.R_slice HO728.out; subst eo29) | (go_at_call 70; (with_reducible refine (dioramaref02_Small.calls k1 _ _ t725 1152921504606846976 t737 t738 _ ?side1 ?side2 A19.out).mono ?_); (case side1 => exact cr HO728); (case side2 => exact (Kd.R_reads' HO728.out).2.1); rintro e w30 ⟨rfl, hb⟩; replace HO_4 := Aside0.mk (Kd.V_below (by (with_reducible repeat (first | apply Kd.V_alloc | apply Kd.V_drewN | apply Kd.V_drew)); exact HO_4.out) hb); replace HO_5 := Aside0.mk (Kd.V_below (by (with_reducible repeat (first | apply Kd.V_alloc | apply Kd.V_drewN | apply Kd.V_drew)); exact HO_5.out) hb); replace HO_718001 := Aside0.mk (Kd.V_below (by (with_reducible repeat (first | apply Kd.V_alloc | apply Kd.V_drewN | apply Kd.V_drew)); exact HO_718001.out) hb); replace HO_718002 := Aside0.mk (Kd.V_below (by (with_reducible repeat (first | apply Kd.V_alloc | apply Kd.V_drewN | apply Kd.V_drew)); exact HO_718002.out) hb); replace HO728 := Aside0.mk (Kd.R_below (rz HO728) hb); replace HO730 := Aside0.mk (Kd.R_below (rz HO730) hb); replace HO734 := Aside0.mk (Kd.R_below (rz HO734) hb); replace HO736 := Aside0.mk (Kd.R_below (rz HO736) hb); replace BK717 := kb BK717 hb; replace BK718 := kb BK718 hb; replace HB := bp hb; clear hb; obtain ⟨Ao31, co31, eo31⟩ := Kd.R_slice HO734.out; subst eo31) | (go_at_call 70; (with_reducible refine (dioramaref02_Small.calls k1 _ _ t731 1152921504606846976 t739 t740 _ ?side1 ?side2 A20.out).mono ?_); (case side1 => exact cr HO734); (case side2 => exact (Kd.R_reads' HO734.out).2.1); rintro e w32 ⟨rfl, hb⟩; replace HO_4 := Aside0.mk (Kd.V_below (by (with_reducible repeat (first | apply Kd.V_alloc | apply Kd.V_drewN | apply Kd.V_drew)); exact HO_4.out) hb); replace HO_5 := Aside0.mk (Kd.V_below (by (with_reducible repeat (first | apply Kd.V_alloc | apply Kd.V_drewN | apply Kd.V_drew)); exact HO_5.out) hb); replace HO_718001 := Aside0.mk (Kd.V_below (by (with_reducible repeat (first | apply Kd.V_alloc | apply Kd.V_drewN | apply Kd.V_drew)); exact HO_718001.out) hb); replace HO_718002 := Aside0.mk (Kd.V_below (by (with_reducible repeat (first | apply Kd.V_alloc | apply Kd.V_drewN | apply Kd.V_drew)); exact HO_718002.out) hb); replace HO728 := Aside0.mk (Kd.R_below (rz HO728) hb); replace HO730 := Aside0.mk (Kd.R_below (rz HO730) hb); replace HO734 := Aside0.mk (Kd.R_below (rz HO734) hb); replace HO736 := Aside0.mk (Kd.R_below (rz HO736) hb); replace BK717 := kb BK717 hb; replace BK718 := kb BK718 hb; replace HB := bp hb; clear hb))
     repeat (go_quiet (first | (go_at_call 123; (with_reducible refine (dioramaref02_Over.calls k1 _ _ l0_1 _ _ x4_1 t725 t726 _ ?side1 ?side2 ?side3 ?side4 A17.out).mono ?_); (case side1 => repeat (first | exact (Kd.V_reads' HO_718001.out).2.2 | (with_reducible refine Kd.C_alloc ?_ _) | (with_reducible refine Kd.C_drewN ?_ _) | (with_reducible refine Kd.C_drew ?_))); (case side2 => exact (Kd.V_reads' HO_718001.out).2.1); (case side3 => repeat (first | exact (Kd.V_reads' HO_4.out).2.2 | (with_reducible refine Kd.C_alloc ?_ _) | (with_reducible refine Kd.C_drewN ?_ _) | (with_reducible refine Kd.C_drew ?_))); (case side4 => exact (Kd.V_reads' HO_4.out).2.1); rintro e w26 ⟨v727, v729, rfl, ho0, ho1, hb⟩; replace HO_4 := Aside0.mk (Kd.V_mono (Kd.V_told (Kd.V_told (Kd.V_old (by (with_reducible repeat (first | apply Kd.V_alloc | apply Kd.V_drewN | apply Kd.V_drew)); exact HO_4.out) hb) (Kd.R_base ho0)) (Kd.R_base ho1)) (fun _ h_ => h_.1)); replace HO_5 := Aside0.mk (Kd.V_mono (Kd.V_told (Kd.V_told (Kd.V_old (by (with_reducible repeat (first | apply Kd.V_alloc | apply Kd.V_drewN | apply Kd.V_drew)); exact HO_5.out) hb) (Kd.R_base ho0)) (Kd.R_base ho1)) (fun _ h_ => h_.1)); replace HO_718001 := Aside0.mk (Kd.V_mono (Kd.V_told (Kd.V_told (Kd.V_old (by (with_reducible repeat (first | apply Kd.V_alloc | apply Kd.V_drewN | apply Kd.V_drew)); exact HO_718001.out) hb) (Kd.R_base ho0)) (Kd.R_base ho1)) (fun _ h_ => h_.1)); replace HO_718002 := Aside0.mk (Kd.V_mono (Kd.V_told (Kd.V_told (Kd.V_old (by (with_reducible repeat (first | apply Kd.V_alloc | apply Kd.V_drewN | apply Kd.V_drew)); exact HO_718002.out) hb) (Kd.R_base ho0)) (Kd.R_base ho1)) (fun _ h_ => h_.1)); have HO728 := Aside0.mk (Kd.R_lower (Kd.R_newM (M := fun k_ => (w.heap.size ≤ k_)) ho0 sz (fun k_ h_ => h_)) sz); have HO730 := Aside0.mk (Kd.R_lower (Kd.R_newM (M := fun k_ => (w.heap.size ≤ k_)) ho1 sz (fun k_ h_ => h_)) sz); replace BK717 := kb BK717 hb; replace BK718 := kb BK718 hb; replace HB := bp hb; clear hb ho0 ho1; obtain ⟨hcz27_0, hcz27_1, hcz27_2, hfz27_0, hfz27_1, hfz27_2⟩ := xc3 BK717) | (go_at_call 123; (with_reducible refine (dioramaref02_Over.calls k1 _ _ l0_2 _ _ x4_1 t731 t732 _ ?side1 ?side2 ?side3 ?side4 A18.out).mono ?_); (case side1 => repeat (first | exact (Kd.V_reads' HO_718002.out).2.2 | (with_reducible refine Kd.C_alloc ?_ _) | (with_reducible refine Kd.C_drewN ?_ _) | (with_reducible refine Kd.C_drew ?_))); (case side2 => exact (Kd.V_reads' HO_718002.out).2.1); (case side3 => repeat (first | exact (Kd.V_reads' HO_4.out).2.2 | (with_reducible refine Kd.C_alloc ?_ _) | (with_reducible refine Kd.C_drewN ?_ _) | (with_reducible refine Kd.C_drew ?_))); (case side4 => exact (Kd.V_reads' HO_4.out).2.1); rintro e w28 ⟨v733, v735, rfl, ho0, ho1, hb⟩; replace HO_4 := Aside0.mk (Kd.V_mono (Kd.V_told (Kd.V_told (Kd.V_old (by (with_reducible repeat (first | apply Kd.V_alloc | apply Kd.V_drewN | apply Kd.V_drew)); exact HO_4.out) hb) (Kd.R_base ho0)) (Kd.R_base ho1)) (fun _ h_ => h_.1)); replace HO_5 := Aside0.mk (Kd.V_mono (Kd.V_told (Kd.V_told (Kd.V_old (by (with_reducible repeat (first | apply Kd.V_alloc | apply Kd.V_drewN | apply Kd.V_drew)); exact HO_5.out) hb) (Kd.R_base ho0)) (Kd.R_base ho1)) (fun _ h_ => h_.1)); replace HO_718001 := Aside0.mk (Kd.V_mono (Kd.V_told (Kd.V_told (Kd.V_old (by (with_reducible repeat (first | apply Kd.V_alloc | apply Kd.V_drewN | apply Kd.V_drew)); exact HO_718001.out) hb) (Kd.R_base ho0)) (Kd.R_base ho1)) (fun _ h_ => h_.1)); replace HO_718002 := Aside0.mk (Kd.V_mono (Kd.V_told (Kd.V_told (Kd.V_old (by (with_reducible repeat (first | apply Kd.V_alloc | apply Kd.V_drewN | apply Kd.V_drew)); exact HO_718002.out) hb) (Kd.R_base ho0)) (Kd.R_base ho1)) (fun _ h_ => h_.1)); have HO734 := Aside0.mk (Kd.R_lower (Kd.R_new' (Kd.R_new' (Kd.R_newM (M := fun k_ => (w.heap.size ≤ k_)) ho0 sz (fun k_ h_ => h_)) (Kd.R_lt (rz HO728))) (Kd.R_lt (rz HO730))) sz); have HO736 := Aside0.mk (Kd.R_lower (Kd.R_new' (Kd.R_new' (Kd.R_newM (M := fun k_ => (w.heap.size ≤ k_)) ho1 sz (fun k_ h_ => h_)) (Kd.R_lt (rz HO728))) (Kd.R_lt (rz HO730))) sz); replace HO728 := Aside0.mk (Kd.R_mono (Kd.R_told (Kd.R_told (Kd.R_old (rz HO728) hb) (Kd.R_base ho0)) (Kd.R_base ho1)) (fun _ h_ => h_.1)); replace HO730 := Aside0.mk (Kd.R_mono (Kd.R_told (Kd.R_told (Kd.R_old (rz HO730) hb) (Kd.R_base ho0)) (Kd.R_base ho1)) (fun _ h_ => h_.1)); replace BK717 := kb BK717 hb; replace BK718 := kb BK718 hb; replace HB := bp hb; clear hb ho0 ho1; obtain ⟨Ao29, co29, eo29⟩ := Kd.R_slice HO728.out; subst eo29) | (go_at_call 70; (with_reducible refine (dioramaref02_Small.calls k1 _ _ t725 1152921504606846976 t737 t738 _ ?side1 ?side2 A19.out).mono ?_); (case side1 => exact cr HO728); (case side2 => exact (Kd.R_reads' HO728.out).2.1); rintro e w30 ⟨rfl, hb⟩; replace HO_4 := Aside0.mk (Kd.V_below (by (with_reducible repeat (first | apply Kd.V_alloc | apply Kd.V_drewN | apply Kd.V_drew)); exact HO_4.out) hb); replace HO_5 := Aside0.mk (Kd.V_below (by (with_reducible repeat (first | apply Kd.V_alloc | apply Kd.V_drewN | apply Kd.V_drew)); exact HO_5.out) hb); replace HO_718001 := Aside0.mk (Kd.V_below (by (with_reducible repeat (first | apply Kd.V_alloc | apply Kd.V_drewN | apply Kd.V_drew)); exact HO_718001.out) hb); replace HO_718002 := Aside0.mk (Kd.V_below (by (with_reducible repeat (first | apply Kd.V_alloc | apply Kd.V_drewN | apply Kd.V_drew)); exact HO_718002.out) hb); replace HO728 := Aside0.mk (Kd.R_below (rz HO728) hb); replace HO730 := Aside0.mk (Kd.R_below (rz HO730) hb); replace HO734 := Aside0.mk (Kd.R_below (rz HO734) hb); replace HO736 := Aside0.mk (Kd.R_below (rz HO736) hb); replace BK717 := kb BK717 hb; replace BK718 := kb BK718 hb; replace HB := bp hb; clear hb; obtain ⟨Ao31, co31, eo31⟩ := Kd.R_slice HO734.out; subst eo31) | (go_at_call 70; (with_reducible refine (dioramaref02_Small.calls k1 _ _ t731 1152921504606846976 t739 t740 _ ?side1 ?side2 A20.out).mono ?_); (case side1 => exact cr HO734); (case side2 => exact (Kd.R_reads' HO734.out).2.1); rintro e w32 ⟨rfl, hb⟩; have n0_ := Aside0.mk (Kd.V_below (by (with_reducible repeat (first | apply Kd.V_alloc | apply Kd.V_drewN | apply Kd.V_drew)); exact HO_4.out) hb); have n1_ := Aside0.mk (Kd.V_below (by (with_reducible repeat (first | apply Kd.V_alloc | apply Kd.V_drewN | apply Kd.V_drew)); exact HO_5.out) hb); have n2_ := Aside0.mk (Kd.V_below (by (with_reducible repeat (first | apply Kd.V_alloc | apply Kd.V_drewN | apply Kd.V_drew)); exact HO_718001.out) hb); have n3_ := Aside0.mk (Kd.V_below (by (with_reducible repeat (first | apply Kd.V_alloc | apply Kd.V_drewN | apply Kd.V_drew)); exact HO_718002.out) hb); have n4_ := Aside0.mk (Kd.R_below (rz HO728) hb); have n5_ := Aside0.mk (Kd.R_below (rz HO730) hb); have n6_ := Aside0.mk (Kd.R_below (rz HO734) hb); have n7_ := Aside0.mk (Kd.R_below (rz HO736) hb); have n8_ := kb BK717 hb; have n9_ := kb BK718 hb; have n10_ := bp hb; clear HO_4; clear HO_5; clear HO_718001; clear HO_718002; clear HO728; clear HO730; clear HO734; clear HO736; clear BK717; clear BK718; clear HB; have HO_4 := n0_; have HO_5 := n1_; have HO_718001 := n2_; have HO_718002 := n3_; have HO728 := n4_; have HO730 := n5_; have HO734 := n6_; have HO736 := n7_; have BK717 := n8_; have BK718 := n9_; have HB := n10_; clear n0_ n1_ n2_ n3_ n4_ n5_ n6_ n7_ n8_ n9_ n10_; (try clear hb); (try clear hb2); (try clear hk); (try clear hi))); go_upto_region 11 with (first | (go_at_call 123; (with_reducible refine (dioramaref02_Over.calls k1 _ _ l0_1 _ _ x4_1 t725 t726 _ ?side1 ?side2 ?side3 ?side4 A17.out).mono ?_); (case side1 => repeat (first | exact (Kd.V_reads' HO_718001.out).2.2 | (with_reducible refine Kd.C_alloc ?_ _) | (with_reducible refine Kd.C_drewN ?_ _) | (with_reducible refine Kd.C_drew ?_))); (case side2 => exact (Kd.V_reads' HO_718001.out).2.1); (case side3 => repeat (first | exact (Kd.V_reads' HO_4.out).2.2 | (with_reducible refine Kd.C_alloc ?_ _) | (with_reducible refine Kd.C_drewN ?_ _) | (with_reducible refine Kd.C_drew ?_))); (case side4 => exact (Kd.V_reads' HO_4.out).2.1); rintro e w26 ⟨v727, v729, rfl, ho0, ho1, hb⟩; replace HO_4 := Aside0.mk (Kd.V_mono (Kd.V_told (Kd.V_told (Kd.V_old (by (with_reducible repeat (first | apply Kd.V_alloc | apply Kd.V_drewN | apply Kd.V_drew)); exact HO_4.out) hb) (Kd.R_base ho0)) (Kd.R_base ho1)) (fun _ h_ => h_.1)); replace HO_5 := Aside0.mk (Kd.V_mono (Kd.V_told (Kd.V_told (Kd.V_old (by (with_reducible repeat (first | apply Kd.V_alloc | apply Kd.V_drewN | apply Kd.V_drew)); exact HO_5.out) hb) (Kd.R_base ho0)) (Kd.R_base ho1)) (fun _ h_ => h_.1)); replace HO_718001 := Aside0.mk (Kd.V_mono (Kd.V_told (Kd.V_told (Kd.V_old (by (with_reducible repeat (first | apply Kd.V_alloc | apply Kd.V_drewN | apply Kd.V_drew)); exact HO_718001.out) hb) (Kd.R_base ho0)) (Kd.R_base ho1)) (fun _ h_ => h_.1)); replace HO_718002 := Aside0.mk (Kd.V_mono (Kd.V_told (Kd.V_told (Kd.V_old (by (with_reducible repeat (first | apply Kd.V_alloc | apply Kd.V_drewN | apply Kd.V_drew)); exact HO_718002.out) hb) (Kd.R_base ho0)) (Kd.R_base ho1)) (fun _ h_ => h_.1)); have HO728 := Aside0.mk (Kd.R_lower (Kd.R_newM (M := fun k_ => (w.heap.size ≤ k_)) ho0 sz (fun k_ h_ => h_)) sz); have HO730 := Aside0.mk (Kd.R_lower (Kd.R_newM (M := fun k_ => (w.heap.size ≤ k_)) ho1 sz (fun k_ h_ => h_)) sz); replace BK717 := kb BK717 hb; replace BK718 := kb BK718 hb; replace HB := bp hb; clear hb ho0 ho1; obtain ⟨hcz27_0, hcz27_1, hcz27_2, hfz27_0, hfz27_1, hfz27_2⟩ := xc3 BK717) | (go_at_call 123; (with_reducible refine (dioramaref02_Over.calls k1 _ _ l0_2 _ _ x4_1 t731 t732 _ ?side1 ?side2 ?side3 ?side4 A18.out).mono ?_); (case side1 => repeat (first | exact (Kd.V_reads' HO_718002.out).2.2 | (with_reducible refine Kd.C_alloc ?_ _) | (with_reducible refine Kd.C_drewN ?_ _) | (with_reducible refine Kd.C_drew ?_))); (case side2 => exact (Kd.V_reads' HO_718002.out).2.1); (case side3 => repeat (first | exact (Kd.V_reads' HO_4.out).2.2 | (with_reducible refine Kd.C_alloc ?_ _) | (with_reducible refine Kd.C_drewN ?_ _) | (with_reducible refine Kd.C_drew ?_))); (case side4 => exact (Kd.V_reads' HO_4.out).2.1); rintro e w28 ⟨v733, v735, rfl, ho0, ho1, hb⟩; replace HO_4 := Aside0.mk (Kd.V_mono (Kd.V_told (Kd.V_told (Kd.V_old (by (with_reducible repeat (first | apply Kd.V_alloc | apply Kd.V_drewN | apply Kd.V_drew)); exact HO_4.out) hb) (Kd.R_base ho0)) (Kd.R_base ho1)) (fun _ h_ => h_.1)); replace HO_5 := Aside0.mk (Kd.V_mono (Kd.V_told (Kd.V_told (Kd.V_old (by (with_reducible repeat (first | apply Kd.V_alloc | apply Kd.V_drewN | apply Kd.V_drew)); exact HO_5.out) hb) (Kd.R_base ho0)) (Kd.R_base ho1)) (fun _ h_ => h_.1)); replace HO_718001 := Aside0.mk (Kd.V_mono (Kd.V_told (Kd.V_told (Kd.V_old (by (with_reducible repeat (first | apply Kd.V_alloc | apply Kd.V_drewN | apply Kd.V_drew)); exact HO_718001.out) hb) (Kd.R_base ho0)) (Kd.R_base ho1)) (fun _ h_ => h_.1)); replace HO_718002 := Aside0.mk (Kd.V_mono (Kd.V_told (Kd.V_told (Kd.V_old (by (with_reducible repeat (first | apply Kd.V_alloc | apply Kd.V_drewN | apply Kd.V_drew)); exact HO_718002.out) hb) (Kd.R_base ho0)) (Kd.R_base ho1)) (fun _ h_ => h_.1)); have HO734 := Aside0.mk (Kd.R_lower (Kd.R_new' (Kd.R_new' (Kd.R_newM (M := fun k_ => (w.heap.size ≤ k_)) ho0 sz (fun k_ h_ => h_)) (Kd.R_lt (rz HO728))) (Kd.R_lt (rz HO730))) sz); have HO736 := Aside0.mk (Kd.R_lower (Kd.R_new' (Kd.R_new' (Kd.R_newM (M := fun k_ => (w.heap.size ≤ k_)) ho1 sz (fun k_ h_ => h_)) (Kd.R_lt (rz HO728))) (Kd.R_lt (rz HO730))) sz); replace HO728 := Aside0.mk (Kd.R_mono (Kd.R_told (Kd.R_told (Kd.R_old (rz HO728) hb) (Kd.R_base ho0)) (Kd.R_base ho1)) (fun _ h_ => h_.1)); replace HO730 := Aside0.mk (Kd.R_mono (Kd.R_told (Kd.R_told (Kd.R_old (rz HO730) hb) (Kd.R_base ho0)) (Kd.R_base ho1)) (fun _ h_ => h_.1)); replace BK717 := kb BK717 hb; replace BK718 := kb BK718 hb; replace HB := bp hb; clear hb ho0 ho1; obtain ⟨Ao29, co29, eo29⟩ := Kd.R_slice HO728.out; subst eo29) | (go_at_call 70; (with_reducible refine (dioramaref02_Small.calls k1 _ _ t725 1152921504606846976 t737 t738 _ ?side1 ?side2 A19.out).mono ?_); (case side1 => exact cr HO728); (case side2 => exact (Kd.R_reads' HO728.out).2.1); rintro e w30 ⟨rfl, hb⟩; replace HO_4 := Aside0.mk (Kd.V_below (by (with_reducible repeat (first | apply Kd.V_alloc | apply Kd.V_drewN | apply Kd.V_drew)); exact HO_4.out) hb); replace HO_5 := Aside0.mk (Kd.V_below (by (with_reducible repeat (first | apply Kd.V_alloc | apply Kd.V_drewN | apply Kd.V_drew)); exact HO_5.out) hb); replace HO_718001 := Aside0.mk (Kd.V_below (by (with_reducible repeat (first | apply Kd.V_alloc | apply Kd.V_drewN | apply Kd.V_drew)); exact HO_718001.out) hb); replace HO_718002 := Aside0.mk (Kd.V_below (by (with_reducible repeat (first | apply Kd.V_alloc | apply Kd.V_drewN | apply Kd.V_drew)); exact HO_718002.out) hb); replace HO728 := Aside0.mk (Kd.R_below (rz HO728) hb); replace HO730 := Aside0.mk (Kd.R_below (rz HO730) hb); replace HO734 := Aside0.mk (Kd.R_below (rz HO734) hb); replace HO736 := Aside0.mk (Kd.R_below (rz HO736) hb); replace BK717 := kb BK717 hb; replace BK718 := kb BK718 hb; replace HB := bp hb; clear hb; obtain ⟨Ao31, co31, eo31⟩ := Kd.R_slice HO734.out; subst eo31) | (go_at_call 70; (with_reducible refine (dioramaref02_Small.calls k1 _ _ t731 1152921504606846976 t739 t740 _ ?side1 ?side2 A20.out).mono ?_); (case side1 => exact cr HO734); (case side2 => exact (Kd.R_reads' HO734.out).2.1); rintro e w32 ⟨rfl, hb⟩; replace HO_4 := Aside0.mk (Kd.V_below (by (with_reducible repeat (first | apply Kd.V_alloc | apply Kd.V_drewN | apply Kd.V_drew)); exact HO_4.out) hb); replace HO_5 := Aside0.mk (Kd.V_below (by (with_reducible repeat (first | apply Kd.V_alloc | apply Kd.V_drewN | apply Kd.V_drew)); exact HO_5.out) hb); replace HO_718001 := Aside0.mk (Kd.V_below (by (with_reducible repeat (first | apply Kd.V_alloc | apply Kd.V_drewN | apply Kd.V_drew)); exact HO_718001.out) hb); replace HO_718002 := Aside0.mk (Kd.V_below (by (with_reducible repeat (first | apply Kd.V_alloc | apply Kd.V_drewN | apply Kd.V_drew)); exact HO_718002.out) hb); replace HO728 := Aside0.mk (Kd.R_below (rz HO728) hb); replace HO730 := Aside0.mk (Kd.R_below (rz HO730) hb); replace HO734 := Aside0.mk (Kd.R_below (rz HO734) hb); replace HO736 := Aside0.mk (Kd.R_below (rz HO736) hb); replace BK717 := kb BK717 hb; replace BK718 := kb BK718 hb; replace HB := bp hb; clear hb; (try clear hi))))
     (try simp only [Act.put, List.setIfInBounds_toArray, List.set_cons_zero, List.set_cons_succ])
     go_cut [65] (fun v65 wc => ∃ (kq : Nat) (x65_20 : Bool), v65 = .bool x65_20 ∧ Aside0 (dioramaref02_Time.j1 kq t737 t739 x65_20 a0_0 l0_1 l0_2 = some (r1, r2, r3)) ∧ Aside0 (kq ≤ k1) ∧ Aside0 (Kd.V (Kd.int .i64) 3 wc w.heap.size (fun k_ => ((P0_1_ k_ ∨ P0_2_ k_) ∨ w.heap.size ≤ k_) ∧ k_ ≠ gb717 ∧ k_ ≠ gb718) (.slice A0_1 l0_1.length c0_1) l0_1) ∧ Aside0 (Kd.V (Kd.int .i64) 3 wc w.heap.size (fun k_ => ((P0_1_ k_ ∨ P0_2_ k_) ∨ w.heap.size ≤ k_) ∧ k_ ≠ gb717 ∧ k_ ≠ gb718) (.slice A0_2 l0_2.length c0_2) l0_2) ∧ Aside0 (wc.heap[gb717]? = some (.cells #[.bool a0_0, (.slice A0_1 l0_1.length c0_1), (.slice A0_2 l0_2.length c0_2)] 95 (0, 0))) ∧ Aside0 (wc.heap[gb718]? = some (.cells #[.int .i64 0, .int .i64 0] 37 (0, 0))) ∧ Aside0 (Below w.heap.size w wc))
     case first =>
      have H := HC21.out; clear HC21
      by_cases c33 : t738 = true
      ·subst c33; rw [if_pos rfl] at H; have H' := Aside0.mk H; clear H
       go_wp2
       repeat (go_quiet (fail); try go_wp2)
       go_meet
       case rel => exact ⟨_, (!t740), jz, H', ⟨by have := HK1.out; first | omega | exact Nat.le_refl _⟩, ⟨by (with_reducible repeat (first | apply Kd.V_alloc | apply Kd.V_drewN | apply Kd.V_drew)); exact Kd.V_mono HO_718001.out (fun _ hk => ⟨hk.1.1.1.1.1, ⟨hk.1.1.1.1.2.1, hk.1.1.1.1.2.2⟩⟩)⟩, ⟨by (with_reducible repeat (first | apply Kd.V_alloc | apply Kd.V_drewN | apply Kd.V_drew)); exact Kd.V_mono HO_718002.out (fun _ hk => ⟨hk.1.1.1.1.1, ⟨hk.1.1.1.1.2.1, hk.1.1.1.1.2.2⟩⟩)⟩, ⟨kz⟩, ⟨kz⟩, ⟨bz⟩⟩
      ·obtain rfl := bf c33; rw [if_neg (show ¬ (false = true) by decide)] at H; have H' := Aside0.mk H; clear H
       go_wp2
       repeat (go_quiet (fail); try go_wp2)
       go_meet
       case rel => exact ⟨_, (true), jz, H', ⟨by have := HK1.out; first | omega | exact Nat.le_refl _⟩, ⟨by (with_reducible repeat (first | apply Kd.V_alloc | apply Kd.V_drewN | apply Kd.V_drew)); exact Kd.V_mono HO_718001.out (fun _ hk => ⟨hk.1.1.1.1.1, ⟨hk.1.1.1.1.2.1, hk.1.1.1.1.2.2⟩⟩)⟩, ⟨by (with_reducible repeat (first | apply Kd.V_alloc | apply Kd.V_drewN | apply Kd.V_drew)); exact Kd.V_mono HO_718002.out (fun _ hk => ⟨hk.1.1.1.1.1, ⟨hk.1.1.1.1.2.1, hk.1.1.1.1.2.2⟩⟩)⟩, ⟨kz⟩, ⟨kz⟩, ⟨bz⟩⟩
     case rest =>
      clear HC21
      try clear c1
      try clear c2
      try clear c2b0
      try clear c2b1
      try clear c2b2
      try clear p2
      try clear c3
      try clear c5
      try clear c8
      try clear c10
      try clear c12
      try clear c12b0
      try clear c12b1
      try clear c23
      try clear c33
      try clear hcz11_0
      try clear hcz11_1
      try clear hcz11_2
      try clear hcz24_0
      try clear hcz24_1
      try clear hcz24_2
      try clear hcz27_0
      try clear hcz27_1
      try clear hcz27_2
      try clear hcz6_0
      try clear hcz6_1
      try clear hcz6_2
      try clear hcz7_0
      try clear hcz7_1
      try clear hfz11_0
      try clear hfz11_1
      try clear hfz11_2
      try clear hfz24_0
      try clear hfz24_1
      try clear hfz24_2
      try clear hfz27_0
      try clear hfz27_1
      try clear hfz27_2
      try clear hfz6_0
      try clear hfz6_1
      try clear hfz6_2
      try clear hfz7_0
      try clear hfz7_1
      try clear p2
      obtain ⟨kq, x65_20, rfl, HA, HJ20, HO_718001, HO_718002, BK717, BK718, HB⟩ := hcut
      cases kq with
      | zero => exact absurd HA.out (by simp [dioramaref02_Time.j1])
      | succ kj20 =>
       have H := HA.out; clear HA; simp only [dioramaref02_Time.j1] at H
       by_cases c34 : x65_20 = true
       ·subst c34; rw [if_pos rfl] at H; simp only [Option.some.injEq, Prod.mk.injEq] at H; obtain ⟨rfl, rfl, rfl⟩ := H; have hnb35 := NB718_717.out; have hnc35 := NB717_718.out; obtain ⟨hcz36_0, hcz36_1, hfz36_0, hfz36_1⟩ := xc2 BK718
        go_wp2
        repeat (go_quiet (fail); try go_wp2)
        refine bodyPost_ret (results_ct rfl _ _ gb718 37 #[.int .i64 0, .int .i64 0] (0, 0) _ rfl (by (with_reducible repeat (first | refine blk_drewN ?_ _ | refine blk_drew ?_ | refine blk_alloc ?_ _)); refine blk_put (cs := #[.int .i64 0, .int .i64 0]) ?_ 1 _ rfl; (with_reducible repeat (first | refine blk_drewN ?_ _ | refine blk_drew ?_ | refine blk_alloc ?_ _)); refine blk_put (cs := #[.int .i64 0, .int .i64 0]) ?_ 0 _ rfl; (with_reducible repeat (first | refine blk_drewN ?_ _ | refine blk_drew ?_ | refine blk_alloc ?_ _)); exact BK718.out) Try.underlying37 rfl (by kernel_rfl)) rfl ?_
        exact ⟨ez, bz⟩
       ·obtain rfl := bf c34; rw [if_neg (show ¬ (false = true) by decide)] at H
        by_cases c37 : a0_0 = true
        ·subst c37; rw [if_pos rfl] at H; simp only [Option.some.injEq, Prod.mk.injEq] at H; obtain ⟨rfl, rfl, rfl⟩ := H; have hnb38 := NB717_718.out; have hnc38 := NB718_717.out; obtain ⟨hcz39_0, hcz39_1, hcz39_2, hfz39_0, hfz39_1, hfz39_2⟩ := xc3 BK717; obtain ⟨hcz40_0, hcz40_1, hfz40_0, hfz40_1⟩ := xc2 BK718
         go_wp2
         repeat (go_quiet (fail); try go_wp2)
         refine bodyPost_ret (results_ct rfl _ _ gb718 37 #[.int .i64 (wrap64 (-t737)), .int .i64 t739] (0, 0) _ rfl (by (with_reducible repeat (first | refine blk_drewN ?_ _ | refine blk_drew ?_ | refine blk_alloc ?_ _)); refine blk_put (cs := #[.int .i64 (wrap64 (-t737)), .int .i64 0]) ?_ 1 _ rfl; (with_reducible repeat (first | refine blk_drewN ?_ _ | refine blk_drew ?_ | refine blk_alloc ?_ _)); refine blk_put (cs := #[.int .i64 0, .int .i64 0]) ?_ 0 _ rfl; (with_reducible repeat (first | refine blk_drewN ?_ _ | refine blk_drew ?_ | refine blk_alloc ?_ _)); exact BK718.out) Try.underlying37 rfl (by kernel_rfl)) rfl ?_
         exact ⟨ez, bz⟩
        ·obtain rfl := bf c37; rw [if_neg (show ¬ (false = true) by decide)] at H; simp only [Option.some.injEq, Prod.mk.injEq] at H; obtain ⟨rfl, rfl, rfl⟩ := H; have hnb41 := NB717_718.out; have hnc41 := NB718_717.out; obtain ⟨hcz42_0, hcz42_1, hcz42_2, hfz42_0, hfz42_1, hfz42_2⟩ := xc3 BK717; obtain ⟨hcz43_0, hcz43_1, hfz43_0, hfz43_1⟩ := xc2 BK718
         go_wp2
         repeat (go_quiet (fail); try go_wp2)
         refine bodyPost_ret (results_ct rfl _ _ gb718 37 #[.int .i64 t737, .int .i64 t739] (0, 0) _ rfl (by (with_reducible repeat (first | refine blk_drewN ?_ _ | refine blk_drew ?_ | refine blk_alloc ?_ _)); refine blk_put (cs := #[.int .i64 t737, .int .i64 0]) ?_ 1 _ rfl; (with_reducible repeat (first | refine blk_drewN ?_ _ | refine blk_drew ?_ | refine blk_alloc ?_ _)); refine blk_put (cs := #[.int .i64 0, .int .i64 0]) ?_ 0 _ rfl; (with_reducible repeat (first | refine blk_drewN ?_ _ | refine blk_drew ?_ | refine blk_alloc ?_ _)); exact BK718.out) Try.underlying37 rfl (by kernel_rfl)) rfl ?_
         exact ⟨ez, bz⟩
def dioramaref02_Lowest.f (k : Nat) (a0_0 : Int) (a0_1 : Int) : Option (Int × Int × Int) := (dioramaref02_Valid.f a0_0 a0_1).bind fun t1213 => (if t1213 = true then ((dioramaref02_RatOf.f k a0_0 a0_1).bind fun bt1214 => ((dioramaref02_Time.f k bt1214.1 bt1214.2.1 bt1214.2.2).bind fun bt1221 => (some (bt1221.1, bt1221.2.1, bt1221.2.2)))) else (some (0, 0, 4)))
set_option maxHeartbeats 8000000 in
set_option maxRecDepth 100000 in
theorem dioramaref02_Lowest.calls (k : Nat) (a0_0 : Int) (a0_1 : Int) (r1 : Int) (r2 : Int) (r3 : Int) (w : World) (h : dioramaref02_Lowest.f k a0_0 a0_1 = some (r1, r2, r3)) :
  Calls Try.prog 47 #[.agg #[.int .i64 a0_0, .int .i64 a0_1]] w fun e w' => e = .returned (.tuple #[.agg #[.int .i64 r1, .int .i64 r2], .int .i64 r3]) ∧ Below w.heap.size w w' := by
 have hu37 := Try.underlying37; have HB := Aside0.mk (Below.refl w.heap.size w); have H : ((dioramaref02_Valid.f a0_0 a0_1).bind fun t1213 => (if t1213 = true then ((dioramaref02_RatOf.f k a0_0 a0_1).bind fun bt1214 => ((dioramaref02_Time.f k bt1214.1 bt1214.2.1 bt1214.2.2).bind fun bt1221 => (some (bt1221.1, bt1221.2.1, bt1221.2.2)))) else (some (0, 0, 4)))) = some (r1, r2, r3) := h
 clear h; obtain ⟨t1213, A2, H⟩ := ob H
 by_cases c3 : t1213 = true
 ·subst c3; rw [if_pos rfl] at H; obtain ⟨⟨t1214, t1215, t1218⟩, A4, H⟩ := ob H
  (try dsimp only at H)
  obtain ⟨⟨t1221, t1222, t1223⟩, A5, H⟩ := ob H
  (try dsimp only at H)
  simp only [Option.some.injEq, Prod.mk.injEq] at H; obtain ⟨rfl, rfl, rfl⟩ := H
  go_enter Try.func47, Try.ntmps47
  go_wp2_with (first | ((with_reducible refine gate_dst (N := 1) rfl ?_); refine zB 1 37 #[.int .i64 a0_0, .int .i64 a0_1] ?_; intro gb1211 hg w6 hbox hb; have BK1211 := Aside0.mk hbox; have GW1211 := gz hg; have GE1211 := gz hg; replace HB := bp hb; clear hb hbox hg) | ((with_reducible refine gate_dst (N := 2) rfl ?_); refine zB 2 37 #[.int .i64 0, .int .i64 0] ?_; intro gb1212 hg w7 hbox hb; have BK1212 := Aside0.mk hbox; have GW1212 := gz hg; have GE1212 := gz hg; replace HB := bp hb; have NB1211_1212 := Aside0.mk ((by rw [hg]; exact Nat.ne_of_lt (bl BK1211) : gb1211 ≠ gb1212)); have NB1212_1211 := Aside0.mk ((by rw [hg]; exact Nat.ne_of_gt (bl BK1211) : gb1212 ≠ gb1211)); replace BK1211 := kb BK1211 hb; clear hb hbox hg; have hnb8 := NB1211_1212.out; have hnc8 := NB1212_1211.out; obtain ⟨hcz9_0, hcz9_1, hfz9_0, hfz9_1⟩ := xc2 BK1211) | ((with_reducible refine gate_callee (f := 35) rfl ?_); refine zC 5 Try.func35 #[.agg #[.int .i64 a0_0, .int .i64 a0_1]] ?_; (with_reducible refine (dioramaref02_Valid.calls a0_0 a0_1 true _ A2.out).mono ?_); rintro e w10 ⟨rfl, hb⟩; refine ⟨_, rfl, ?_⟩; replace BK1211 := kb BK1211 hb; replace BK1212 := kb BK1212 hb; replace HB := bp hb; clear hb; obtain ⟨hcz11_0, hcz11_1, hfz11_0, hfz11_1⟩ := xc2 BK1211) | ((with_reducible refine gate_callee (f := 85) rfl ?_); refine zC 9 Try.func85 #[.agg #[.int .i64 a0_0, .int .i64 a0_1]] ?_; (with_reducible refine (dioramaref02_RatOf.calls k a0_0 a0_1 t1214 t1215 t1218 _ A4.out).mono ?_); rintro e w12 ⟨v1216, v1219, rfl, ho0, ho1, hb⟩; refine ⟨_, rfl, ?_⟩; have HO1217 := Aside0.mk (Kd.R_lower ho0 sz); have HO1220 := Aside0.mk (Kd.R_lower ho1 sz); replace BK1211 := kb BK1211 hb; replace BK1212 := kb BK1212 hb; replace HB := bp hb; clear hb ho0 ho1; obtain ⟨Ao13, co13, eo13⟩ := Kd.R_slice HO1217.out; subst eo13; obtain ⟨Ao14, co14, eo14⟩ := Kd.R_slice HO1220.out; subst eo14) | ((with_reducible refine gate_callee (f := 87) rfl ?_); refine zC 10 Try.func87 #[.agg #[.bool t1214, .slice Ao13 t1215.length co13, .slice Ao14 t1218.length co14]] ?_; (with_reducible refine (dioramaref02_Time.calls k t1214 (fun k_ => some k_ = (.slice Ao13 t1215.length co13 : Value).ownBlock) _ _ t1215 (fun k_ => some k_ = (.slice Ao14 t1218.length co14 : Value).ownBlock) _ _ t1218 t1221 t1222 t1223 _ ?side1 ?side2 A5.out).mono ?_); (case side1 => exact Kd.R_V (Kd.R_tight rfl (Kd.R_types (Kd.R_types (HO1217.out) BK1211.out (by decide)) BK1212.out (by decide)))); (case side2 => exact Kd.R_V (Kd.R_tight rfl (Kd.R_types (Kd.R_types (HO1220.out) BK1211.out (by decide)) BK1212.out (by decide)))); rintro e w15 ⟨rfl, hb⟩; refine ⟨_, rfl, ?_⟩; replace HO1217 := Aside0.mk (Kd.R_below (rz HO1217) hb); replace HO1220 := Aside0.mk (Kd.R_below (rz HO1220) hb); replace BK1211 := kb BK1211 hb; replace BK1212 := kb BK1212 hb; replace HB := bp hb; clear hb; obtain ⟨hcz16_0, hcz16_1, hfz16_0, hfz16_1⟩ := xc2 BK1212))
  refine bodyPost_ret (results_ct rfl _ _ gb1212 37 #[.int .i64 t1221, .int .i64 t1222] (0, 0) _ rfl (by (with_reducible repeat (first | refine blk_drewN ?_ _ | refine blk_drew ?_ | refine blk_alloc ?_ _)); refine blk_put (cs := #[.int .i64 t1221, .int .i64 0]) ?_ 1 _ rfl; (with_reducible repeat (first | refine blk_drewN ?_ _ | refine blk_drew ?_ | refine blk_alloc ?_ _)); refine blk_put (cs := #[.int .i64 0, .int .i64 0]) ?_ 0 _ rfl; (with_reducible repeat (first | refine blk_drewN ?_ _ | refine blk_drew ?_ | refine blk_alloc ?_ _)); exact BK1212.out) Try.underlying37 rfl (by kernel_rfl)) rfl ?_
  exact ⟨ez, bz⟩
 ·obtain rfl := bf c3; rw [if_neg (show ¬ (false = true) by decide)] at H; simp only [Option.some.injEq, Prod.mk.injEq] at H; obtain ⟨rfl, rfl, rfl⟩ := H
  go_enter Try.func47, Try.ntmps47
  go_wp2_with (first | ((with_reducible refine gate_dst (N := 1) rfl ?_); refine zB 1 37 #[.int .i64 a0_0, .int .i64 a0_1] ?_; intro gb1211 hg w17 hbox hb; have BK1211 := Aside0.mk hbox; have GW1211 := gz hg; have GE1211 := gz hg; replace HB := bp hb; clear hb hbox hg) | ((with_reducible refine gate_dst (N := 2) rfl ?_); refine zB 2 37 #[.int .i64 0, .int .i64 0] ?_; intro gb1212 hg w18 hbox hb; have BK1212 := Aside0.mk hbox; have GW1212 := gz hg; have GE1212 := gz hg; replace HB := bp hb; have NB1211_1212 := Aside0.mk ((by rw [hg]; exact Nat.ne_of_lt (bl BK1211) : gb1211 ≠ gb1212)); have NB1212_1211 := Aside0.mk ((by rw [hg]; exact Nat.ne_of_gt (bl BK1211) : gb1212 ≠ gb1211)); replace BK1211 := kb BK1211 hb; clear hb hbox hg; have hnb19 := NB1211_1212.out; have hnc19 := NB1212_1211.out; obtain ⟨hcz20_0, hcz20_1, hfz20_0, hfz20_1⟩ := xc2 BK1211) | ((with_reducible refine gate_callee (f := 35) rfl ?_); refine zC 5 Try.func35 #[.agg #[.int .i64 a0_0, .int .i64 a0_1]] ?_; (with_reducible refine (dioramaref02_Valid.calls a0_0 a0_1 false _ A2.out).mono ?_); rintro e w21 ⟨rfl, hb⟩; refine ⟨_, rfl, ?_⟩; replace BK1211 := kb BK1211 hb; replace BK1212 := kb BK1212 hb; replace HB := bp hb; clear hb; obtain ⟨hcz22_0, hcz22_1, hfz22_0, hfz22_1⟩ := xc2 BK1212))
  refine bodyPost_ret (results_ct rfl _ _ gb1212 37 #[.int .i64 0, .int .i64 0] (0, 0) _ rfl (by (with_reducible repeat (first | refine blk_drewN ?_ _ | refine blk_drew ?_ | refine blk_alloc ?_ _)); refine blk_put (cs := #[.int .i64 0, .int .i64 0]) ?_ 1 _ rfl; (with_reducible repeat (first | refine blk_drewN ?_ _ | refine blk_drew ?_ | refine blk_alloc ?_ _)); refine blk_put (cs := #[.int .i64 0, .int .i64 0]) ?_ 0 _ rfl; (with_reducible repeat (first | refine blk_drewN ?_ _ | refine blk_drew ?_ | refine blk_alloc ?_ _)); exact BK1212.out) Try.underlying37 rfl (by kernel_rfl)) rfl ?_
  exact ⟨ez, bz⟩
end Go.Proofs.Ytpbhepdgamoiaaa.E
namespace Go.Proofs.Ytpbhepdgamoiaaa.Bk
open Go.RowKit Go Go.Proofs.YtpbhepdgamoiaaaW.PrintWords Go.Proofs.YtpbhepdgamoiaaaW.PrintLast Go.Proofs.YtpbhepdgamoiaaaW.PrintMore Go.Proofs.Ytpbhepdgamoiaaa.Ml Go.Proofs.Ytpbhepdgamoiaaa.Mn Go.Proofs.Ytpbhepdgamoiaaa.Nd Go.Proofs.Ytpbhepdgamoiaaa.Z Go.Proofs.Ytpbhepdgamoiaaa.Nc Go.Proofs.Ytpbhepdgamoiaaa.Nb Go.Proofs.Ytpbhepdgamoiaaa.Qa Go.Proofs.Ytpbhepdgamoiaaa.Ea Go.Proofs.Ytpbhepdgamoiaaa.Ra Go.Proofs.Ytpbhepdgamoiaaa.Rf Go.Proofs.Ytpbhepdgamoiaaa.Er Go.Proofs.Ytpbhepdgamoiaaa.Ek Go.Proofs.Ytpbhepdgamoiaaa.Et Go.Proofs.Ytpbhepdgamoiaaa.E Go.Proofs.Ytpbhepdgamoiaaa.Pe
set_option linter.unusedVariables false
set_option linter.unusedSimpArgs false
abbrev Spn := S63
theorem sgn_q (q : Rat) : cmpI q.num 0 = cmpQ q 0 := by
 unfold cmpI cmpQ
 have h0 : ∀ r : Rat, r.num < 0 ↔ r < 0 := by
  intro r
  rw [← Rat.not_le, ← Rat.num_nonneg]
  omega
 have h1 := h0 q
 have h2 : 0 < q.num ↔ 0 < q := by
  have h3 := h0 (-q)
  rw [Rat.neg_num] at h3
  constructor
  ·intro h
   have := h3.1 (by omega)
   grind
  ·intro h
   have := h3.2 (by grind)
   omega
 by_cases c1 : q < 0
 ·rw [if_pos (h1.2 c1), if_pos c1]
 ·rw [if_neg (fun h => c1 (h1.1 h)), if_neg c1]
  by_cases c2 : 0 < q
  ·rw [if_pos (h2.2 c2), if_pos c2]
  ·rw [if_neg (fun h => c2 (h2.1 h)), if_neg c2]
set_option maxRecDepth 100000 in
theorem signQ_n (g : Nat) (q : Rat) (n : Nat) (w : World) (h : RQ w g q n) : Calls Try.prog 99 #[.pointer (some ⟨g, 0, none⟩)] w (ValP w (.int .i64 (cmpQ q 0))) := by
 have HR := Aside0.mk h
 go_enter Try.func99, Try.ntmps99
 go_wp2_with fail
 refine (signI_n g 0 q.num n w HR.out.num).mono ?_
 rintro e w2 ⟨rfl, hb⟩
 have HB := Aside0.mk hb
 rw [sgn_q]
 clear hb
 go_wp2_with fail
 go_ret
 exact ⟨rfl, HB.out⟩
def spn (u v : Rat) : Spn := ⟨⟨(tmV u).1.1, (tmV u).1.2⟩, ⟨(tmV v).1.1, (tmV v).1.2⟩⟩
def bckL (ms ts : Int) (p : Rat) : List Spn → Int → List Ed → List Spn × Int
 | out, _, [] => (out, 0)
 | out, b, x :: t =>
  if x.f1 < 0 then bckL ms ts p out (b + x.f0) t
  else if x.f2 = 0 then
   (if p - qq x.f1 ts = 0 then (if (tmV (qq b ms)).2 = 0 ∧ (tmV (qq (b + x.f0) ms)).2 = 0 then bckL ms ts p (out ++ [spn (qq b ms) (qq (b + x.f0) ms)]) (b + x.f0) t else ([], 2))
       else bckL ms ts p out (b + x.f0) t)
  else if p - qq x.f1 ts < 0 ∨ ¬ qq b ms + (p - qq x.f1 ts) * qq x.f3 x.f2 < qq (b + x.f0) ms then bckL ms ts p out (b + x.f0) t
  else if (tmV (qq b ms + (p - qq x.f1 ts) * qq x.f3 x.f2)).2 = 0 then bckL ms ts p (out ++ [spn (qq b ms + (p - qq x.f1 ts) * qq x.f3 x.f2) (qq b ms + (p - qq x.f1 ts) * qq x.f3 x.f2)]) (b + x.f0) t
  else ([], 2)
theorem bckL_cons (ms ts : Int) (p : Rat) (out : List Spn) (b : Int) (x : Ed) (t : List Ed) : bckL ms ts p out b (x :: t) =
  if x.f1 < 0 then bckL ms ts p out (b + x.f0) t
  else if x.f2 = 0 then
   (if p - qq x.f1 ts = 0 then (if (tmV (qq b ms)).2 = 0 ∧ (tmV (qq (b + x.f0) ms)).2 = 0 then bckL ms ts p (out ++ [spn (qq b ms) (qq (b + x.f0) ms)]) (b + x.f0) t else ([], 2))
       else bckL ms ts p out (b + x.f0) t)
  else if p - qq x.f1 ts < 0 ∨ ¬ qq b ms + (p - qq x.f1 ts) * qq x.f3 x.f2 < qq (b + x.f0) ms then bckL ms ts p out (b + x.f0) t
  else if (tmV (qq b ms + (p - qq x.f1 ts) * qq x.f3 x.f2)).2 = 0 then bckL ms ts p (out ++ [spn (qq b ms + (p - qq x.f1 ts) * qq x.f3 x.f2) (qq b ms + (p - qq x.f1 ts) * qq x.f3 x.f2)]) (b + x.f0) t
  else ([], 2) := rfl
def bckV (l : List Ed) (ms ts n d : Int) : List Spn × Int :=
 if chk l ms ts = 0 then (if Ea.valid n d = true then bckL ms ts (qq n d) [] 0 l else ([], 4)) else ([], chk l ms ts)
def SP (w : World) (r : List Spn × Int) (e : Ending) (w' : World) : Prop := ∃ v, e = .returned (.tuple #[v, .int .i64 r.2]) ∧ Kd.R k63 63 w' w.heap.size (fun _ => True) v r.1 ∧ Below w.heap.size w w'
structure Mb (w W : World) (n d : Int) : Prop where
 a : W.heap[w.heap.size]? = some (timeObj n d)
 below : Below w.heap.size w W
theorem Mb.step {w W W2 : World} {n d : Int} (h : Mb w W n d) (hb : Below W.heap.size W W2) : Mb w W2 n d := ⟨blk_below h.a hb, h.below.trans (hb.mono h.below.size)⟩
theorem Mb.start (w : World) (n d : Int) : Mb w (w.alloc (timeObj n d)) n d := ⟨blk_new w _, below_alloc (Below.refl _ w) _⟩
structure Sb (w W : World) (n d : Int) (v : Value) (out : List Spn) : Prop where
 m : Mb w W n d
 r : Kd.R k63 63 W w.heap.size (fun k => k ≠ w.heap.size) v out
theorem Sb.step {w W W2 : World} {n d : Int} {v : Value} {out : List Spn} (h : Sb w W n d v out) (hb : Below W.heap.size W W2) : Sb w W2 n d v out := ⟨h.m.step hb, Kd.R_below h.r hb⟩
structure Tb (w W : World) (n d : Int) (v : Value) (out : List Spn) (G : Nat) (X : Ed) : Prop where
 s : Sb w W n d v out
 e : W.heap[G]? = some (edO X.f0 X.f1 X.f2 X.f3)
theorem Tb.step {w W W2 : World} {n d : Int} {v : Value} {out : List Spn} {G : Nat} {X : Ed} (h : Tb w W n d v out G X) (hb : Below W.heap.size W W2) : Tb w W2 n d v out G X := ⟨h.s.step hb, blk_below h.e hb⟩
theorem Tb.cells {w W : World} {n d : Int} {v : Value} {out : List Spn} {G : Nat} {X : Ed} (h : Tb w W n d v out G X) : W.cell? ⟨G, 0, none⟩ = some (.int .i64 X.f0) ∧ W.cell? ⟨G, 1, none⟩ = some (.int .i64 X.f1) ∧ W.cell? ⟨G, 2, none⟩ = some (.int .i64 X.f2) ∧ W.cell? ⟨G, 3, none⟩ = some (.int .i64 X.f3) := ed_cells h.e
theorem Tb.start {w W : World} {n d : Int} {v : Value} {out : List Spn} (X : Ed) (h : Sb w W n d v out) : Tb w (W.alloc (edO X.f0 X.f1 X.f2 X.f3)) n d v out W.heap.size X := ⟨h.step (below_alloc (Below.refl _ W) _), blk_new W _⟩
set_option maxHeartbeats 16000000 in
set_option maxRecDepth 100000 in
theorem back_n (A0 : Option Addr) (c0 : Nat) (l0 : List Ed) (a1 : Int) (a2 : Int) (n d : Int) (w : World) (hr0 : Kd.C k77 w A0 l0.length l0) (hc0 : l0.length ≤ c0) :
  Calls Try.prog 46 #[.slice A0 l0.length c0, .int .i64 a1, .int .i64 a2, .agg #[.int .i64 n, .int .i64 d]] w (SP w (bckV l0 a1 a2 n d)) := by
 have hu := Try.underlying77
 have hu2 := Try.underlying37
 have hu3 := Try.underlying63
 have HR := Aside0.mk (And.intro hr0 hc0)
 have HC := Aside0.mk (fun W (hb : Below w.heap.size w W) => check_n A0 c0 l0 a1 a2 W (Kd.C_below hr0 hb) hc0)
 have HV := Aside0.mk (show bckV l0 a1 a2 n d = if chk l0 a1 a2 = 0 then (if Ea.valid n d = true then bckL a1 a2 (qq n d) [] 0 l0 else ([], 4)) else ([], chk l0 a1 a2) from rfl)
 have HO := Aside0.mk (fun h0 : chk l0 a1 a2 = 0 => chk_ok.1 h0)
 generalize bckV l0 a1 a2 n d = V at *
 generalize chk l0 a1 a2 = C at *
 clear hr0 hc0
 have hM := Aside0.mk (Mb.start w n d)
 go_enter Try.func46, Try.ntmps46
 go_wp2_with fail
 generalize hW : World.alloc w _ = W
 have HM := Aside0.mk (show Mb w W n d by rw [← hW]; exact hM.out)
 clear hW hM
 refine (HC.out W HM.out.below).mono ?_
 rintro e w2 ⟨rfl, hb2⟩
 have HM2 := Aside0.mk (HM.out.step hb2)
 clear hb2 HM HC
 by_cases hc : C = 0
 case neg =>
  have HV2 := Aside0.mk (show V = ([], C) by rw [HV.out, if_neg hc])
  clear HV HO
  go_wp2_with fail
  go_ret2
  rw [HV2.out]
  exact ⟨_, rfl, Kd.R_nil _ _ _ _ _, HM2.out.below⟩
 subst hc
 have HV2 := Aside0.mk (show V = if Ea.valid n d = true then bckL a1 a2 (qq n d) [] 0 l0 else ([], 4) by rw [HV.out, if_pos rfl])
 have HC := Aside0.mk (HO.out rfl)
 clear HV HO
 obtain ⟨p0, p1, f0, f1⟩ := time_cells HM2.out.a
 go_wp2_with fail
 refine (Valid_n n d w2).mono ?_
 rintro e w3 ⟨rfl, hb3⟩
 have HM3 := Aside0.mk (HM2.out.step hb3)
 clear hb3 HM2 p0 p1 f0 f1
 cases hv : Ea.valid n d with
 | false =>
  have HV3 := Aside0.mk (show V = ([], 4) by rw [HV2.out, hv, if_neg (by decide)])
  clear HV2 hv
  go_wp2_with fail
  go_ret2
  rw [HV3.out]
  exact ⟨_, rfl, Kd.R_nil _ _ _ _ _, HM3.out.below⟩
 | true =>
  have HV3 := Aside0.mk (show V = bckL a1 a2 (qq n d) [] 0 l0 by rw [HV2.out, hv, if_pos rfl])
  have HX := Aside0.mk (show (I64 n ∧ I64 d) ∧ d ≠ 0 by unfold Ea.valid at hv; simp only [Bool.and_eq_true, decide_eq_true_eq] at hv; exact ⟨⟨⟨by omega, by omega⟩, ⟨by omega, by omega⟩⟩, by omega⟩)
  clear HV2 hv
  go_wp2_with fail
  go_loopg [11, 12, 34] l0.length (fun kq v11 v12 v34 w' => ∃ (out : List Spn) (b i : Int), v12 = .int .i64 b ∧ v34 = .int .i64 i ∧ Aside0 (0 ≤ i ∧ i + kq = l0.length ∧ b = sumD (l0.take i.toNat)) ∧ Aside0 (V = bckL a1 a2 (qq n d) out b (l0.drop i.toNat)) ∧ Aside0 (Sb w w' n d v11 out ∧ out.length ≤ i.toNat))
  case atStart => exact ⟨[], 0, 0, rfl, rfl, ⟨by simp, by simp, by simp [sumD]⟩, ⟨by rw [HV3.out]; simp⟩, ⟨⟨HM3.out, Kd.R_nil _ _ _ _ _⟩, by simp⟩⟩
  case round =>
   clear HV3 HM3
   obtain ⟨out, b, i, rfl, rfl, hi, hL, hM⟩ := hrel
   by_cases hlt : i < (l0.length : Int)
   ·have hlb : decide (i < (l0.length : Int)) = true := decide_eq_true hlt
    have p0 := hi.out.1
    have HA := Aside0.mk (At.of p0 hlt hi.out.2.2 HC.out.2.2.1 HC.out.2.2.2)
    obtain ⟨ad, hA, q0, q1, q2, q3⟩ := at_T77 (Kd.C_below HR.out.1 hM.out.1.m.below) i p0 hlt
    subst hA
    obtain ⟨k1, rfl⟩ : ∃ k, gk = k + 1 := ⟨gk - 1, by have := hi.out.2; omega⟩
    generalize rd_T77 l0 i = X at *
    have hwi : wrap64 (i + 1) = i + 1 := by
     have := HC.out.2.1
     exact w64 (by omega) (by omega)
    have hwb : wrap64 (b + X.f0) = b + X.f0 := w64 (by have := HA.out.b0; have := HA.out.vd.d0; omega) (by have := HA.out.b1; omega)
    have HW := Aside0.mk (And.intro (And.intro hwi hwb) (And.intro (show 0 ≤ i + 1 ∧ i + 1 + (k1 : Int) = l0.length by have := hi.out.2.1; omega) (And.intro (show out.length ≤ (i + 1).toNat by have := hM.out.2; omega) (And.intro (show out.length + 1 ≤ (i + 1).toNat by have := hM.out.2; omega) (show out.length ≤ 100 by have := hM.out.2; have := HC.out.2.1; omega)))))
    have HL := Aside0.mk (show V = bckL a1 a2 (qq n d) out b (X :: l0.drop (i + 1).toNat) by rw [hL.out, HA.out.drop])
    replace p0 := eq_true p0
    replace hlt := eq_true hlt
    clear hwi hwb hi hL
    have HI := Aside0.mk (show (I64 b ∧ I64 (wrap64 (b + X.f0))) ∧ (I64 a1 ∧ a1 ≠ 0) ∧ (I64 a2 ∧ a2 ≠ 0) by
     have := HA.out.b0
     have := HA.out.b1
     have := HA.out.vd.d0
     have := HC.out.1.m0
     have := HC.out.1.m1
     have := HC.out.1.t0
     have := HC.out.1.t1
     rw [HW.out.1.2]
     exact ⟨⟨⟨by omega, by omega⟩, ⟨by omega, by omega⟩⟩, ⟨⟨by omega, by omega⟩, by omega⟩, ⟨⟨by omega, by omega⟩, by omega⟩⟩)
    have HJ := Aside0.mk (show I64 X.f1 ∧ I64 X.f2 ∧ (I64 X.f3 ∧ X.f3 ≠ 0) by
     have := HA.out.vd.m0
     have := HA.out.vd.m1
     have := HA.out.vd.n0
     have := HA.out.vd.n1
     have := HA.out.vd.e0
     have := HA.out.vd.e1
     exact ⟨⟨by omega, by omega⟩, ⟨by omega, by omega⟩, ⟨by omega, by omega⟩, by omega⟩)
    have hX := Aside0.mk (Tb.start X hM.out.1)
    go_wp2_with fail
    generalize hW1 : World.alloc wr _ = W1
    have HT := Aside0.mk (show Tb w W1 n d u11 out wr.heap.size X by rw [← hW1]; exact hX.out)
    clear hW1 hX hM q0 q1 q2 q3
    generalize wr.heap.size = G at *
    have hb0 : Below W1.heap.size W1 W1.drew := below_drew' (Below.refl _ _)
    refine start_ (n := 11) (S := fun w' => w'.cell? ⟨G, 0, none⟩ = some (.int .i64 X.f0)) (ds := []) (bs 11 0) (by kernel_rfl) rfl rfl (HT.out.step hb0).cells.1 (fun hHeld => ?_)
    refine zP 0 38 11 1 ?_
    refine zP 1 39 11 3 ?_
    refine zP 3 41 11 11 ?_
    refine zP 4 42 11 27 ?_
    refine zP 7 45 11 155 ?_
    refine zT 5 43 11 187 hHeld ?_
    refine zP 6 44 11 251 ?_
    refine zN 2 (some 40) 11 255 (fun K hK => ?_)
    refine zG Try.func78 #[.int .i64 b, .int .i64 a1] ?_
    with_reducible refine (ratioE_n b a1 W1.drew HI.out.1.1 HI.out.2.1.1 HI.out.2.1.2).mono ?_
    rintro e w5 ⟨g5, hg5, rfl, hb5, hN5⟩
    refine ⟨_, rfl, ?_⟩
    have hb5' := below_drew' hb5
    have H5 := Aside0.mk (And.intro hN5 (HT.out.step hb5'))
    clear hb5 hb5' hN5 hg5
    refine hK.out _ _ H5.out.2.cells.1 (fun hHeld => ?_)
    clear hK K
    refine zM 40 ?_
    refine zN 8 (some 46) 11 511 (fun K hK => ?_)
    refine zG Try.func78 #[.int .i64 (wrap64 (b + X.f0)), .int .i64 a1] ?_
    with_reducible refine (ratioE_n (wrap64 (b + X.f0)) a1 w5 HI.out.1.2 HI.out.2.1.1 HI.out.2.1.2).mono ?_
    rintro e w6 ⟨g6, hg6, rfl, hb6, hN6⟩
    refine ⟨_, rfl, ?_⟩
    have H6 := Aside0.mk (And.intro (H5.out.1.below hb6) (And.intro hN6 (H5.out.2.step hb6)))
    clear hb6 hN6 hg6
    refine hK.out _ _ H6.out.2.2.cells.1 (fun hHeld => ?_)
    clear hK K
    refine zM 46 ?_
    refine zP 9 15 11 1023 ?_
    refine zP 10 16 11 2047 ?_
    refine done_ (by kernel_rfl) ?_
    clear hHeld hb0 HT H5
    obtain ⟨c0, c1, c2, c3⟩ := H6.out.2.2.cells
    go_wp2_with fail
    have hb0 : Below w6.heap.size w6 w6.drew := below_drew' (Below.refl _ _)
    clear c0 c1 c2 c3
    refine start_ (n := 8) (S := fun w' => w'.cell? ⟨w.heap.size, 0, none⟩ = some (.int .i64 n) ∧ w'.cell? ⟨w.heap.size, 1, none⟩ = some (.int .i64 d) ∧ w'.cell? ⟨G, 1, none⟩ = some (.int .i64 X.f1)) (ds := []) (bs 8 0) (by kernel_rfl) rfl rfl ⟨(time_cells (H6.out.2.2.step hb0).s.m.a).1, (time_cells (H6.out.2.2.step hb0).s.m.a).2.1, (H6.out.2.2.step hb0).cells.2.1⟩ (fun hHeld => ?_)
    refine zP 2 53 8 4 ?_
    refine zP 4 55 8 20 ?_
    refine zT 0 51 8 21 hHeld ?_
    refine zT 3 54 8 29 hHeld ?_
    refine zN 1 (some 52) 8 31 (fun K hK => ?_)
    refine zG Try.func80 #[.agg #[.int .i64 n, .int .i64 d]] ?_
    with_reducible refine (numberE_n n d w6.drew HX.out.1.1 HX.out.1.2 HX.out.2).mono ?_
    rintro e w7 ⟨g7, hg7, rfl, hb7, hN7⟩
    refine ⟨_, rfl, ?_⟩
    have hb7' := below_drew' hb7
    have H7 := Aside0.mk (And.intro hN7 (And.intro (H6.out.1.below hb7') (And.intro (H6.out.2.1.below hb7') (H6.out.2.2.step hb7'))))
    clear hb7 hb7' hN7 hg7
    refine hK.out _ _ ⟨(time_cells H7.out.2.2.2.s.m.a).1, (time_cells H7.out.2.2.2.s.m.a).2.1, H7.out.2.2.2.cells.2.1⟩ (fun hHeld => ?_)
    clear hK K
    refine zM 52 ?_
    refine zN 5 (some 56) 8 63 (fun K hK => ?_)
    refine zG Try.func78 #[.int .i64 X.f1, .int .i64 a2] ?_
    with_reducible refine (ratioE_n X.f1 a2 w7 HJ.out.1 HI.out.2.2.1 HI.out.2.2.2).mono ?_
    rintro e w8 ⟨g8, hg8, rfl, hb8, hN8⟩
    refine ⟨_, rfl, ?_⟩
    have H8 := Aside0.mk (And.intro hN8 (And.intro (H7.out.1.below hb8) (And.intro (H7.out.2.1.below hb8) (And.intro (H7.out.2.2.1.below hb8) (H7.out.2.2.2.step hb8)))))
    clear hb8 hN8 hg8
    refine hK.out _ _ ⟨(time_cells H8.out.2.2.2.2.s.m.a).1, (time_cells H8.out.2.2.2.2.s.m.a).2.1, H8.out.2.2.2.2.cells.2.1⟩ (fun hHeld => ?_)
    clear hK K
    refine zM 56 ?_
    refine zN 6 (some 57) 8 127 (fun K hK => ?_)
    refine zG Try.func84 #[.pointer (some ⟨g7, 0, none⟩), .pointer (some ⟨g8, 0, none⟩)] ?_
    with_reducible refine (subE_n g7 g8 (qq n d) (qq X.f1 a2) 2 2 w8 H8.out.2.1 H8.out.1 (by decide)).mono ?_
    rintro e w9 ⟨g9, hg9, rfl, hb9, hN9⟩
    refine ⟨_, rfl, ?_⟩
    have H9 := Aside0.mk (And.intro hN9 (And.intro (H8.out.2.2.1.below hb9) (And.intro (H8.out.2.2.2.1.below hb9) (H8.out.2.2.2.2.step hb9))))
    clear hb9 hN9 hg9
    refine hK.out _ _ ⟨(time_cells H9.out.2.2.2.s.m.a).1, (time_cells H9.out.2.2.2.s.m.a).2.1, H9.out.2.2.2.cells.2.1⟩ (fun hHeld => ?_)
    clear hK K
    refine zM 57 ?_
    refine zP 7 17 8 255 ?_
    refine done_ (by kernel_rfl) ?_
    clear hHeld hb0 H6 H7 H8
    rw [HW.out.1.2] at H9
    have hl := HL.out
    rw [bckL_cons] at hl
    have HL1 := Aside0.mk hl
    clear hl
    obtain ⟨c0, c1, c2, c3⟩ := H9.out.2.2.2.cells
    by_cases hm : X.f1 < 0
    ·have hmb : decide (X.f1 < 0) = true := decide_eq_true hm
     have HL2 := Aside0.mk (show V = bckL a1 a2 (qq n d) out (b + X.f0) (l0.drop (i + 1).toNat) by rw [HL1.out, if_pos hm])
     clear HL HL1 hm
     go_wp2_with fail
     go_roundg k1
     case measure => omega
     case rel => exact ⟨out, b + X.f0, i + 1, by rw [HW.out.1.2], by rw [HW.out.1.1], ⟨HW.out.2.1.1, HW.out.2.1.2, HA.out.sum⟩, ⟨HL2.out⟩, ⟨H9.out.2.2.2.s, HW.out.2.2.1⟩⟩
    ·have hmb : decide (X.f1 < 0) = false := decide_eq_false hm
     have hl := HL1.out
     rw [if_neg hm] at hl
     replace HL1 := Aside0.mk hl
     clear hl
     by_cases hz : X.f2 = 0
     ·have hl := HL1.out
      rw [if_pos hz] at hl
      replace HL1 := Aside0.mk hl
      clear hl
      have hzb : (X.f2 == 0) = true := beq_iff_eq.2 hz
      have hzg : decide (X.f2 > 0) = false := decide_eq_false (by omega)
      go_wp2_with fail
      refine (signQ_n g9 (qq n d - qq X.f1 a2) 5 w9 H9.out.1).mono ?_
      rintro e w10 ⟨rfl, hb10⟩
      have H10 := Aside0.mk (And.intro (H9.out.2.1.below hb10) (And.intro (H9.out.2.2.1.below hb10) (H9.out.2.2.2.step hb10)))
      clear hb10 H9 c0 c1 c2 c3
      obtain ⟨c0, c1, c2, c3⟩ := H10.out.2.2.cells
      by_cases ha : (qq n d - qq X.f1 a2) = 0
      ·have hl := HL1.out
       rw [if_pos ha] at hl
       replace HL1 := Aside0.mk hl
       clear hl
       rw [show cmpQ (qq n d - qq X.f1 a2) 0 = 0 by rw [ha]; unfold cmpQ; rw [if_neg Rat.lt_irrefl, if_neg Rat.lt_irrefl]]
       clear ha HL
       have HL3 : V = if (tmV (qq b a1)).2 = 0 ∧ (tmV (qq (b + X.f0) a1)).2 = 0 then bckL a1 a2 (qq n d) (out ++ [(⟨⟨(tmV (qq b a1)).1.1, (tmV (qq b a1)).1.2⟩, ⟨(tmV (qq (b + X.f0) a1)).1.1, (tmV (qq (b + X.f0) a1)).1.2⟩⟩ : Spn)]) (b + X.f0) (l0.drop (i + 1).toNat) else ([], 2) := HL1.out
       clear HL1
       have hTu : Calls Try.prog 82 #[.pointer (some ⟨g5, 0, none⟩)] w10 (ValP w10 (.tuple #[.agg #[.int .i64 (tmV (qq b a1)).1.1, .int .i64 (tmV (qq b a1)).1.2], .int .i64 (tmV (qq b a1)).2])) := timeE_n g5 (qq b a1) 2 w10 (H10.out.1) (by decide)
       have hTv : ∀ W, RQ W g6 (qq (b + X.f0) a1) 2 → Calls Try.prog 82 #[.pointer (some ⟨g6, 0, none⟩)] W (ValP W (.tuple #[.agg #[.int .i64 (tmV (qq (b + X.f0) a1)).1.1, .int .i64 (tmV (qq (b + X.f0) a1)).1.2], .int .i64 (tmV (qq (b + X.f0) a1)).2])) := fun W h => timeE_n g6 (qq (b + X.f0) a1) 2 W h (by decide)
       have hNv := H10.out.2.1
       have hS := H10.out.2.2
       have hLL := HL3
       clear HL3
       generalize (tmV (qq b a1)).1.1 = T1 at *
       generalize (tmV (qq b a1)).1.2 = T2 at *
       generalize (tmV (qq b a1)).2 = T3 at *
       generalize (tmV (qq (b + X.f0) a1)).1.1 = U1 at *
       generalize (tmV (qq (b + X.f0) a1)).1.2 = U2 at *
       generalize (tmV (qq (b + X.f0) a1)).2 = U3 at *
       have HTu := Aside0.mk hTu
       have HTv := Aside0.mk hTv
       have HS := Aside0.mk (And.intro hNv hS)
       have HLL := Aside0.mk hLL
       clear hTu hTv hNv hS hLL
       go_wp2_with fail
       refine HTu.out.mono ?_
       rintro e wa ⟨rfl, hba⟩
       have HS2 := Aside0.mk (And.intro (HS.out.1.below hba) (HS.out.2.step hba))
       clear hba HS HTu
       have hxa := Aside0.mk (And.intro (blk_new wa (.cells #[.int .i64 T1, .int .i64 T2] 37 (0, 0))) (below_alloc (Below.refl wa.heap.size wa) (.cells #[.int .i64 T1, .int .i64 T2] 37 (0, 0))))
       go_wp2_with fail
       generalize hWa : World.alloc wa _ = Wa
       have HS3 := Aside0.mk (show Wa.heap[wa.heap.size]? = some (timeObj T1 T2) ∧ RQ Wa g6 (qq (b + X.f0) a1) 2 ∧ Tb w Wa n d u11 out G X by rw [← hWa]; exact ⟨hxa.out.1, HS2.out.1.below hxa.out.2, HS2.out.2.step hxa.out.2⟩)
       clear hWa hxa HS2
       generalize wa.heap.size = ga at *
       refine (HTv.out Wa HS3.out.2.1).mono ?_
       rintro e wb ⟨rfl, hbb⟩
       have HS4 := Aside0.mk (And.intro (blk_below HS3.out.1 hbb) (HS3.out.2.2.step hbb))
       clear hbb HS3 HTv
       have hxb := Aside0.mk (And.intro (blk_new wb (.cells #[.int .i64 U1, .int .i64 U2] 37 (0, 0))) (below_alloc (Below.refl wb.heap.size wb) (.cells #[.int .i64 U1, .int .i64 U2] 37 (0, 0))))
       by_cases t3 : T3 = 0
       case neg =>
        have HV4 := Aside0.mk (show V = ([], 2) by rw [HLL.out, if_neg (fun h => t3 h.1)])
        have t3b : (T3 != 0) = true := by simpa using t3
        have t3c : (T3 == 0) = false := by simpa using t3
        clear HLL t3
        go_wp2_with fail
        go_ret2
        rw [HV4.out]
        exact ⟨_, rfl, Kd.R_nil _ _ _ _ _, HS4.out.2.s.m.below.trans (hxb.out.2.mono HS4.out.2.s.m.below.size)⟩
       by_cases u3 : U3 = 0
       case neg =>
        have HV4 := Aside0.mk (show V = ([], 2) by rw [HLL.out, if_neg (fun h => u3 h.2)])
        have t3b : (T3 != 0) = false := by simpa using t3
        have t3c : (T3 == 0) = true := by simpa using t3
        have u3b : (U3 != 0) = true := by simpa using u3
        have u3c : (U3 == 0) = false := by simpa using u3
        clear HLL t3 u3
        go_wp2_with fail
        go_ret2
        rw [HV4.out]
        exact ⟨_, rfl, Kd.R_nil _ _ _ _ _, HS4.out.2.s.m.below.trans (hxb.out.2.mono HS4.out.2.s.m.below.size)⟩
       have HV4 := Aside0.mk (show V = bckL a1 a2 (qq n d) (out ++ [(⟨⟨T1, T2⟩, ⟨U1, U2⟩⟩ : Spn)]) (b + X.f0) (l0.drop (i + 1).toNat) by rw [HLL.out, if_pos ⟨t3, u3⟩])
       have t3b : (T3 != 0) = false := by simpa using t3
       have t3c : (T3 == 0) = true := by simpa using t3
       have u3b : (U3 != 0) = false := by simpa using u3
       have u3c : (U3 == 0) = true := by simpa using u3
       clear HLL t3 u3
       have hxa2 := blk_below HS4.out.1 hxb.out.2
       obtain ⟨ka0, ka1, _, _⟩ := time_cells hxa2
       obtain ⟨kb0, kb1, _, _⟩ := time_cells hxb.out.1
       have HS5 := Aside0.mk (HS4.out.2.step hxb.out.2)
       go_wp2_with (first
        | ((with_reducible refine gate_builtin (b := .append) (xs := #[.tmp 110, .tmp 114]) rfl ?_); at_builtin; refine Kd.R_append k63 (w0 := w) w.heap.size rfl (.tmp 110) (.tmp 114) 58 63 (.agg #[(.int .i64 0), (.int .i64 0), (.int .i64 0), (.int .i64 0)]) 32 rfl Try.underlying58 info63 rfl (by decide) (by omega) u11 out (⟨⟨T1, T2⟩, ⟨U1, U2⟩⟩ : Spn) [.int .i64 T1, .int .i64 T2, .int .i64 U1, .int .i64 U2] (fun k => k ≠ w.heap.size) (fun _ => False) rfl (by first | (go_simp; done) | (go_simp; rfl)) (k63_mkM _ _ _ (⟨⟨T1, T2⟩, ⟨U1, U2⟩⟩ : Spn)) (fun _ hk => hk.elim) (fun k hk he => by have := HS5.out.s.m.a; have := lt_of_some this; omega) HS5.out.s.r HS5.out.s.m.below HS5.out.s.m.below.size (by have := HW.out.2.2.2.2; omega) ?_; intro v9 w9' ho hb hg hat; have HS6 := Aside0.mk (show Sb w w9' n d v9 (out ++ [(⟨⟨T1, T2⟩, ⟨U1, U2⟩⟩ : Spn)]) from ⟨⟨blk_grown HS5.out.s.m.a hg (fun he => HS5.out.s.r.1 _ he.symm rfl), hb⟩, ho⟩); clear ho hb hg hat))
       go_roundg k1
       case measure => omega
       case rel => exact ⟨out ++ [(⟨⟨T1, T2⟩, ⟨U1, U2⟩⟩ : Spn)], b + X.f0, i + 1, by rw [HW.out.1.2], by rw [HW.out.1.1], ⟨HW.out.2.1.1, HW.out.2.1.2, HA.out.sum⟩, ⟨HV4.out⟩, ⟨HS6.out, by rw [List.length_append]; exact HW.out.2.2.2.1⟩⟩
      ·have hl := HL1.out
       rw [if_neg ha] at hl
       replace HL1 := Aside0.mk hl
       clear hl
       have HL2 := HL1
       have hcb : (cmpQ (qq n d - qq X.f1 a2) 0 != 0) = true := by
        rw [bne_iff_ne]
        intro h
        unfold cmpQ at h
        split at h
        ·cases h
        ·split at h
         ·cases h
         ·rename_i h1 h2
          exact ha (Rat.le_antisymm (Rat.not_lt.1 h2) (Rat.not_lt.1 h1))
       generalize cmpQ (qq n d - qq X.f1 a2) 0 = c at *
       clear ha HL HL1
       go_wp2_with fail
       go_roundg k1
       case measure => omega
       case rel => exact ⟨out, b + X.f0, i + 1, by rw [HW.out.1.2], by rw [HW.out.1.1], ⟨HW.out.2.1.1, HW.out.2.1.2, HA.out.sum⟩, ⟨HL2.out⟩, ⟨H10.out.2.2.s, HW.out.2.2.1⟩⟩
     ·have hl := HL1.out
      rw [if_neg hz] at hl
      replace HL1 := Aside0.mk hl
      clear hl
      have hf2 : 0 < X.f2 := by have := HA.out.vd.n0; omega
      have hzb : (X.f2 == 0) = false := beq_eq_false_iff_ne.2 hz
      have hzg : decide (X.f2 > 0) = true := decide_eq_true hf2
      go_wp2_with fail
      refine (ratioE_n X.f3 X.f2 w9 HJ.out.2.2.1 HJ.out.2.1 hz).mono ?_
      rintro e w10 ⟨g10, hg10, rfl, hb10, hN10⟩
      have H10 := Aside0.mk (And.intro hN10 (And.intro (H9.out.1.below hb10) (And.intro (H9.out.2.1.below hb10) (And.intro (H9.out.2.2.1.below hb10) (H9.out.2.2.2.step hb10)))))
      clear hb10 H9 c0 c1 c2 c3 hN10 hg10
      go_wp2_with fail
      refine (mulE_n g9 g10 (qq n d - qq X.f1 a2) (qq X.f3 X.f2) 5 2 w10 H10.out.2.1 H10.out.1 (by decide)).mono ?_
      rintro e w11 ⟨g11, hg11, rfl, hb11, hN11⟩
      have H11 := Aside0.mk (And.intro hN11 (And.intro (H10.out.2.1.below hb11) (And.intro (H10.out.2.2.1.below hb11) (And.intro (H10.out.2.2.2.1.below hb11) (H10.out.2.2.2.2.step hb11)))))
      clear hb11 H10 hN11 hg11
      go_wp2_with fail
      refine (addE_n g5 g11 (qq b a1) ((qq n d - qq X.f1 a2) * qq X.f3 X.f2) 2 7 w11 H11.out.2.2.1 H11.out.1 (by decide)).mono ?_
      rintro e w12 ⟨g12, hg12, rfl, hb12, hN12⟩
      have H12 := Aside0.mk (And.intro hN12 (And.intro (H11.out.2.1.below hb12) (And.intro (H11.out.2.2.2.1.below hb12) (H11.out.2.2.2.2.step hb12))))
      clear hb12 H11 hN12 hg12
      go_wp2_with fail
      refine (signQ_n g9 (qq n d - qq X.f1 a2) 5 w12 H12.out.2.1).mono ?_
      rintro e w13 ⟨rfl, hb13⟩
      have H13 := Aside0.mk (And.intro (H12.out.1.below hb13) (And.intro (H12.out.2.2.1.below hb13) (H12.out.2.2.2.step hb13)))
      clear hb13 H12
      obtain ⟨c0, c1, c2, c3⟩ := H13.out.2.2.cells
      by_cases ha : (qq n d - qq X.f1 a2) < 0
      ·have HL2 := Aside0.mk (show V = bckL a1 a2 (qq n d) out (b + X.f0) (l0.drop (i + 1).toNat) by rw [HL1.out, if_pos (.inl ha)])
       rw [show cmpQ (qq n d - qq X.f1 a2) 0 = -1 from if_pos ha]
       clear ha HL HL1
       go_wp2_with fail
       go_roundg k1
       case measure => omega
       case rel => exact ⟨out, b + X.f0, i + 1, by rw [HW.out.1.2], by rw [HW.out.1.1], ⟨HW.out.2.1.1, HW.out.2.1.2, HA.out.sum⟩, ⟨HL2.out⟩, ⟨H13.out.2.2.s, HW.out.2.2.1⟩⟩
      ·obtain ⟨c, hc, ec⟩ := cmpQ_ge ha
       rw [ec]
       have hcb : decide (c < 0) = false := decide_eq_false (by omega)
       clear ec
       go_wp2_with fail
       refine (cmpQ_n g12 g6 (qq b a1 + (qq n d - qq X.f1 a2) * qq X.f3 X.f2) (qq (b + X.f0) a1) 10 2 w13 H13.out.1 H13.out.2.1 (by decide)).mono ?_
       rintro e w14 ⟨rfl, hb14⟩
       have H14 := Aside0.mk (And.intro (H13.out.1.below hb14) (H13.out.2.2.step hb14))
       clear hb14 H13 c0 c1 c2 c3
       obtain ⟨c0, c1, c2, c3⟩ := H14.out.2.cells
       by_cases hq : (qq b a1 + (qq n d - qq X.f1 a2) * qq X.f3 X.f2) < qq (b + X.f0) a1
       ·rw [show cmpQ (qq b a1 + (qq n d - qq X.f1 a2) * qq X.f3 X.f2) (qq (b + X.f0) a1) = -1 from if_pos hq]
        have hl := HL1.out
        rw [if_neg (fun h => h.elim ha (fun h => h hq))] at hl
        replace HL1 := Aside0.mk hl
        clear hl
        have HL3 : V = if (tmV (qq b a1 + (qq n d - qq X.f1 a2) * qq X.f3 X.f2)).2 = 0 ∧ (tmV (qq b a1 + (qq n d - qq X.f1 a2) * qq X.f3 X.f2)).2 = 0 then bckL a1 a2 (qq n d) (out ++ [(⟨⟨(tmV (qq b a1 + (qq n d - qq X.f1 a2) * qq X.f3 X.f2)).1.1, (tmV (qq b a1 + (qq n d - qq X.f1 a2) * qq X.f3 X.f2)).1.2⟩, ⟨(tmV (qq b a1 + (qq n d - qq X.f1 a2) * qq X.f3 X.f2)).1.1, (tmV (qq b a1 + (qq n d - qq X.f1 a2) * qq X.f3 X.f2)).1.2⟩⟩ : Spn)]) (b + X.f0) (l0.drop (i + 1).toNat) else ([], 2) := by
         rw [HL1.out]
         simp only [and_self]
         rfl
        clear hq ha HL HL1 hc
        have hTu : Calls Try.prog 82 #[.pointer (some ⟨g12, 0, none⟩)] w14 (ValP w14 (.tuple #[.agg #[.int .i64 (tmV ((qq b a1 + (qq n d - qq X.f1 a2) * qq X.f3 X.f2))).1.1, .int .i64 (tmV ((qq b a1 + (qq n d - qq X.f1 a2) * qq X.f3 X.f2))).1.2], .int .i64 (tmV ((qq b a1 + (qq n d - qq X.f1 a2) * qq X.f3 X.f2))).2])) := timeE_n g12 ((qq b a1 + (qq n d - qq X.f1 a2) * qq X.f3 X.f2)) 10 w14 (H14.out.1) (by decide)
        have hTv : ∀ W, RQ W g12 ((qq b a1 + (qq n d - qq X.f1 a2) * qq X.f3 X.f2)) 10 → Calls Try.prog 82 #[.pointer (some ⟨g12, 0, none⟩)] W (ValP W (.tuple #[.agg #[.int .i64 (tmV ((qq b a1 + (qq n d - qq X.f1 a2) * qq X.f3 X.f2))).1.1, .int .i64 (tmV ((qq b a1 + (qq n d - qq X.f1 a2) * qq X.f3 X.f2))).1.2], .int .i64 (tmV ((qq b a1 + (qq n d - qq X.f1 a2) * qq X.f3 X.f2))).2])) := fun W h => timeE_n g12 ((qq b a1 + (qq n d - qq X.f1 a2) * qq X.f3 X.f2)) 10 W h (by decide)
        have hNv := H14.out.1
        have hS := H14.out.2
        have hLL := HL3
        clear HL3
        generalize (tmV ((qq b a1 + (qq n d - qq X.f1 a2) * qq X.f3 X.f2))).1.1 = T1 at *
        generalize (tmV ((qq b a1 + (qq n d - qq X.f1 a2) * qq X.f3 X.f2))).1.2 = T2 at *
        generalize (tmV ((qq b a1 + (qq n d - qq X.f1 a2) * qq X.f3 X.f2))).2 = T3 at *
        have HTu := Aside0.mk hTu
        have HTv := Aside0.mk hTv
        have HS := Aside0.mk (And.intro hNv hS)
        have HLL := Aside0.mk hLL
        clear hTu hTv hNv hS hLL
        go_wp2_with fail
        refine HTu.out.mono ?_
        rintro e wa ⟨rfl, hba⟩
        have HS2 := Aside0.mk (And.intro (HS.out.1.below hba) (HS.out.2.step hba))
        clear hba HS HTu
        have hxa := Aside0.mk (And.intro (blk_new wa (.cells #[.int .i64 T1, .int .i64 T2] 37 (0, 0))) (below_alloc (Below.refl wa.heap.size wa) (.cells #[.int .i64 T1, .int .i64 T2] 37 (0, 0))))
        go_wp2_with fail
        generalize hWa : World.alloc wa _ = Wa
        have HS3 := Aside0.mk (show Wa.heap[wa.heap.size]? = some (timeObj T1 T2) ∧ RQ Wa g12 ((qq b a1 + (qq n d - qq X.f1 a2) * qq X.f3 X.f2)) 10 ∧ Tb w Wa n d u11 out G X by rw [← hWa]; exact ⟨hxa.out.1, HS2.out.1.below hxa.out.2, HS2.out.2.step hxa.out.2⟩)
        clear hWa hxa HS2
        generalize wa.heap.size = ga at *
        refine (HTv.out Wa HS3.out.2.1).mono ?_
        rintro e wb ⟨rfl, hbb⟩
        have HS4 := Aside0.mk (And.intro (blk_below HS3.out.1 hbb) (HS3.out.2.2.step hbb))
        clear hbb HS3 HTv
        have hxb := Aside0.mk (And.intro (blk_new wb (.cells #[.int .i64 T1, .int .i64 T2] 37 (0, 0))) (below_alloc (Below.refl wb.heap.size wb) (.cells #[.int .i64 T1, .int .i64 T2] 37 (0, 0))))
        by_cases t3 : T3 = 0
        case neg =>
         have HV4 := Aside0.mk (show V = ([], 2) by rw [HLL.out, if_neg (fun h => t3 h.1)])
         have t3b : (T3 != 0) = true := by simpa using t3
         have t3c : (T3 == 0) = false := by simpa using t3
         clear HLL t3
         go_wp2_with fail
         go_ret2
         rw [HV4.out]
         exact ⟨_, rfl, Kd.R_nil _ _ _ _ _, HS4.out.2.s.m.below.trans (hxb.out.2.mono HS4.out.2.s.m.below.size)⟩
        have u3 : T3 = 0 := t3
        have HV4 := Aside0.mk (show V = bckL a1 a2 (qq n d) (out ++ [(⟨⟨T1, T2⟩, ⟨T1, T2⟩⟩ : Spn)]) (b + X.f0) (l0.drop (i + 1).toNat) by rw [HLL.out, if_pos ⟨t3, u3⟩])
        have t3b : (T3 != 0) = false := by simpa using t3
        have t3c : (T3 == 0) = true := by simpa using t3
        have u3b : (T3 != 0) = false := by simpa using u3
        have u3c : (T3 == 0) = true := by simpa using u3
        clear HLL t3 u3
        have hxa2 := blk_below HS4.out.1 hxb.out.2
        obtain ⟨ka0, ka1, _, _⟩ := time_cells hxa2
        obtain ⟨kb0, kb1, _, _⟩ := time_cells hxb.out.1
        have HS5 := Aside0.mk (HS4.out.2.step hxb.out.2)
        go_wp2_with (first
         | ((with_reducible refine gate_builtin (b := .append) (xs := #[.tmp 110, .tmp 114]) rfl ?_); at_builtin; refine Kd.R_append k63 (w0 := w) w.heap.size rfl (.tmp 110) (.tmp 114) 58 63 (.agg #[(.int .i64 0), (.int .i64 0), (.int .i64 0), (.int .i64 0)]) 32 rfl Try.underlying58 info63 rfl (by decide) (by omega) u11 out (⟨⟨T1, T2⟩, ⟨T1, T2⟩⟩ : Spn) [.int .i64 T1, .int .i64 T2, .int .i64 T1, .int .i64 T2] (fun k => k ≠ w.heap.size) (fun _ => False) rfl (by first | (go_simp; done) | (go_simp; rfl)) (k63_mkM _ _ _ (⟨⟨T1, T2⟩, ⟨T1, T2⟩⟩ : Spn)) (fun _ hk => hk.elim) (fun k hk he => by have := HS5.out.s.m.a; have := lt_of_some this; omega) HS5.out.s.r HS5.out.s.m.below HS5.out.s.m.below.size (by have := HW.out.2.2.2.2; omega) ?_; intro v9 w9' ho hb hg hat; have HS6 := Aside0.mk (show Sb w w9' n d v9 (out ++ [(⟨⟨T1, T2⟩, ⟨T1, T2⟩⟩ : Spn)]) from ⟨⟨blk_grown HS5.out.s.m.a hg (fun he => HS5.out.s.r.1 _ he.symm rfl), hb⟩, ho⟩); clear ho hb hg hat))
        go_roundg k1
        case measure => omega
        case rel => exact ⟨out ++ [(⟨⟨T1, T2⟩, ⟨T1, T2⟩⟩ : Spn)], b + X.f0, i + 1, by rw [HW.out.1.2], by rw [HW.out.1.1], ⟨HW.out.2.1.1, HW.out.2.1.2, HA.out.sum⟩, ⟨HV4.out⟩, ⟨HS6.out, by rw [List.length_append]; exact HW.out.2.2.2.1⟩⟩
       ·have HL2 := Aside0.mk (show V = bckL a1 a2 (qq n d) out (b + X.f0) (l0.drop (i + 1).toNat) by rw [HL1.out, if_pos (.inr hq)])
        obtain ⟨c', hc', ec'⟩ := cmpQ_ge hq
        rw [ec']
        have hcb' : decide (c' ≥ 0) = true := decide_eq_true (by omega)
        clear ec' hq ha HL HL1
        go_wp2_with fail
        go_roundg k1
        case measure => omega
        case rel => exact ⟨out, b + X.f0, i + 1, by rw [HW.out.1.2], by rw [HW.out.1.1], ⟨HW.out.2.1.1, HW.out.2.1.2, HA.out.sum⟩, ⟨HL2.out⟩, ⟨H14.out.2.s, HW.out.2.2.1⟩⟩
   ·have hlb : decide (i < (l0.length : Int)) = false := decide_eq_false hlt
    have HV4 := Aside0.mk (show V = (out, 0) by
     rw [hL.out, List.drop_of_length_le (by have := hi.out; omega)]
     rfl)
    obtain ⟨A4, c4, e4⟩ := Kd.R_slice hM.out.1.r
    subst e4
    replace hlt := eq_false hlt
    clear hi hL
    go_wp2_with fail
    go_ret2
    rw [HV4.out]
    exact ⟨_, rfl, Kd.R_mono hM.out.1.r (fun _ _ => trivial), hM.out.1.m.below⟩
end Go.Proofs.Ytpbhepdgamoiaaa.Bk
namespace Go.Proofs.Ytpbhepdgamoiaaa.E
open Go.RowKit Go Go.Proofs.YtpbhepdgamoiaaaW.PrintWords Go.Proofs.YtpbhepdgamoiaaaW.PrintLast Go.Proofs.YtpbhepdgamoiaaaW.PrintMore Go.Proofs.Ytpbhepdgamoiaaa.Pe Go.Proofs.Ytpbhepdgamoiaaa.Bk
def edit_Back.f (l0 : List (S77)) (a1 : Int) (a2 : Int) (a3_0 : Int) (a3_1 : Int) : Option ((List (S63)) × Int) := some (bckV l0 a1 a2 a3_0 a3_1)
theorem edit_Back.calls (A0 : Option Addr) (c0 : Nat) (l0 : List (S77)) (a1 : Int) (a2 : Int) (a3_0 : Int) (a3_1 : Int) (r1 : List (S63)) (r2 : Int) (w : World) (hr0 : Kd.C k77 w A0 l0.length l0) (hc0 : l0.length ≤ c0) (h : edit_Back.f l0 a1 a2 a3_0 a3_1 = some (r1, r2)) :
  Calls Try.prog 46 #[.slice A0 l0.length c0, .int .i64 a1, .int .i64 a2, .agg #[.int .i64 a3_0, .int .i64 a3_1]] w fun e w' => ∃ v0_ : Value, e = .returned (.tuple #[v0_, .int .i64 r2]) ∧ Kd.R k63 63 w' w.heap.size (fun _ => True) v0_ r1 ∧ Below w.heap.size w w' := by
 have hV : bckV l0 a1 a2 a3_0 a3_1 = (r1, r2) := Option.some.inj h
 have := back_n A0 c0 l0 a1 a2 a3_0 a3_1 w hr0 hc0
 rw [hV] at this
 exact this
end Go.Proofs.Ytpbhepdgamoiaaa.E

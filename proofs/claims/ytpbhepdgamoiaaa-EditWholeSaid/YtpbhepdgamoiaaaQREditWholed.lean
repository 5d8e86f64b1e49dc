/-
  Printed walks.
-/
import Derived.Test.YtpbhepdgamoiaaaQREditWholea
import Derived.Test.YtpbhepdgamoiaaaQREditWholec
namespace Go.Proofs.Ytpbhepdgamoiaaa.E
open Go.Proofs.Ytpbhepdgamoiaaa.Z Go.RowKit Go.Proofs.YtpbhepdgamoiaaaW.PrintWords Go.Proofs.YtpbhepdgamoiaaaW.PrintLast Go.Proofs.YtpbhepdgamoiaaaW.PrintMore
attribute [local go_sem] max2_int min2_int max_two min_two max_three min_three max_four min_four
set_option linter.unusedVariables false
set_option linter.unusedSimpArgs false
attribute [local go_sem high] eqA77
def dioramalaw10_awake.f (k : Nat)  : Option (Bool) := (edit_Normal.f k (([(⟨10, 0, 1, 1⟩ : S77), (⟨5, 10, 1, 1⟩ : S77)] : List (S77))) 10 10).bind fun bt137 => (if bt137.2 = 0 then (if (bt137.1.length : Int) = 1 then (if 0 < (bt137.1.length : Int) then (some (((rd_T77 bt137.1 0).f0) == 15 && (((rd_T77 bt137.1 0).f1) == 0 && (((rd_T77 bt137.1 0).f2) == 1 && (((rd_T77 bt137.1 0).f3) == 1))))) else (none)) else (some false)) else (some false))
set_option maxHeartbeats 8000000 in
set_option maxRecDepth 100000 in
theorem dioramalaw10_awake.calls (k : Nat)  (r : Bool) (w : World) (h : dioramalaw10_awake.f k  = some r) :
  Calls Try.prog 20 #[] w fun e w' => e = .returned (.bool r) ∧ Below w.heap.size w w' := by
 have hu77 := Try.underlying77; have HB := Aside0.mk (Below.refl w.heap.size w); have H : ((edit_Normal.f k (([(⟨10, 0, 1, 1⟩ : S77), (⟨5, 10, 1, 1⟩ : S77)] : List (S77))) 10 10).bind fun bt137 => (if bt137.2 = 0 then (if (bt137.1.length : Int) = 1 then (if 0 < (bt137.1.length : Int) then (some (((rd_T77 bt137.1 0).f0) == 15 && (((rd_T77 bt137.1 0).f1) == 0 && (((rd_T77 bt137.1 0).f2) == 1 && (((rd_T77 bt137.1 0).f3) == 1))))) else (none)) else (some false)) else (some false))) = some r := h
 clear h; obtain ⟨y134, hy134⟩ : ∃ y_ : List (S77), y_ = (([(⟨10, 0, 1, 1⟩ : S77), (⟨5, 10, 1, 1⟩ : S77)] : List (S77))) := ⟨_, rfl⟩; replace H : ((edit_Normal.f k y134 10 10).bind fun bt137 => (if bt137.2 = 0 then (if (bt137.1.length : Int) = 1 then (if 0 < (bt137.1.length : Int) then (some (((rd_T77 bt137.1 0).f0) == 15 && (((rd_T77 bt137.1 0).f1) == 0 && (((rd_T77 bt137.1 0).f2) == 1 && (((rd_T77 bt137.1 0).f3) == 1))))) else (none)) else (some false)) else (some false))) = some r := by first | (rw [hy134]; with_reducible exact H) | (have H2_ := (Option.bind_some _ _).symm.trans H; rw [hy134]; with_reducible exact H2_) | (have H2_ := (Option.bind_some _ _).symm.trans H; with_reducible exact H2_) | with_reducible exact H | (rw [hy134]; exact H) | exact H
 have Ny134 := Aside0.mk hy134; clear hy134; obtain ⟨⟨t137, t138⟩, A1, H⟩ := ob H
 (try dsimp only at H)
 by_cases c2 : t138 = 0
 ·rw [if_pos c2] at H; have c2b0 : (t138 == 0) = true := beq_iff_eq.mpr c2; have c2b1 : (t138 != 0) = false := bne_eq_false_iff_eq.mpr c2; clear c2
  by_cases c3 : (t137.length : Int) = 1
  ·rw [if_pos c3] at H; have c3b0 : ((t137.length : Int) == 1) = true := beq_iff_eq.mpr c3; have c3b1 : ((t137.length : Int) != 1) = false := bne_eq_false_iff_eq.mpr c3; clear c3
   by_cases c4 : 0 < (t137.length : Int)
   ·rw [if_pos c4] at H; have c4b0 : decide (0 < (t137.length : Int)) = true := decide_eq_true c4; have c4b1 : decide (0 < t137.length) = true := decide_eq_true (by omega); clear c4; obtain rfl := Option.some.inj H
    go_enter Try.func20, Try.ntmps20
    go_wp2_with (first | ((with_reducible refine gate_dst (N := 6) rfl ?_); refine Kd.R_lit k77 _ 77 ?hg (N := 6) ?hd (xs := ([(⟨10, 0, 1, 1⟩ : S77), (⟨5, 10, 1, 1⟩ : S77)] : List (S77))) (inner := [.int .i64 10, .int .i64 0, .int .i64 1, .int .i64 1, .int .i64 5, .int .i64 10, .int .i64 1, .int .i64 1]) (ok := fun _ => True) (okp := fun _ => True) ?hr ?hp (fun _ hk => hk) trivial (Below.refl _ _) (Nat.le_refl _) (by simp) ?_; (case hd => rfl); (case hg => rfl); (case hr => first | (go_simp; done) | (go_simp; rfl)); (case hp => exact (Reps.c4 (show Kd.M k77 _ _ _ (⟨10, 0, 1, 1⟩ : S77) [.int .i64 10, .int .i64 0, .int .i64 1, .int .i64 1] from (k77_mkM _ _ _ (⟨10, 0, 1, 1⟩ : S77) )) (Reps.c4 (show Kd.M k77 _ _ _ (⟨5, 10, 1, 1⟩ : S77) [.int .i64 5, .int .i64 10, .int .i64 1, .int .i64 1] from (k77_mkM _ _ _ (⟨5, 10, 1, 1⟩ : S77) )) (Reps.none _ _)))); intro v135 w5 ho6 hb hg_ hnew_; clear hg_ hnew_; (first | rw [← Ny134.out] at ho6 | (simp only [Int.reduceToNat] at ho6; rw [← Ny134.out] at ho6)); have HO136 := Aside0.mk (Kd.R_lower ho6 sz); replace HB := bp hb; clear hb ho6; obtain ⟨Ao7, co7, eo7⟩ := Kd.R_slice HO136.out; subst eo7) | ((with_reducible refine gate_callee (f := 21) rfl ?_); refine zC 7 Try.func21 #[.slice Ao7 y134.length co7, .int .i64 10, .int .i64 10] ?_; (with_reducible refine (edit_Normal.calls k _ _ y134 10 10 t137 t138 _ ?side1 ?side2 A1.out).mono ?_); (case side1 => exact cr HO136); (case side2 => exact (Kd.R_reads' HO136.out).2.1); rintro e w8 ⟨v139, rfl, ho0, hb⟩; refine ⟨_, rfl, ?_⟩; have HO140 := Aside0.mk (Kd.R_lower (Kd.R_new' ho0 (Kd.R_lt (rz HO136))) sz); replace HO136 := Aside0.mk (Kd.R_elder' (rz HO136) (Kd.R_base ho0) hb); replace HB := bp hb; clear hb ho0; obtain ⟨Ao9, co9, eo9⟩ := Kd.R_slice HO140.out; subst eo9; have p141 : 0 ≤ (0 : Int) := (by omega); have q141 : 0 < (t137.length : Int) := od; obtain ⟨ad141, e141, hx141_0, hx141_1, hx141_2, hx141_3⟩ := at_T77 (Kd.R_reads' HO140.out).2.2 0 p141 q141; cases e141; have qi141 : (0 < t137.length) = True := eq_true (by omega); (try rw [show ((0 : Int)).toNat = 0 from rfl] at hx141_0); (try rw [show 0 * 4 = 0 from rfl] at hx141_0); (try rw [Addr.add_zero'] at hx141_0); (try rw [show ((0 : Int)).toNat = 0 from rfl] at hx141_1); (try rw [show 0 * 4 = 0 from rfl] at hx141_1); (try rw [Addr.add_zero'] at hx141_1); (try rw [show ((0 : Int)).toNat = 0 from rfl] at hx141_2); (try rw [show 0 * 4 = 0 from rfl] at hx141_2); (try rw [Addr.add_zero'] at hx141_2); (try rw [show ((0 : Int)).toNat = 0 from rfl] at hx141_3); (try rw [show 0 * 4 = 0 from rfl] at hx141_3); (try rw [Addr.add_zero'] at hx141_3); replace p141 := eq_true p141; replace q141 := eq_true q141))
    go_ret
    exact ⟨ez, bz⟩
   ·rw [if_neg c4] at H
    exact absurd H (by simp)
  ·rw [if_neg c3] at H; have c3b0 : ((t137.length : Int) == 1) = false := beq_eq_false_iff_ne.mpr c3; have c3b1 : ((t137.length : Int) != 1) = true := bne_iff_ne.mpr c3; obtain rfl := Option.some.inj H
   go_enter Try.func20, Try.ntmps20
   go_wp2_with (first | ((with_reducible refine gate_dst (N := 6) rfl ?_); refine Kd.R_lit k77 _ 77 ?hg (N := 6) ?hd (xs := ([(⟨10, 0, 1, 1⟩ : S77), (⟨5, 10, 1, 1⟩ : S77)] : List (S77))) (inner := [.int .i64 10, .int .i64 0, .int .i64 1, .int .i64 1, .int .i64 5, .int .i64 10, .int .i64 1, .int .i64 1]) (ok := fun _ => True) (okp := fun _ => True) ?hr ?hp (fun _ hk => hk) trivial (Below.refl _ _) (Nat.le_refl _) (by simp) ?_; (case hd => rfl); (case hg => rfl); (case hr => first | (go_simp; done) | (go_simp; rfl)); (case hp => exact (Reps.c4 (show Kd.M k77 _ _ _ (⟨10, 0, 1, 1⟩ : S77) [.int .i64 10, .int .i64 0, .int .i64 1, .int .i64 1] from (k77_mkM _ _ _ (⟨10, 0, 1, 1⟩ : S77) )) (Reps.c4 (show Kd.M k77 _ _ _ (⟨5, 10, 1, 1⟩ : S77) [.int .i64 5, .int .i64 10, .int .i64 1, .int .i64 1] from (k77_mkM _ _ _ (⟨5, 10, 1, 1⟩ : S77) )) (Reps.none _ _)))); intro v135 w10 ho11 hb hg_ hnew_; clear hg_ hnew_; (first | rw [← Ny134.out] at ho11 | (simp only [Int.reduceToNat] at ho11; rw [← Ny134.out] at ho11)); have HO136 := Aside0.mk (Kd.R_lower ho11 sz); replace HB := bp hb; clear hb ho11; obtain ⟨Ao12, co12, eo12⟩ := Kd.R_slice HO136.out; subst eo12) | ((with_reducible refine gate_callee (f := 21) rfl ?_); refine zC 7 Try.func21 #[.slice Ao12 y134.length co12, .int .i64 10, .int .i64 10] ?_; (with_reducible refine (edit_Normal.calls k _ _ y134 10 10 t137 t138 _ ?side1 ?side2 A1.out).mono ?_); (case side1 => exact cr HO136); (case side2 => exact (Kd.R_reads' HO136.out).2.1); rintro e w13 ⟨v139, rfl, ho0, hb⟩; refine ⟨_, rfl, ?_⟩; have HO140 := Aside0.mk (Kd.R_lower (Kd.R_new' ho0 (Kd.R_lt (rz HO136))) sz); replace HO136 := Aside0.mk (Kd.R_elder' (rz HO136) (Kd.R_base ho0) hb); replace HB := bp hb; clear hb ho0; obtain ⟨Ao14, co14, eo14⟩ := Kd.R_slice HO140.out; subst eo14))
   go_ret
   exact ⟨ez, bz⟩
 ·rw [if_neg c2] at H; have c2b0 : (t138 == 0) = false := beq_eq_false_iff_ne.mpr c2; have c2b1 : (t138 != 0) = true := bne_iff_ne.mpr c2; obtain rfl := Option.some.inj H
  go_enter Try.func20, Try.ntmps20
  go_wp2_with (first | ((with_reducible refine gate_dst (N := 6) rfl ?_); refine Kd.R_lit k77 _ 77 ?hg (N := 6) ?hd (xs := ([(⟨10, 0, 1, 1⟩ : S77), (⟨5, 10, 1, 1⟩ : S77)] : List (S77))) (inner := [.int .i64 10, .int .i64 0, .int .i64 1, .int .i64 1, .int .i64 5, .int .i64 10, .int .i64 1, .int .i64 1]) (ok := fun _ => True) (okp := fun _ => True) ?hr ?hp (fun _ hk => hk) trivial (Below.refl _ _) (Nat.le_refl _) (by simp) ?_; (case hd => rfl); (case hg => rfl); (case hr => first | (go_simp; done) | (go_simp; rfl)); (case hp => exact (Reps.c4 (show Kd.M k77 _ _ _ (⟨10, 0, 1, 1⟩ : S77) [.int .i64 10, .int .i64 0, .int .i64 1, .int .i64 1] from (k77_mkM _ _ _ (⟨10, 0, 1, 1⟩ : S77) )) (Reps.c4 (show Kd.M k77 _ _ _ (⟨5, 10, 1, 1⟩ : S77) [.int .i64 5, .int .i64 10, .int .i64 1, .int .i64 1] from (k77_mkM _ _ _ (⟨5, 10, 1, 1⟩ : S77) )) (Reps.none _ _)))); intro v135 w15 ho16 hb hg_ hnew_; clear hg_ hnew_; (first | rw [← Ny134.out] at ho16 | (simp only [Int.reduceToNat] at ho16; rw [← Ny134.out] at ho16)); have HO136 := Aside0.mk (Kd.R_lower ho16 sz); replace HB := bp hb; clear hb ho16; obtain ⟨Ao17, co17, eo17⟩ := Kd.R_slice HO136.out; subst eo17) | ((with_reducible refine gate_callee (f := 21) rfl ?_); refine zC 7 Try.func21 #[.slice Ao17 y134.length co17, .int .i64 10, .int .i64 10] ?_; (with_reducible refine (edit_Normal.calls k _ _ y134 10 10 t137 t138 _ ?side1 ?side2 A1.out).mono ?_); (case side1 => exact cr HO136); (case side2 => exact (Kd.R_reads' HO136.out).2.1); rintro e w18 ⟨v139, rfl, ho0, hb⟩; refine ⟨_, rfl, ?_⟩; have HO140 := Aside0.mk (Kd.R_lower (Kd.R_new' ho0 (Kd.R_lt (rz HO136))) sz); replace HO136 := Aside0.mk (Kd.R_elder' (rz HO136) (Kd.R_base ho0) hb); replace HB := bp hb; clear hb ho0))
  go_ret
  exact ⟨ez, bz⟩
def dioramaref00_EqEdits.l0 : Nat → List (S77) → List (S77) → Int → Option (Bool)
  | 0, _, _, _ => none
  | k + 1, x0, x1, x5 => if x5 < (x0.length : Int) then (if 0 ≤ x5 then (if x5 < (x1.length : Int) then (if (!(((rd_T77 x0 x5).f0) == ((rd_T77 x1 x5).f0)) || (!(((rd_T77 x0 x5).f1) == ((rd_T77 x1 x5).f1)) || (!(((rd_T77 x0 x5).f2) == ((rd_T77 x1 x5).f2)) || (!(((rd_T77 x0 x5).f3) == ((rd_T77 x1 x5).f3)))))) = true then (some false) else (dioramaref00_EqEdits.l0 k x0 x1 (wrap64 (x5 + 1)))) else (none)) else (none)) else (some true)
def dioramaref00_EqEdits.f (k : Nat) (l0 : List (S77)) (l1 : List (S77)) : Option (Bool) := if (l0.length : Int) = (l1.length : Int) then (dioramaref00_EqEdits.l0 k l0 l1 0) else (some false)
set_option maxHeartbeats 8000000 in
set_option maxRecDepth 100000 in
theorem dioramaref00_EqEdits.calls (k : Nat) (A0 : Option Addr) (c0 : Nat) (l0 : List (S77)) (A1 : Option Addr) (c1 : Nat) (l1 : List (S77)) (r : Bool) (w : World) (hr0 : Kd.C k77 w A0 l0.length l0) (hc0 : l0.length ≤ c0) (hr1 : Kd.C k77 w A1 l1.length l1) (hc1 : l1.length ≤ c1) (h : dioramaref00_EqEdits.f k l0 l1 = some r) :
  Calls Try.prog 42 #[.slice A0 l0.length c0, .slice A1 l1.length c1] w fun e w' => e = .returned (.bool r) ∧ Drawn0 w w' := by
 have hu77 := Try.underlying77; have HR0 := Aside0.mk hr0; have HC0 := Aside0.mk hc0; clear hr0 hc0; have HR1 := Aside0.mk hr1; have HC1 := Aside0.mk hc1; clear hr1 hc1; have H : (if (l0.length : Int) = (l1.length : Int) then (dioramaref00_EqEdits.l0 k l0 l1 0) else (some false)) = some r := h; clear h
 by_cases c3 : (l0.length : Int) = (l1.length : Int)
 ·rw [if_pos c3] at H; have c3b0 : ((l0.length : Int) == (l1.length : Int)) = true := beq_iff_eq.mpr c3; have c3b1 : ((l0.length : Int) != (l1.length : Int)) = false := bne_eq_false_iff_eq.mpr c3; have c3b2 : (l0.length == l1.length) = true := by first | simpa using c3 | (simp at c3 ⊢; omega)
  clear c3; have H' := Aside0.mk H; clear H
  go_enter Try.func42, Try.ntmps42
  go_wp2
  repeat (go_quiet (fail); try go_wp2)
  go_loopg [5] k (fun kq v5 w' => ∃ (x5_1 : Int), v5 = .int .i64 x5_1 ∧ Aside0 (dioramaref00_EqEdits.l0 kq l0 l1 x5_1 = some r) ∧ Aside0 (kq ≤ k) ∧ Drawn0 w w')
  case atStart => exact ⟨(0), jz, H', ⟨Nat.le_refl _⟩, by repeat (first | exact Drawn0.refl _ | apply Drawn0.step)⟩
  case round =>
   clear H'
   try clear c1
   try clear p2
   try clear c3
   try clear c3b0
   try clear c3b1
   try clear c3b2
   obtain ⟨x5_1, rfl, HA, HK1, ⟨m1, rfl⟩⟩ := hrel
   cases gk with
   | zero => exact absurd HA.out (by simp [dioramaref00_EqEdits.l0])
   | succ k1 =>
    have H := HA.out; clear HA; simp only [dioramaref00_EqEdits.l0] at H
    by_cases c4 : x5_1 < (l0.length : Int)
    ·rw [if_pos c4] at H; have c4b0 : decide (x5_1 < (l0.length : Int)) = true := decide_eq_true c4; clear c4
     by_cases c5 : 0 ≤ x5_1
     ·rw [if_pos c5] at H; have c5b0 : decide (0 ≤ x5_1) = true := decide_eq_true c5; clear c5
      by_cases c6 : x5_1 < (l1.length : Int)
      ·rw [if_pos c6] at H; have c6b0 : decide (x5_1 < (l1.length : Int)) = true := decide_eq_true c6; clear c6
       by_cases c7 : (!(((rd_T77 l0 x5_1).f0) == ((rd_T77 l1 x5_1).f0)) || (!(((rd_T77 l0 x5_1).f1) == ((rd_T77 l1 x5_1).f1)) || (!(((rd_T77 l0 x5_1).f2) == ((rd_T77 l1 x5_1).f2)) || (!(((rd_T77 l0 x5_1).f3) == ((rd_T77 l1 x5_1).f3)))))) = true
       ·rw [if_pos c7] at H; have c7b0 : (!(((rd_T77 l0 x5_1).f0) == ((rd_T77 l1 x5_1).f0)) || (!(((rd_T77 l0 x5_1).f1) == ((rd_T77 l1 x5_1).f1)) || (!(((rd_T77 l0 x5_1).f2) == ((rd_T77 l1 x5_1).f2)) || (!(((rd_T77 l0 x5_1).f3) == ((rd_T77 l1 x5_1).f3)))))) = true := c7; clear c7; obtain rfl := Option.some.inj H; have p142 : 0 ≤ (x5_1 : Int) := od; have q142 : x5_1 < (l0.length : Int) := od; obtain ⟨ad142, e142, hx142_0, hx142_1, hx142_2, hx142_3⟩ := at_T77 HR0.out x5_1 p142 q142
        cases e142
        replace p142 := eq_true p142; replace q142 := eq_true q142; have p143 : 0 ≤ (x5_1 : Int) := od; have q143 : x5_1 < (l1.length : Int) := od; obtain ⟨ad143, e143, hx143_0, hx143_1, hx143_2, hx143_3⟩ := at_T77 HR1.out x5_1 p143 q143
        cases e143
        replace p143 := eq_true p143; replace q143 := eq_true q143
        go_wp2
        repeat (go_quiet (fail); try go_wp2)
        go_ret
        exact ⟨by first | rfl | (simp; done) | (simp [*]; done), by repeat (first | exact Drawn0.refl _ | apply Drawn0.step)⟩
       ·rw [if_neg c7] at H; have c7b0 : (!(((rd_T77 l0 x5_1).f0) == ((rd_T77 l1 x5_1).f0)) || (!(((rd_T77 l0 x5_1).f1) == ((rd_T77 l1 x5_1).f1)) || (!(((rd_T77 l0 x5_1).f2) == ((rd_T77 l1 x5_1).f2)) || (!(((rd_T77 l0 x5_1).f3) == ((rd_T77 l1 x5_1).f3)))))) = false := by simpa using c7
        clear c7; have H' := Aside0.mk H; clear H; have p142 : 0 ≤ (x5_1 : Int) := od; have q142 : x5_1 < (l0.length : Int) := od; obtain ⟨ad142, e142, hx142_0, hx142_1, hx142_2, hx142_3⟩ := at_T77 HR0.out x5_1 p142 q142
        cases e142
        replace p142 := eq_true p142; replace q142 := eq_true q142; have p143 : 0 ≤ (x5_1 : Int) := od; have q143 : x5_1 < (l1.length : Int) := od; obtain ⟨ad143, e143, hx143_0, hx143_1, hx143_2, hx143_3⟩ := at_T77 HR1.out x5_1 p143 q143
        cases e143
        replace p143 := eq_true p143; replace q143 := eq_true q143
        go_wp2
        repeat (go_quiet (fail); try go_wp2)
        go_roundg k1
        case measure => have := HK1.out; omega
        case rel => exact ⟨(wrap64 (x5_1 + 1)), jz, H', ⟨by have := HK1.out; omega⟩, by repeat (first | exact Drawn0.refl _ | apply Drawn0.step)⟩
      ·rw [if_neg c6] at H
       exact absurd H (by simp)
     ·rw [if_neg c5] at H
      exact absurd H (by simp)
    ·rw [if_neg c4] at H; have c4b0 : decide (x5_1 < (l0.length : Int)) = false := decide_eq_false c4; clear c4; obtain rfl := Option.some.inj H
     go_wp2
     repeat (go_quiet (fail); try go_wp2)
     go_ret
     exact ⟨by first | rfl | (simp; done) | (simp [*]; done), by repeat (first | exact Drawn0.refl _ | apply Drawn0.step)⟩
 ·rw [if_neg c3] at H; have c3b0 : ((l0.length : Int) == (l1.length : Int)) = false := beq_eq_false_iff_ne.mpr c3; have c3b1 : ((l0.length : Int) != (l1.length : Int)) = true := bne_iff_ne.mpr c3; have c3b2 : (l0.length == l1.length) = false := by first | simpa using c3 | (simp at c3 ⊢; omega)
  obtain rfl := Option.some.inj H
  go_enter Try.func42, Try.ntmps42
  go_wp2
  repeat (go_quiet (fail); try go_wp2)
  go_ret
  exact ⟨by first | rfl | (simp; done) | (simp [*]; done), by repeat (first | exact Drawn0.refl _ | apply Drawn0.step)⟩
def dioramalaw10_eq.f (k : Nat) (l0 : List (S77)) (a1 : Int) (l2 : List (S77)) (a3 : Int) : Option (Bool) := (dioramaref00_EqEdits.f k l0 l2).bind fun t144 => (if t144 = true then (some (a1 == a3)) else (some false))
set_option maxHeartbeats 8000000 in
set_option maxRecDepth 100000 in
theorem dioramalaw10_eq.calls (k : Nat) (A0 : Option Addr) (c0 : Nat) (l0 : List (S77)) (a1 : Int) (A2 : Option Addr) (c2 : Nat) (l2 : List (S77)) (a3 : Int) (r : Bool) (w : World) (hr0 : Kd.C k77 w A0 l0.length l0) (hc0 : l0.length ≤ c0) (hr2 : Kd.C k77 w A2 l2.length l2) (hc2 : l2.length ≤ c2) (h : dioramalaw10_eq.f k l0 a1 l2 a3 = some r) :
  Calls Try.prog 23 #[.slice A0 l0.length c0, .int .i64 a1, .slice A2 l2.length c2, .int .i64 a3] w fun e w' => e = .returned (.bool r) ∧ Drawn0 w w' := by
 have HR0 := Aside0.mk hr0; have HC0 := Aside0.mk hc0; clear hr0 hc0; have HR2 := Aside0.mk hr2; have HC2 := Aside0.mk hc2; clear hr2 hc2; have H : ((dioramaref00_EqEdits.f k l0 l2).bind fun t144 => (if t144 = true then (some (a1 == a3)) else (some false))) = some r := h
 clear h; obtain ⟨t144, A5, H⟩ := ob H
 by_cases c6 : t144 = true
 ·subst c6; rw [if_pos rfl] at H; obtain rfl := Option.some.inj H
  go_enter Try.func23, Try.ntmps23
  go_wp2_with (first | ((with_reducible refine gate_callee (f := 42) rfl ?_); refine zC 11 Try.func42 #[.slice A0 l0.length c0, .slice A2 l2.length c2] ?_; (with_reducible refine (dioramaref00_EqEdits.calls k _ _ l0 _ _ l2 true _ ?side1 ?side2 ?side3 ?side4 A5.out).mono ?_); (case side1 => repeat (first | exact HR0.out | (with_reducible refine Kd.C_alloc ?_ _) | (with_reducible refine Kd.C_drewN ?_ _) | (with_reducible refine Kd.C_drew ?_))); (case side2 => exact HC0.out); (case side3 => repeat (first | exact HR2.out | (with_reducible refine Kd.C_alloc ?_ _) | (with_reducible refine Kd.C_drewN ?_ _) | (with_reducible refine Kd.C_drew ?_))); (case side4 => exact HC2.out); rintro e w' ⟨rfl, ⟨nd, rfl⟩⟩; refine ⟨_, rfl, ?_⟩))
  go_ret
  exact ⟨by first | rfl | (simp; done) | (simp [*]; done), by repeat (first | exact Drawn0.refl _ | apply Drawn0.step)⟩
 ·obtain rfl := bf c6; rw [if_neg (show ¬ (false = true) by decide)] at H; obtain rfl := Option.some.inj H
  go_enter Try.func23, Try.ntmps23
  go_wp2_with (first | ((with_reducible refine gate_callee (f := 42) rfl ?_); refine zC 11 Try.func42 #[.slice A0 l0.length c0, .slice A2 l2.length c2] ?_; (with_reducible refine (dioramaref00_EqEdits.calls k _ _ l0 _ _ l2 false _ ?side1 ?side2 ?side3 ?side4 A5.out).mono ?_); (case side1 => repeat (first | exact HR0.out | (with_reducible refine Kd.C_alloc ?_ _) | (with_reducible refine Kd.C_drewN ?_ _) | (with_reducible refine Kd.C_drew ?_))); (case side2 => exact HC0.out); (case side3 => repeat (first | exact HR2.out | (with_reducible refine Kd.C_alloc ?_ _) | (with_reducible refine Kd.C_drewN ?_ _) | (with_reducible refine Kd.C_drew ?_))); (case side4 => exact HC2.out); rintro e w' ⟨rfl, ⟨nd, rfl⟩⟩; refine ⟨_, rfl, ?_⟩))
  go_ret
  exact ⟨by first | rfl | (simp; done) | (simp [*]; done), by repeat (first | exact Drawn0.refl _ | apply Drawn0.step)⟩
end Go.Proofs.Ytpbhepdgamoiaaa.E
namespace Go.Proofs.Ytpbhepdgamoiaaa.E
open Go.Proofs.Ytpbhepdgamoiaaa.Z Go.RowKit Go.Proofs.YtpbhepdgamoiaaaW.PrintWords Go.Proofs.YtpbhepdgamoiaaaW.PrintLast Go.Proofs.YtpbhepdgamoiaaaW.PrintMore
attribute [local go_sem] max2_int min2_int max_two min_two max_three min_three max_four min_four
set_option linter.unusedVariables false
set_option linter.unusedSimpArgs false
def dioramaref03_in.f (a0 : Int) (a1 : Int) (a2 : Int) : Option (Bool) := if a0 ≥ a1 then (some (decide (a0 ≤ a2))) else (some false)
set_option maxHeartbeats 8000000 in
set_option maxRecDepth 100000 in
theorem dioramaref03_in.calls (a0 : Int) (a1 : Int) (a2 : Int) (r : Bool) (w : World) (h : dioramaref03_in.f a0 a1 a2 = some r) :
  Calls Try.prog 146 #[.int .i64 a0, .int .i64 a1, .int .i64 a2] w fun e w' => e = .returned (.bool r) ∧ Drawn0 w w' := by
 have H : (if a0 ≥ a1 then (some (decide (a0 ≤ a2))) else (some false)) = some r := h; clear h
 by_cases c4 : a0 ≥ a1
 ·rw [if_pos c4] at H; have c4b0 : decide (a1 ≤ a0) = true := decide_eq_true c4; clear c4; obtain rfl := Option.some.inj H
  go_enter Try.func146, Try.ntmps146
  go_wp2
  go_ret
  exact ⟨by first | rfl | (simp; done) | (simp [*]; done), by repeat (first | exact Drawn0.refl _ | apply Drawn0.step)⟩
 ·rw [if_neg c4] at H; have c4b0 : decide (a1 ≤ a0) = false := decide_eq_false c4; clear c4; obtain rfl := Option.some.inj H
  go_enter Try.func146, Try.ntmps146
  go_wp2
  go_ret
  exact ⟨by first | rfl | (simp; done) | (simp [*]; done), by repeat (first | exact Drawn0.refl _ | apply Drawn0.step)⟩
def dioramaref03_Letters.l0 : Nat → ByteArray → Int → Option (Bool)
  | 0, _, _ => none
  | k + 1, x0, x3 => if x3 < (x0.size : Int) then (if 0 ≤ x3 then (if (bt x0 x3) < 97 then (if (bt x0 x3) < 48 then (some false) else (if (bt x0 x3) > 57 then (some false) else (dioramaref03_Letters.l0 k x0 (wrap64 (x3 + 1))))) else (if (bt x0 x3) > 122 then (if (bt x0 x3) < 48 then (some false) else (if (bt x0 x3) > 57 then (some false) else (dioramaref03_Letters.l0 k x0 (wrap64 (x3 + 1))))) else (dioramaref03_Letters.l0 k x0 (wrap64 (x3 + 1))))) else (none)) else (some ((x0.size : Int) == 4))
def dioramaref03_Letters.f (k : Nat) (a0 : ByteArray) : Option (Bool) := dioramaref03_Letters.l0 k a0 0
set_option maxHeartbeats 8000000 in
set_option maxRecDepth 100000 in
theorem dioramaref03_Letters.calls (k : Nat) (a0 : ByteArray) (r : Bool) (w : World) (h : dioramaref03_Letters.f k a0 = some r) :
  Calls Try.prog 147 #[.string a0] w fun e w' => e = .returned (.bool r) ∧ Drawn0 w w' := by
 have H : (dioramaref03_Letters.l0 k a0 0) = some r := h; clear h; have H' := Aside0.mk H; clear H
 go_enter Try.func147, Try.ntmps147
 go_wp2
 go_loopg [3] k (fun kq v3 w' => ∃ (x3_1 : Int), v3 = .int .i64 x3_1 ∧ Aside0 (dioramaref03_Letters.l0 kq a0 x3_1 = some r) ∧ Aside0 (kq ≤ k) ∧ Drawn0 w w')
 case atStart => exact ⟨(0), jz, H', ⟨Nat.le_refl _⟩, by repeat (first | exact Drawn0.refl _ | apply Drawn0.step)⟩
 case round =>
  clear H'
  try clear c1
  obtain ⟨x3_1, rfl, HA, HK1, ⟨m1, rfl⟩⟩ := hrel
  cases gk with
  | zero => exact absurd HA.out (by simp [dioramaref03_Letters.l0])
  | succ k1 =>
   have H := HA.out; clear HA; simp only [dioramaref03_Letters.l0] at H
   by_cases c2 : x3_1 < (a0.size : Int)
   ·rw [if_pos c2] at H; have c2b0 : decide (x3_1 < (a0.size : Int)) = true := decide_eq_true c2; clear c2
    by_cases c3 : 0 ≤ x3_1
    ·rw [if_pos c3] at H; have c3b0 : decide (0 ≤ x3_1) = true := decide_eq_true c3; clear c3
     by_cases c5 : (bt a0 x3_1) < 97
     ·rw [if_pos c5] at H; have c5b0 : decide ((bt a0 x3_1) < 97) = true := decide_eq_true c5; clear c5
      by_cases c7 : (bt a0 x3_1) < 48
      ·rw [if_pos c7] at H; have c7b0 : decide ((bt a0 x3_1) < 48) = true := decide_eq_true c7; clear c7; obtain rfl := Option.some.inj H; have p4 : 0 ≤ (x3_1 : Int) := od; have q4 : x3_1 < (a0.size : Int) := od; have hx4 := bt_at a0 x3_1; replace p4 := eq_true p4; replace q4 := eq_true q4; have p6 : 0 ≤ (x3_1 : Int) := od; have q6 : x3_1 < (a0.size : Int) := od; have hx6 := bt_at a0 x3_1; replace p6 := eq_true p6; replace q6 := eq_true q6
       go_wp2
       go_ret
       exact ⟨by first | rfl | (simp; done) | (simp [*]; done), by repeat (first | exact Drawn0.refl _ | apply Drawn0.step)⟩
      ·rw [if_neg c7] at H; have c7b0 : decide ((bt a0 x3_1) < 48) = false := decide_eq_false c7; clear c7
       by_cases c9 : (bt a0 x3_1) > 57
       ·rw [if_pos c9] at H; have c9b0 : decide (57 < (bt a0 x3_1)) = true := decide_eq_true c9; clear c9; obtain rfl := Option.some.inj H; have p4 : 0 ≤ (x3_1 : Int) := od; have q4 : x3_1 < (a0.size : Int) := od; have hx4 := bt_at a0 x3_1; replace p4 := eq_true p4; replace q4 := eq_true q4; have p6 : 0 ≤ (x3_1 : Int) := od; have q6 : x3_1 < (a0.size : Int) := od; have hx6 := bt_at a0 x3_1; replace p6 := eq_true p6; replace q6 := eq_true q6; have p8 : 0 ≤ (x3_1 : Int) := od; have q8 : x3_1 < (a0.size : Int) := od; have hx8 := bt_at a0 x3_1; replace p8 := eq_true p8; replace q8 := eq_true q8
        go_wp2
        go_ret
        exact ⟨by first | rfl | (simp; done) | (simp [*]; done), by repeat (first | exact Drawn0.refl _ | apply Drawn0.step)⟩
       ·rw [if_neg c9] at H; have c9b0 : decide (57 < (bt a0 x3_1)) = false := decide_eq_false c9; clear c9; have H' := Aside0.mk H; clear H; have p4 : 0 ≤ (x3_1 : Int) := od; have q4 : x3_1 < (a0.size : Int) := od; have hx4 := bt_at a0 x3_1; replace p4 := eq_true p4; replace q4 := eq_true q4; have p6 : 0 ≤ (x3_1 : Int) := od; have q6 : x3_1 < (a0.size : Int) := od; have hx6 := bt_at a0 x3_1; replace p6 := eq_true p6; replace q6 := eq_true q6; have p8 : 0 ≤ (x3_1 : Int) := od; have q8 : x3_1 < (a0.size : Int) := od; have hx8 := bt_at a0 x3_1; replace p8 := eq_true p8; replace q8 := eq_true q8
        go_wp2
        go_roundg k1
        case measure => have := HK1.out; omega
        case rel => exact ⟨(wrap64 (x3_1 + 1)), jz, H', ⟨by have := HK1.out; omega⟩, by repeat (first | exact Drawn0.refl _ | apply Drawn0.step)⟩
     ·rw [if_neg c5] at H; have c5b0 : decide ((bt a0 x3_1) < 97) = false := decide_eq_false c5; clear c5
      by_cases c11 : (bt a0 x3_1) > 122
      ·rw [if_pos c11] at H; have c11b0 : decide (122 < (bt a0 x3_1)) = true := decide_eq_true c11; clear c11
       by_cases c13 : (bt a0 x3_1) < 48
       ·rw [if_pos c13] at H; have c13b0 : decide ((bt a0 x3_1) < 48) = true := decide_eq_true c13; clear c13; obtain rfl := Option.some.inj H; have p4 : 0 ≤ (x3_1 : Int) := od; have q4 : x3_1 < (a0.size : Int) := od; have hx4 := bt_at a0 x3_1; replace p4 := eq_true p4; replace q4 := eq_true q4; have p10 : 0 ≤ (x3_1 : Int) := od; have q10 : x3_1 < (a0.size : Int) := od; have hx10 := bt_at a0 x3_1; replace p10 := eq_true p10; replace q10 := eq_true q10; have p12 : 0 ≤ (x3_1 : Int) := od; have q12 : x3_1 < (a0.size : Int) := od; have hx12 := bt_at a0 x3_1; replace p12 := eq_true p12; replace q12 := eq_true q12
        go_wp2
        go_ret
        exact ⟨by first | rfl | (simp; done) | (simp [*]; done), by repeat (first | exact Drawn0.refl _ | apply Drawn0.step)⟩
       ·rw [if_neg c13] at H; have c13b0 : decide ((bt a0 x3_1) < 48) = false := decide_eq_false c13; clear c13
        by_cases c15 : (bt a0 x3_1) > 57
        ·rw [if_pos c15] at H; have c15b0 : decide (57 < (bt a0 x3_1)) = true := decide_eq_true c15; clear c15; obtain rfl := Option.some.inj H; have p4 : 0 ≤ (x3_1 : Int) := od; have q4 : x3_1 < (a0.size : Int) := od; have hx4 := bt_at a0 x3_1; replace p4 := eq_true p4; replace q4 := eq_true q4; have p10 : 0 ≤ (x3_1 : Int) := od; have q10 : x3_1 < (a0.size : Int) := od; have hx10 := bt_at a0 x3_1; replace p10 := eq_true p10; replace q10 := eq_true q10; have p12 : 0 ≤ (x3_1 : Int) := od; have q12 : x3_1 < (a0.size : Int) := od; have hx12 := bt_at a0 x3_1; replace p12 := eq_true p12; replace q12 := eq_true q12; have p14 : 0 ≤ (x3_1 : Int) := od; have q14 : x3_1 < (a0.size : Int) := od; have hx14 := bt_at a0 x3_1; replace p14 := eq_true p14; replace q14 := eq_true q14
         go_wp2
         go_ret
         exact ⟨by first | rfl | (simp; done) | (simp [*]; done), by repeat (first | exact Drawn0.refl _ | apply Drawn0.step)⟩
        ·rw [if_neg c15] at H; have c15b0 : decide (57 < (bt a0 x3_1)) = false := decide_eq_false c15; clear c15; have H' := Aside0.mk H; clear H; have p4 : 0 ≤ (x3_1 : Int) := od; have q4 : x3_1 < (a0.size : Int) := od; have hx4 := bt_at a0 x3_1; replace p4 := eq_true p4; replace q4 := eq_true q4; have p10 : 0 ≤ (x3_1 : Int) := od; have q10 : x3_1 < (a0.size : Int) := od; have hx10 := bt_at a0 x3_1; replace p10 := eq_true p10; replace q10 := eq_true q10; have p12 : 0 ≤ (x3_1 : Int) := od; have q12 : x3_1 < (a0.size : Int) := od; have hx12 := bt_at a0 x3_1; replace p12 := eq_true p12; replace q12 := eq_true q12; have p14 : 0 ≤ (x3_1 : Int) := od; have q14 : x3_1 < (a0.size : Int) := od; have hx14 := bt_at a0 x3_1; replace p14 := eq_true p14; replace q14 := eq_true q14
         go_wp2
         go_roundg k1
         case measure => have := HK1.out; omega
         case rel => exact ⟨(wrap64 (x3_1 + 1)), jz, H', ⟨by have := HK1.out; omega⟩, by repeat (first | exact Drawn0.refl _ | apply Drawn0.step)⟩
      ·rw [if_neg c11] at H; have c11b0 : decide (122 < (bt a0 x3_1)) = false := decide_eq_false c11; clear c11; have H' := Aside0.mk H; clear H; have p4 : 0 ≤ (x3_1 : Int) := od; have q4 : x3_1 < (a0.size : Int) := od; have hx4 := bt_at a0 x3_1; replace p4 := eq_true p4; replace q4 := eq_true q4; have p10 : 0 ≤ (x3_1 : Int) := od; have q10 : x3_1 < (a0.size : Int) := od; have hx10 := bt_at a0 x3_1; replace p10 := eq_true p10; replace q10 := eq_true q10
       go_wp2
       go_roundg k1
       case measure => have := HK1.out; omega
       case rel => exact ⟨(wrap64 (x3_1 + 1)), jz, H', ⟨by have := HK1.out; omega⟩, by repeat (first | exact Drawn0.refl _ | apply Drawn0.step)⟩
    ·rw [if_neg c3] at H
     exact absurd H (by simp)
   ·rw [if_neg c2] at H; have c2b0 : decide (x3_1 < (a0.size : Int)) = false := decide_eq_false c2; clear c2; obtain rfl := Option.some.inj H
    go_wp2
    go_ret
    exact ⟨by first | rfl | (simp; done) | (simp [*]; done), by repeat (first | exact Drawn0.refl _ | apply Drawn0.step)⟩
def dioramaref03_language.l0 : Nat → ByteArray → Int → Option (Bool)
  | 0, _, _ => none
  | k + 1, x0, x3 => if x3 < (x0.size : Int) then (if 0 ≤ x3 then (if (bt x0 x3) < 97 then (some false) else (if (bt x0 x3) > 122 then (some false) else (dioramaref03_language.l0 k x0 (wrap64 (x3 + 1))))) else (none)) else (some ((x0.size : Int) == 3))
def dioramaref03_language.f (k : Nat) (a0 : ByteArray) : Option (Bool) := dioramaref03_language.l0 k a0 0
set_option maxHeartbeats 8000000 in
set_option maxRecDepth 100000 in
theorem dioramaref03_language.calls (k : Nat) (a0 : ByteArray) (r : Bool) (w : World) (h : dioramaref03_language.f k a0 = some r) :
  Calls Try.prog 148 #[.string a0] w fun e w' => e = .returned (.bool r) ∧ Drawn0 w w' := by
 have H : (dioramaref03_language.l0 k a0 0) = some r := h; clear h; have H' := Aside0.mk H; clear H
 go_enter Try.func148, Try.ntmps148
 go_wp2
 go_loopg [3] k (fun kq v3 w' => ∃ (x3_1 : Int), v3 = .int .i64 x3_1 ∧ Aside0 (dioramaref03_language.l0 kq a0 x3_1 = some r) ∧ Aside0 (kq ≤ k) ∧ Drawn0 w w')
 case atStart => exact ⟨(0), jz, H', ⟨Nat.le_refl _⟩, by repeat (first | exact Drawn0.refl _ | apply Drawn0.step)⟩
 case round =>
  clear H'
  try clear c1
  obtain ⟨x3_1, rfl, HA, HK1, ⟨m1, rfl⟩⟩ := hrel
  cases gk with
  | zero => exact absurd HA.out (by simp [dioramaref03_language.l0])
  | succ k1 =>
   have H := HA.out; clear HA; simp only [dioramaref03_language.l0] at H
   by_cases c2 : x3_1 < (a0.size : Int)
   ·rw [if_pos c2] at H; have c2b0 : decide (x3_1 < (a0.size : Int)) = true := decide_eq_true c2; clear c2
    by_cases c3 : 0 ≤ x3_1
    ·rw [if_pos c3] at H; have c3b0 : decide (0 ≤ x3_1) = true := decide_eq_true c3; clear c3
     by_cases c5 : (bt a0 x3_1) < 97
     ·rw [if_pos c5] at H; have c5b0 : decide ((bt a0 x3_1) < 97) = true := decide_eq_true c5; clear c5; obtain rfl := Option.some.inj H; have p4 : 0 ≤ (x3_1 : Int) := od; have q4 : x3_1 < (a0.size : Int) := od; have hx4 := bt_at a0 x3_1; replace p4 := eq_true p4; replace q4 := eq_true q4
      go_wp2
      go_ret
      exact ⟨by first | rfl | (simp; done) | (simp [*]; done), by repeat (first | exact Drawn0.refl _ | apply Drawn0.step)⟩
     ·rw [if_neg c5] at H; have c5b0 : decide ((bt a0 x3_1) < 97) = false := decide_eq_false c5; clear c5
      by_cases c7 : (bt a0 x3_1) > 122
      ·rw [if_pos c7] at H; have c7b0 : decide (122 < (bt a0 x3_1)) = true := decide_eq_true c7; clear c7; obtain rfl := Option.some.inj H; have p4 : 0 ≤ (x3_1 : Int) := od; have q4 : x3_1 < (a0.size : Int) := od; have hx4 := bt_at a0 x3_1; replace p4 := eq_true p4; replace q4 := eq_true q4; have p6 : 0 ≤ (x3_1 : Int) := od; have q6 : x3_1 < (a0.size : Int) := od; have hx6 := bt_at a0 x3_1; replace p6 := eq_true p6; replace q6 := eq_true q6
       go_wp2
       go_ret
       exact ⟨by first | rfl | (simp; done) | (simp [*]; done), by repeat (first | exact Drawn0.refl _ | apply Drawn0.step)⟩
      ·rw [if_neg c7] at H; have c7b0 : decide (122 < (bt a0 x3_1)) = false := decide_eq_false c7; clear c7; have H' := Aside0.mk H; clear H; have p4 : 0 ≤ (x3_1 : Int) := od; have q4 : x3_1 < (a0.size : Int) := od; have hx4 := bt_at a0 x3_1; replace p4 := eq_true p4; replace q4 := eq_true q4; have p6 : 0 ≤ (x3_1 : Int) := od; have q6 : x3_1 < (a0.size : Int) := od; have hx6 := bt_at a0 x3_1; replace p6 := eq_true p6; replace q6 := eq_true q6
       go_wp2
       go_roundg k1
       case measure => have := HK1.out; omega
       case rel => exact ⟨(wrap64 (x3_1 + 1)), jz, H', ⟨by have := HK1.out; omega⟩, by repeat (first | exact Drawn0.refl _ | apply Drawn0.step)⟩
    ·rw [if_neg c3] at H
     exact absurd H (by simp)
   ·rw [if_neg c2] at H; have c2b0 : decide (x3_1 < (a0.size : Int)) = false := decide_eq_false c2; clear c2; obtain rfl := Option.some.inj H
    go_wp2
    go_ret
    exact ⟨by first | rfl | (simp; done) | (simp [*]; done), by repeat (first | exact Drawn0.refl _ | apply Drawn0.step)⟩
def dioramaref03_Name.l0 : Nat → ByteArray → Int → Option (Bool)
  | 0, _, _ => none
  | k + 1, x0, x3 => if x3 < (x0.size : Int) then (if 0 ≤ x3 then (if (bt x0 x3) < 32 then (some false) else (if (bt x0 x3) > 126 then (some false) else (dioramaref03_Name.l0 k x0 (wrap64 (x3 + 1))))) else (none)) else (some (decide ((x0.size : Int) ≤ 40)))
def dioramaref03_Name.f (k : Nat) (a0 : ByteArray) : Option (Bool) := dioramaref03_Name.l0 k a0 0
set_option maxHeartbeats 8000000 in
set_option maxRecDepth 100000 in
theorem dioramaref03_Name.calls (k : Nat) (a0 : ByteArray) (r : Bool) (w : World) (h : dioramaref03_Name.f k a0 = some r) :
  Calls Try.prog 149 #[.string a0] w fun e w' => e = .returned (.bool r) ∧ Drawn0 w w' := by
 have H : (dioramaref03_Name.l0 k a0 0) = some r := h; clear h; have H' := Aside0.mk H; clear H
 go_enter Try.func149, Try.ntmps149
 go_wp2
 go_loopg [3] k (fun kq v3 w' => ∃ (x3_1 : Int), v3 = .int .i64 x3_1 ∧ Aside0 (dioramaref03_Name.l0 kq a0 x3_1 = some r) ∧ Aside0 (kq ≤ k) ∧ Drawn0 w w')
 case atStart => exact ⟨(0), jz, H', ⟨Nat.le_refl _⟩, by repeat (first | exact Drawn0.refl _ | apply Drawn0.step)⟩
 case round =>
  clear H'
  try clear c1
  obtain ⟨x3_1, rfl, HA, HK1, ⟨m1, rfl⟩⟩ := hrel
  cases gk with
  | zero => exact absurd HA.out (by simp [dioramaref03_Name.l0])
  | succ k1 =>
   have H := HA.out; clear HA; simp only [dioramaref03_Name.l0] at H
   by_cases c2 : x3_1 < (a0.size : Int)
   ·rw [if_pos c2] at H; have c2b0 : decide (x3_1 < (a0.size : Int)) = true := decide_eq_true c2; clear c2
    by_cases c3 : 0 ≤ x3_1
    ·rw [if_pos c3] at H; have c3b0 : decide (0 ≤ x3_1) = true := decide_eq_true c3; clear c3
     by_cases c5 : (bt a0 x3_1) < 32
     ·rw [if_pos c5] at H; have c5b0 : decide ((bt a0 x3_1) < 32) = true := decide_eq_true c5; clear c5; obtain rfl := Option.some.inj H; have p4 : 0 ≤ (x3_1 : Int) := od; have q4 : x3_1 < (a0.size : Int) := od; have hx4 := bt_at a0 x3_1; replace p4 := eq_true p4; replace q4 := eq_true q4
      go_wp2
      go_ret
      exact ⟨by first | rfl | (simp; done) | (simp [*]; done), by repeat (first | exact Drawn0.refl _ | apply Drawn0.step)⟩
     ·rw [if_neg c5] at H; have c5b0 : decide ((bt a0 x3_1) < 32) = false := decide_eq_false c5; clear c5
      by_cases c7 : (bt a0 x3_1) > 126
      ·rw [if_pos c7] at H; have c7b0 : decide (126 < (bt a0 x3_1)) = true := decide_eq_true c7; clear c7; obtain rfl := Option.some.inj H; have p4 : 0 ≤ (x3_1 : Int) := od; have q4 : x3_1 < (a0.size : Int) := od; have hx4 := bt_at a0 x3_1; replace p4 := eq_true p4; replace q4 := eq_true q4; have p6 : 0 ≤ (x3_1 : Int) := od; have q6 : x3_1 < (a0.size : Int) := od; have hx6 := bt_at a0 x3_1; replace p6 := eq_true p6; replace q6 := eq_true q6
       go_wp2
       go_ret
       exact ⟨by first | rfl | (simp; done) | (simp [*]; done), by repeat (first | exact Drawn0.refl _ | apply Drawn0.step)⟩
      ·rw [if_neg c7] at H; have c7b0 : decide (126 < (bt a0 x3_1)) = false := decide_eq_false c7; clear c7; have H' := Aside0.mk H; clear H; have p4 : 0 ≤ (x3_1 : Int) := od; have q4 : x3_1 < (a0.size : Int) := od; have hx4 := bt_at a0 x3_1; replace p4 := eq_true p4; replace q4 := eq_true q4; have p6 : 0 ≤ (x3_1 : Int) := od; have q6 : x3_1 < (a0.size : Int) := od; have hx6 := bt_at a0 x3_1; replace p6 := eq_true p6; replace q6 := eq_true q6
       go_wp2
       go_roundg k1
       case measure => have := HK1.out; omega
       case rel => exact ⟨(wrap64 (x3_1 + 1)), jz, H', ⟨by have := HK1.out; omega⟩, by repeat (first | exact Drawn0.refl _ | apply Drawn0.step)⟩
    ·rw [if_neg c3] at H
     exact absurd H (by simp)
   ·rw [if_neg c2] at H; have c2b0 : decide (x3_1 < (a0.size : Int)) = false := decide_eq_false c2; clear c2; obtain rfl := Option.some.inj H
    go_wp2
    go_ret
    exact ⟨by first | rfl | (simp; done) | (simp [*]; done), by repeat (first | exact Drawn0.refl _ | apply Drawn0.step)⟩
mutual
def dioramaref03_fields.j0 : Nat → Bool → Int → Int → ByteArray → Int → List Int → ByteArray → ByteArray → Int → List (S77) → List (S150) → List (S120) → Option (Bool)
  | 0, _, _, _, _, _, _, _, _, _, _, _, _ => none
  | k + 1, x43, x1273000, x1273001, x1273002, x1273003, x1273004, x1273005, x1273006, x1273007, x1273008, x1273009, x1273010 => if x43 = true then (some false) else (dioramaref03_fields.l0 k 0 x1273000 x1273001 x1273002 x1273003 x1273004 x1273005 x1273006 x1273007 x1273008 x1273009 x1273010)
def dioramaref03_fields.l0 : Nat → Int → Int → Int → ByteArray → Int → List Int → ByteArray → ByteArray → Int → List (S77) → List (S150) → List (S120) → Option (Bool)
  | 0, _, _, _, _, _, _, _, _, _, _, _, _ => none
  | k + 1, x3, x1273000, x1273001, x1273002, x1273003, x1273004, x1273005, x1273006, x1273007, x1273008, x1273009, x1273010 => if x3 < (x1273009.length : Int) then (if 0 ≤ x3 then ((dioramaref03_Letters.f k ((rd_T150 x1273009 x3).f0)).bind fun t1281 => (if t1281 = true then (dioramaref03_fields.l0 k (wrap64 (x3 + 1)) x1273000 x1273001 x1273002 x1273003 x1273004 x1273005 x1273006 x1273007 x1273008 x1273009 x1273010) else (some false))) else (none)) else (some true)
end
def dioramaref03_fields.f (k : Nat) (a0_0 : Int) (a0_1 : Int) (a0_2 : ByteArray) (a0_3 : Int) (l0_4 : List Int) (a0_5 : ByteArray) (a0_6 : ByteArray) (a0_7 : Int) (l0_8 : List (S77)) (l0_9 : List (S150)) (l0_10 : List (S120)) : Option (Bool) := (dioramaref03_in.f a0_0 1 1000).bind fun t1273 => (if t1273 = true then ((dioramaref03_in.f a0_1 1 7).bind fun t1274 => (if t1274 = true then ((dioramaref03_Letters.f k a0_2).bind fun t1275 => (if t1275 = true then ((dioramaref03_in.f a0_3 1 1000000).bind fun t1276 => (if t1276 = true then ((dioramaref03_language.f k a0_5).bind fun t1277 => (if t1277 = true then ((dioramaref03_Name.f k a0_6).bind fun t1278 => (if t1278 = true then ((dioramaref03_in.f a0_7 0 1099511627776).bind fun t1279 => (dioramaref03_fields.j0 k (!t1279) a0_0 a0_1 a0_2 a0_3 l0_4 a0_5 a0_6 a0_7 l0_8 l0_9 l0_10)) else (dioramaref03_fields.j0 k true a0_0 a0_1 a0_2 a0_3 l0_4 a0_5 a0_6 a0_7 l0_8 l0_9 l0_10))) else (dioramaref03_fields.j0 k true a0_0 a0_1 a0_2 a0_3 l0_4 a0_5 a0_6 a0_7 l0_8 l0_9 l0_10))) else (dioramaref03_fields.j0 k true a0_0 a0_1 a0_2 a0_3 l0_4 a0_5 a0_6 a0_7 l0_8 l0_9 l0_10))) else (dioramaref03_fields.j0 k true a0_0 a0_1 a0_2 a0_3 l0_4 a0_5 a0_6 a0_7 l0_8 l0_9 l0_10))) else (dioramaref03_fields.j0 k true a0_0 a0_1 a0_2 a0_3 l0_4 a0_5 a0_6 a0_7 l0_8 l0_9 l0_10))) else (dioramaref03_fields.j0 k true a0_0 a0_1 a0_2 a0_3 l0_4 a0_5 a0_6 a0_7 l0_8 l0_9 l0_10))
set_option maxHeartbeats 8000000 in
set_option maxRecDepth 100000 in
theorem dioramaref03_fields.calls (k : Nat) (a0_0 : Int) (a0_1 : Int) (a0_2 : ByteArray) (a0_3 : Int) (A0_4 : Option Addr) (c0_4 : Nat) (l0_4 : List Int) (a0_5 : ByteArray) (a0_6 : ByteArray) (a0_7 : Int) (A0_8 : Option Addr) (c0_8 : Nat) (l0_8 : List (S77)) (A0_9 : Option Addr) (c0_9 : Nat) (l0_9 : List (S150)) (A0_10 : Option Addr) (c0_10 : Nat) (l0_10 : List (S120)) (r : Bool) (w : World) (hr0_4 : Kd.C (Kd.int .u8) w A0_4 l0_4.length l0_4) (hc0_4 : l0_4.length ≤ c0_4) (hr0_8 : Kd.C k77 w A0_8 l0_8.length l0_8) (hc0_8 : l0_8.length ≤ c0_8) (hr0_9 : Kd.C k150 w A0_9 l0_9.length l0_9) (hc0_9 : l0_9.length ≤ c0_9) (hr0_10 : Kd.C k120 w A0_10 l0_10.length l0_10) (hc0_10 : l0_10.length ≤ c0_10) (h : dioramaref03_fields.f k a0_0 a0_1 a0_2 a0_3 l0_4 a0_5 a0_6 a0_7 l0_8 l0_9 l0_10 = some r) :
  Calls Try.prog 109 #[.agg #[.int .i64 a0_0, .int .i64 a0_1, .string a0_2, .int .i64 a0_3, .slice A0_4 l0_4.length c0_4, .string a0_5, .string a0_6, .int .i64 a0_7, .slice A0_8 l0_8.length c0_8, .slice A0_9 l0_9.length c0_9, .slice A0_10 l0_10.length c0_10]] w fun e w' => e = .returned (.bool r) ∧ Below w.heap.size w w' := by
 have hu71 := Try.underlying71; have HR0_4 := Aside0.mk hr0_4; have HC0_4 := Aside0.mk hc0_4; clear hr0_4 hc0_4; have HR0_8 := Aside0.mk hr0_8; have HC0_8 := Aside0.mk hc0_8; clear hr0_8 hc0_8; have HR0_9 := Aside0.mk hr0_9; have HC0_9 := Aside0.mk hc0_9; clear hr0_9 hc0_9; have HR0_10 := Aside0.mk hr0_10; have HC0_10 := Aside0.mk hc0_10; clear hr0_10 hc0_10; have HB := Aside0.mk (Below.refl w.heap.size w); have H : ((dioramaref03_in.f a0_0 1 1000).bind fun t1273 => (if t1273 = true then ((dioramaref03_in.f a0_1 1 7).bind fun t1274 => (if t1274 = true then ((dioramaref03_Letters.f k a0_2).bind fun t1275 => (if t1275 = true then ((dioramaref03_in.f a0_3 1 1000000).bind fun t1276 => (if t1276 = true then ((dioramaref03_language.f k a0_5).bind fun t1277 => (if t1277 = true then ((dioramaref03_Name.f k a0_6).bind fun t1278 => (if t1278 = true then ((dioramaref03_in.f a0_7 0 1099511627776).bind fun t1279 => (dioramaref03_fields.j0 k (!t1279) a0_0 a0_1 a0_2 a0_3 l0_4 a0_5 a0_6 a0_7 l0_8 l0_9 l0_10)) else (dioramaref03_fields.j0 k true a0_0 a0_1 a0_2 a0_3 l0_4 a0_5 a0_6 a0_7 l0_8 l0_9 l0_10))) else (dioramaref03_fields.j0 k true a0_0 a0_1 a0_2 a0_3 l0_4 a0_5 a0_6 a0_7 l0_8 l0_9 l0_10))) else (dioramaref03_fields.j0 k true a0_0 a0_1 a0_2 a0_3 l0_4 a0_5 a0_6 a0_7 l0_8 l0_9 l0_10))) else (dioramaref03_fields.j0 k true a0_0 a0_1 a0_2 a0_3 l0_4 a0_5 a0_6 a0_7 l0_8 l0_9 l0_10))) else (dioramaref03_fields.j0 k true a0_0 a0_1 a0_2 a0_3 l0_4 a0_5 a0_6 a0_7 l0_8 l0_9 l0_10))) else (dioramaref03_fields.j0 k true a0_0 a0_1 a0_2 a0_3 l0_4 a0_5 a0_6 a0_7 l0_8 l0_9 l0_10))) = some r := h
 clear h; have HC2 := Aside0.mk H; clear H
 go_enter Try.func109, Try.ntmps109
 go_upto_region 1 with (first | ((with_reducible refine gate_dst (N := 1) rfl ?_); refine zB 1 71 #[.int .i64 a0_0, .int .i64 a0_1, .string a0_2, .int .i64 a0_3, .slice A0_4 l0_4.length c0_4, .string a0_5, .string a0_6, .int .i64 a0_7, .slice A0_8 l0_8.length c0_8, .slice A0_9 l0_9.length c0_9, .slice A0_10 l0_10.length c0_10] ?_; intro gb1272 hg w3 hbox hb; have BK1272 := Aside0.mk hbox; have GW1272 := gz hg; have GE1272 := gz hg; replace HB := bp hb; clear hb hbox hg))
 (try simp only [Act.put, List.setIfInBounds_toArray, List.set_cons_zero, List.set_cons_succ])
 go_cut [43] (fun v43 wc => ∃ (kq : Nat) (x43_1 : Bool), v43 = .bool x43_1 ∧ Aside0 (dioramaref03_fields.j0 kq x43_1 a0_0 a0_1 a0_2 a0_3 l0_4 a0_5 a0_6 a0_7 l0_8 l0_9 l0_10 = some r) ∧ Aside0 (kq ≤ k) ∧ Aside0 (wc.heap[gb1272]? = some (.cells #[.int .i64 a0_0, .int .i64 a0_1, .string a0_2, .int .i64 a0_3, (.slice A0_4 l0_4.length c0_4), .string a0_5, .string a0_6, .int .i64 a0_7, (.slice A0_8 l0_8.length c0_8), (.slice A0_9 l0_9.length c0_9), (.slice A0_10 l0_10.length c0_10)] 71 (0, 0))) ∧ Aside0 (Below w.heap.size w wc))
 case first =>
  have H := HC2.out; clear HC2; obtain ⟨t1273, A4, H⟩ := ob H
  by_cases c5 : t1273 = true
  ·subst c5; rw [if_pos rfl] at H; obtain ⟨t1274, A6, H⟩ := ob H
   by_cases c7 : t1274 = true
   ·subst c7; rw [if_pos rfl] at H; obtain ⟨t1275, A8, H⟩ := ob H
    by_cases c9 : t1275 = true
    ·subst c9; rw [if_pos rfl] at H; obtain ⟨t1276, A10, H⟩ := ob H
     by_cases c11 : t1276 = true
     ·subst c11; rw [if_pos rfl] at H; obtain ⟨t1277, A12, H⟩ := ob H
      by_cases c13 : t1277 = true
      ·subst c13; rw [if_pos rfl] at H; obtain ⟨t1278, A14, H⟩ := ob H
       by_cases c15 : t1278 = true
       ·subst c15; rw [if_pos rfl] at H; obtain ⟨t1279, A16, H⟩ := ob H; have H' := Aside0.mk H; clear H; have hcz17_0 : w3.cell? ⟨gb1272, 0, none⟩ = some (.int .i64 a0_0) := ct BK1272 0; have hcz17_1 : w3.cell? ⟨gb1272, 1, none⟩ = some (.int .i64 a0_1) := ct BK1272 1; have hcz17_2 : w3.cell? ⟨gb1272, 2, none⟩ = some (.string a0_2) := ct BK1272 2; have hcz17_3 : w3.cell? ⟨gb1272, 3, none⟩ = some (.int .i64 a0_3) := ct BK1272 3; have hcz17_4 : w3.cell? ⟨gb1272, 4, none⟩ = some (.slice A0_4 l0_4.length c0_4) := ct BK1272 4; have hcz17_5 : w3.cell? ⟨gb1272, 5, none⟩ = some (.string a0_5) := ct BK1272 5; have hcz17_6 : w3.cell? ⟨gb1272, 6, none⟩ = some (.string a0_6) := ct BK1272 6; have hcz17_7 : w3.cell? ⟨gb1272, 7, none⟩ = some (.int .i64 a0_7) := ct BK1272 7; have hcz17_8 : w3.cell? ⟨gb1272, 8, none⟩ = some (.slice A0_8 l0_8.length c0_8) := ct BK1272 8; have hcz17_9 : w3.cell? ⟨gb1272, 9, none⟩ = some (.slice A0_9 l0_9.length c0_9) := ct BK1272 9; have hcz17_10 : w3.cell? ⟨gb1272, 10, none⟩ = some (.slice A0_10 l0_10.length c0_10) := ct BK1272 10; have hfz17_0 := blk_frozen BK1272.out 0; have hfz17_1 := blk_frozen BK1272.out 1; have hfz17_2 := blk_frozen BK1272.out 2; have hfz17_3 := blk_frozen BK1272.out 3; have hfz17_4 := blk_frozen BK1272.out 4; have hfz17_5 := blk_frozen BK1272.out 5; have hfz17_6 := blk_frozen BK1272.out 6; have hfz17_7 := blk_frozen BK1272.out 7; have hfz17_8 := blk_frozen BK1272.out 8; have hfz17_9 := blk_frozen BK1272.out 9; have hfz17_10 := blk_frozen BK1272.out 10
        go_wp2_with (first | ((with_reducible refine gate_callee (f := 146) rfl ?_); refine zC 6 Try.func146 #[.int .i64 a0_0, .int .i64 1, .int .i64 1000] ?_; (with_reducible refine (dioramaref03_in.calls a0_0 1 1000 true _ A4.out).mono ?_); rintro e w' ⟨rfl, ⟨nd, rfl⟩⟩; refine ⟨_, rfl, ?_⟩) | (go_at_call 146; (with_reducible refine (dioramaref03_in.calls a0_1 1 7 true _ A6.out).mono ?_); rintro e w' ⟨rfl, ⟨nd, rfl⟩⟩) | (go_at_call 147; (with_reducible refine (dioramaref03_Letters.calls k a0_2 true _ A8.out).mono ?_); rintro e w' ⟨rfl, ⟨nd, rfl⟩⟩) | (go_at_call 146; (with_reducible refine (dioramaref03_in.calls a0_3 1 1000000 true _ A10.out).mono ?_); rintro e w' ⟨rfl, ⟨nd, rfl⟩⟩) | (go_at_call 148; (with_reducible refine (dioramaref03_language.calls k a0_5 true _ A12.out).mono ?_); rintro e w' ⟨rfl, ⟨nd, rfl⟩⟩) | (go_at_call 149; (with_reducible refine (dioramaref03_Name.calls k a0_6 true _ A14.out).mono ?_); rintro e w' ⟨rfl, ⟨nd, rfl⟩⟩) | (go_at_call 146; (with_reducible refine (dioramaref03_in.calls a0_7 0 1099511627776 t1279 _ A16.out).mono ?_); rintro e w' ⟨rfl, ⟨nd, rfl⟩⟩))
        go_meet
        case rel => exact ⟨_, (!t1279), jz, H', ⟨by first | omega | exact Nat.le_refl _⟩, ⟨kz⟩, ⟨bz⟩⟩
       ·obtain rfl := bf c15; rw [if_neg (show ¬ (false = true) by decide)] at H; have H' := Aside0.mk H; clear H; have hcz18_0 : w3.cell? ⟨gb1272, 0, none⟩ = some (.int .i64 a0_0) := ct BK1272 0; have hcz18_1 : w3.cell? ⟨gb1272, 1, none⟩ = some (.int .i64 a0_1) := ct BK1272 1; have hcz18_2 : w3.cell? ⟨gb1272, 2, none⟩ = some (.string a0_2) := ct BK1272 2; have hcz18_3 : w3.cell? ⟨gb1272, 3, none⟩ = some (.int .i64 a0_3) := ct BK1272 3; have hcz18_4 : w3.cell? ⟨gb1272, 4, none⟩ = some (.slice A0_4 l0_4.length c0_4) := ct BK1272 4; have hcz18_5 : w3.cell? ⟨gb1272, 5, none⟩ = some (.string a0_5) := ct BK1272 5; have hcz18_6 : w3.cell? ⟨gb1272, 6, none⟩ = some (.string a0_6) := ct BK1272 6; have hcz18_7 : w3.cell? ⟨gb1272, 7, none⟩ = some (.int .i64 a0_7) := ct BK1272 7; have hcz18_8 : w3.cell? ⟨gb1272, 8, none⟩ = some (.slice A0_8 l0_8.length c0_8) := ct BK1272 8; have hcz18_9 : w3.cell? ⟨gb1272, 9, none⟩ = some (.slice A0_9 l0_9.length c0_9) := ct BK1272 9; have hcz18_10 : w3.cell? ⟨gb1272, 10, none⟩ = some (.slice A0_10 l0_10.length c0_10) := ct BK1272 10; have hfz18_0 := blk_frozen BK1272.out 0; have hfz18_1 := blk_frozen BK1272.out 1; have hfz18_2 := blk_frozen BK1272.out 2; have hfz18_3 := blk_frozen BK1272.out 3; have hfz18_4 := blk_frozen BK1272.out 4; have hfz18_5 := blk_frozen BK1272.out 5; have hfz18_6 := blk_frozen BK1272.out 6; have hfz18_7 := blk_frozen BK1272.out 7; have hfz18_8 := blk_frozen BK1272.out 8; have hfz18_9 := blk_frozen BK1272.out 9; have hfz18_10 := blk_frozen BK1272.out 10
        go_wp2_with (first | ((with_reducible refine gate_callee (f := 146) rfl ?_); refine zC 6 Try.func146 #[.int .i64 a0_0, .int .i64 1, .int .i64 1000] ?_; (with_reducible refine (dioramaref03_in.calls a0_0 1 1000 true _ A4.out).mono ?_); rintro e w' ⟨rfl, ⟨nd, rfl⟩⟩; refine ⟨_, rfl, ?_⟩) | (go_at_call 146; (with_reducible refine (dioramaref03_in.calls a0_1 1 7 true _ A6.out).mono ?_); rintro e w' ⟨rfl, ⟨nd, rfl⟩⟩) | (go_at_call 147; (with_reducible refine (dioramaref03_Letters.calls k a0_2 true _ A8.out).mono ?_); rintro e w' ⟨rfl, ⟨nd, rfl⟩⟩) | (go_at_call 146; (with_reducible refine (dioramaref03_in.calls a0_3 1 1000000 true _ A10.out).mono ?_); rintro e w' ⟨rfl, ⟨nd, rfl⟩⟩) | (go_at_call 148; (with_reducible refine (dioramaref03_language.calls k a0_5 true _ A12.out).mono ?_); rintro e w' ⟨rfl, ⟨nd, rfl⟩⟩) | (go_at_call 149; (with_reducible refine (dioramaref03_Name.calls k a0_6 false _ A14.out).mono ?_); rintro e w' ⟨rfl, ⟨nd, rfl⟩⟩))
        go_meet
        case rel => exact ⟨_, (true), jz, H', ⟨by first | omega | exact Nat.le_refl _⟩, ⟨kz⟩, ⟨bz⟩⟩
      ·obtain rfl := bf c13; rw [if_neg (show ¬ (false = true) by decide)] at H; have H' := Aside0.mk H; clear H; have hcz19_0 : w3.cell? ⟨gb1272, 0, none⟩ = some (.int .i64 a0_0) := ct BK1272 0; have hcz19_1 : w3.cell? ⟨gb1272, 1, none⟩ = some (.int .i64 a0_1) := ct BK1272 1; have hcz19_2 : w3.cell? ⟨gb1272, 2, none⟩ = some (.string a0_2) := ct BK1272 2; have hcz19_3 : w3.cell? ⟨gb1272, 3, none⟩ = some (.int .i64 a0_3) := ct BK1272 3; have hcz19_4 : w3.cell? ⟨gb1272, 4, none⟩ = some (.slice A0_4 l0_4.length c0_4) := ct BK1272 4; have hcz19_5 : w3.cell? ⟨gb1272, 5, none⟩ = some (.string a0_5) := ct BK1272 5; have hcz19_6 : w3.cell? ⟨gb1272, 6, none⟩ = some (.string a0_6) := ct BK1272 6; have hcz19_7 : w3.cell? ⟨gb1272, 7, none⟩ = some (.int .i64 a0_7) := ct BK1272 7; have hcz19_8 : w3.cell? ⟨gb1272, 8, none⟩ = some (.slice A0_8 l0_8.length c0_8) := ct BK1272 8; have hcz19_9 : w3.cell? ⟨gb1272, 9, none⟩ = some (.slice A0_9 l0_9.length c0_9) := ct BK1272 9; have hcz19_10 : w3.cell? ⟨gb1272, 10, none⟩ = some (.slice A0_10 l0_10.length c0_10) := ct BK1272 10; have hfz19_0 := blk_frozen BK1272.out 0; have hfz19_1 := blk_frozen BK1272.out 1; have hfz19_2 := blk_frozen BK1272.out 2; have hfz19_3 := blk_frozen BK1272.out 3; have hfz19_4 := blk_frozen BK1272.out 4; have hfz19_5 := blk_frozen BK1272.out 5; have hfz19_6 := blk_frozen BK1272.out 6; have hfz19_7 := blk_frozen BK1272.out 7; have hfz19_8 := blk_frozen BK1272.out 8; have hfz19_9 := blk_frozen BK1272.out 9; have hfz19_10 := blk_frozen BK1272.out 10
       go_wp2_with (first | ((with_reducible refine gate_callee (f := 146) rfl ?_); refine zC 6 Try.func146 #[.int .i64 a0_0, .int .i64 1, .int .i64 1000] ?_; (with_reducible refine (dioramaref03_in.calls a0_0 1 1000 true _ A4.out).mono ?_); rintro e w' ⟨rfl, ⟨nd, rfl⟩⟩; refine ⟨_, rfl, ?_⟩) | (go_at_call 146; (with_reducible refine (dioramaref03_in.calls a0_1 1 7 true _ A6.out).mono ?_); rintro e w' ⟨rfl, ⟨nd, rfl⟩⟩) | (go_at_call 147; (with_reducible refine (dioramaref03_Letters.calls k a0_2 true _ A8.out).mono ?_); rintro e w' ⟨rfl, ⟨nd, rfl⟩⟩) | (go_at_call 146; (with_reducible refine (dioramaref03_in.calls a0_3 1 1000000 true _ A10.out).mono ?_); rintro e w' ⟨rfl, ⟨nd, rfl⟩⟩) | (go_at_call 148; (with_reducible refine (dioramaref03_language.calls k a0_5 false _ A12.out).mono ?_); rintro e w' ⟨rfl, ⟨nd, rfl⟩⟩))
       go_meet
       case rel => exact ⟨_, (true), jz, H', ⟨by first | omega | exact Nat.le_refl _⟩, ⟨kz⟩, ⟨bz⟩⟩
     ·obtain rfl := bf c11; rw [if_neg (show ¬ (false = true) by decide)] at H; have H' := Aside0.mk H; clear H; have hcz20_0 : w3.cell? ⟨gb1272, 0, none⟩ = some (.int .i64 a0_0) := ct BK1272 0; have hcz20_1 : w3.cell? ⟨gb1272, 1, none⟩ = some (.int .i64 a0_1) := ct BK1272 1; have hcz20_2 : w3.cell? ⟨gb1272, 2, none⟩ = some (.string a0_2) := ct BK1272 2; have hcz20_3 : w3.cell? ⟨gb1272, 3, none⟩ = some (.int .i64 a0_3) := ct BK1272 3; have hcz20_4 : w3.cell? ⟨gb1272, 4, none⟩ = some (.slice A0_4 l0_4.length c0_4) := ct BK1272 4; have hcz20_5 : w3.cell? ⟨gb1272, 5, none⟩ = some (.string a0_5) := ct BK1272 5; have hcz20_6 : w3.cell? ⟨gb1272, 6, none⟩ = some (.string a0_6) := ct BK1272 6; have hcz20_7 : w3.cell? ⟨gb1272, 7, none⟩ = some (.int .i64 a0_7) := ct BK1272 7; have hcz20_8 : w3.cell? ⟨gb1272, 8, none⟩ = some (.slice A0_8 l0_8.length c0_8) := ct BK1272 8; have hcz20_9 : w3.cell? ⟨gb1272, 9, none⟩ = some (.slice A0_9 l0_9.length c0_9) := ct BK1272 9; have hcz20_10 : w3.cell? ⟨gb1272, 10, none⟩ = some (.slice A0_10 l0_10.length c0_10) := ct BK1272 10; have hfz20_0 := blk_frozen BK1272.out 0; have hfz20_1 := blk_frozen BK1272.out 1; have hfz20_2 := blk_frozen BK1272.out 2; have hfz20_3 := blk_frozen BK1272.out 3; have hfz20_4 := blk_frozen BK1272.out 4; have hfz20_5 := blk_frozen BK1272.out 5; have hfz20_6 := blk_frozen BK1272.out 6; have hfz20_7 := blk_frozen BK1272.out 7; have hfz20_8 := blk_frozen BK1272.out 8; have hfz20_9 := blk_frozen BK1272.out 9; have hfz20_10 := blk_frozen BK1272.out 10
      go_wp2_with (first | ((with_reducible refine gate_callee (f := 146) rfl ?_); refine zC 6 Try.func146 #[.int .i64 a0_0, .int .i64 1, .int .i64 1000] ?_; (with_reducible refine (dioramaref03_in.calls a0_0 1 1000 true _ A4.out).mono ?_); rintro e w' ⟨rfl, ⟨nd, rfl⟩⟩; refine ⟨_, rfl, ?_⟩) | (go_at_call 146; (with_reducible refine (dioramaref03_in.calls a0_1 1 7 true _ A6.out).mono ?_); rintro e w' ⟨rfl, ⟨nd, rfl⟩⟩) | (go_at_call 147; (with_reducible refine (dioramaref03_Letters.calls k a0_2 true _ A8.out).mono ?_); rintro e w' ⟨rfl, ⟨nd, rfl⟩⟩) | (go_at_call 146; (with_reducible refine (dioramaref03_in.calls a0_3 1 1000000 false _ A10.out).mono ?_); rintro e w' ⟨rfl, ⟨nd, rfl⟩⟩))
      go_meet
      case rel => exact ⟨_, (true), jz, H', ⟨by first | omega | exact Nat.le_refl _⟩, ⟨kz⟩, ⟨bz⟩⟩
    ·obtain rfl := bf c9; rw [if_neg (show ¬ (false = true) by decide)] at H; have H' := Aside0.mk H; clear H; have hcz21_0 : w3.cell? ⟨gb1272, 0, none⟩ = some (.int .i64 a0_0) := ct BK1272 0; have hcz21_1 : w3.cell? ⟨gb1272, 1, none⟩ = some (.int .i64 a0_1) := ct BK1272 1; have hcz21_2 : w3.cell? ⟨gb1272, 2, none⟩ = some (.string a0_2) := ct BK1272 2; have hcz21_3 : w3.cell? ⟨gb1272, 3, none⟩ = some (.int .i64 a0_3) := ct BK1272 3; have hcz21_4 : w3.cell? ⟨gb1272, 4, none⟩ = some (.slice A0_4 l0_4.length c0_4) := ct BK1272 4; have hcz21_5 : w3.cell? ⟨gb1272, 5, none⟩ = some (.string a0_5) := ct BK1272 5; have hcz21_6 : w3.cell? ⟨gb1272, 6, none⟩ = some (.string a0_6) := ct BK1272 6; have hcz21_7 : w3.cell? ⟨gb1272, 7, none⟩ = some (.int .i64 a0_7) := ct BK1272 7; have hcz21_8 : w3.cell? ⟨gb1272, 8, none⟩ = some (.slice A0_8 l0_8.length c0_8) := ct BK1272 8; have hcz21_9 : w3.cell? ⟨gb1272, 9, none⟩ = some (.slice A0_9 l0_9.length c0_9) := ct BK1272 9; have hcz21_10 : w3.cell? ⟨gb1272, 10, none⟩ = some (.slice A0_10 l0_10.length c0_10) := ct BK1272 10; have hfz21_0 := blk_frozen BK1272.out 0; have hfz21_1 := blk_frozen BK1272.out 1; have hfz21_2 := blk_frozen BK1272.out 2; have hfz21_3 := blk_frozen BK1272.out 3; have hfz21_4 := blk_frozen BK1272.out 4; have hfz21_5 := blk_frozen BK1272.out 5; have hfz21_6 := blk_frozen BK1272.out 6; have hfz21_7 := blk_frozen BK1272.out 7; have hfz21_8 := blk_frozen BK1272.out 8; have hfz21_9 := blk_frozen BK1272.out 9; have hfz21_10 := blk_frozen BK1272.out 10
     go_wp2_with (first | ((with_reducible refine gate_callee (f := 146) rfl ?_); refine zC 6 Try.func146 #[.int .i64 a0_0, .int .i64 1, .int .i64 1000] ?_; (with_reducible refine (dioramaref03_in.calls a0_0 1 1000 true _ A4.out).mono ?_); rintro e w' ⟨rfl, ⟨nd, rfl⟩⟩; refine ⟨_, rfl, ?_⟩) | (go_at_call 146; (with_reducible refine (dioramaref03_in.calls a0_1 1 7 true _ A6.out).mono ?_); rintro e w' ⟨rfl, ⟨nd, rfl⟩⟩) | (go_at_call 147; (with_reducible refine (dioramaref03_Letters.calls k a0_2 false _ A8.out).mono ?_); rintro e w' ⟨rfl, ⟨nd, rfl⟩⟩))
     go_meet
     case rel => exact ⟨_, (true), jz, H', ⟨by first | omega | exact Nat.le_refl _⟩, ⟨kz⟩, ⟨bz⟩⟩
   ·obtain rfl := bf c7; rw [if_neg (show ¬ (false = true) by decide)] at H; have H' := Aside0.mk H; clear H; have hcz22_0 : w3.cell? ⟨gb1272, 0, none⟩ = some (.int .i64 a0_0) := ct BK1272 0; have hcz22_1 : w3.cell? ⟨gb1272, 1, none⟩ = some (.int .i64 a0_1) := ct BK1272 1; have hcz22_2 : w3.cell? ⟨gb1272, 2, none⟩ = some (.string a0_2) := ct BK1272 2; have hcz22_3 : w3.cell? ⟨gb1272, 3, none⟩ = some (.int .i64 a0_3) := ct BK1272 3; have hcz22_4 : w3.cell? ⟨gb1272, 4, none⟩ = some (.slice A0_4 l0_4.length c0_4) := ct BK1272 4; have hcz22_5 : w3.cell? ⟨gb1272, 5, none⟩ = some (.string a0_5) := ct BK1272 5; have hcz22_6 : w3.cell? ⟨gb1272, 6, none⟩ = some (.string a0_6) := ct BK1272 6; have hcz22_7 : w3.cell? ⟨gb1272, 7, none⟩ = some (.int .i64 a0_7) := ct BK1272 7; have hcz22_8 : w3.cell? ⟨gb1272, 8, none⟩ = some (.slice A0_8 l0_8.length c0_8) := ct BK1272 8; have hcz22_9 : w3.cell? ⟨gb1272, 9, none⟩ = some (.slice A0_9 l0_9.length c0_9) := ct BK1272 9; have hcz22_10 : w3.cell? ⟨gb1272, 10, none⟩ = some (.slice A0_10 l0_10.length c0_10) := ct BK1272 10; have hfz22_0 := blk_frozen BK1272.out 0; have hfz22_1 := blk_frozen BK1272.out 1; have hfz22_2 := blk_frozen BK1272.out 2; have hfz22_3 := blk_frozen BK1272.out 3; have hfz22_4 := blk_frozen BK1272.out 4; have hfz22_5 := blk_frozen BK1272.out 5; have hfz22_6 := blk_frozen BK1272.out 6; have hfz22_7 := blk_frozen BK1272.out 7; have hfz22_8 := blk_frozen BK1272.out 8; have hfz22_9 := blk_frozen BK1272.out 9; have hfz22_10 := blk_frozen BK1272.out 10
    go_wp2_with (first | ((with_reducible refine gate_callee (f := 146) rfl ?_); refine zC 6 Try.func146 #[.int .i64 a0_0, .int .i64 1, .int .i64 1000] ?_; (with_reducible refine (dioramaref03_in.calls a0_0 1 1000 true _ A4.out).mono ?_); rintro e w' ⟨rfl, ⟨nd, rfl⟩⟩; refine ⟨_, rfl, ?_⟩) | (go_at_call 146; (with_reducible refine (dioramaref03_in.calls a0_1 1 7 false _ A6.out).mono ?_); rintro e w' ⟨rfl, ⟨nd, rfl⟩⟩))
    go_meet
    case rel => exact ⟨_, (true), jz, H', ⟨by first | omega | exact Nat.le_refl _⟩, ⟨kz⟩, ⟨bz⟩⟩
  ·obtain rfl := bf c5; rw [if_neg (show ¬ (false = true) by decide)] at H; have H' := Aside0.mk H; clear H; have hcz23_0 : w3.cell? ⟨gb1272, 0, none⟩ = some (.int .i64 a0_0) := ct BK1272 0; have hcz23_1 : w3.cell? ⟨gb1272, 1, none⟩ = some (.int .i64 a0_1) := ct BK1272 1; have hcz23_2 : w3.cell? ⟨gb1272, 2, none⟩ = some (.string a0_2) := ct BK1272 2; have hcz23_3 : w3.cell? ⟨gb1272, 3, none⟩ = some (.int .i64 a0_3) := ct BK1272 3; have hcz23_4 : w3.cell? ⟨gb1272, 4, none⟩ = some (.slice A0_4 l0_4.length c0_4) := ct BK1272 4; have hcz23_5 : w3.cell? ⟨gb1272, 5, none⟩ = some (.string a0_5) := ct BK1272 5; have hcz23_6 : w3.cell? ⟨gb1272, 6, none⟩ = some (.string a0_6) := ct BK1272 6; have hcz23_7 : w3.cell? ⟨gb1272, 7, none⟩ = some (.int .i64 a0_7) := ct BK1272 7; have hcz23_8 : w3.cell? ⟨gb1272, 8, none⟩ = some (.slice A0_8 l0_8.length c0_8) := ct BK1272 8; have hcz23_9 : w3.cell? ⟨gb1272, 9, none⟩ = some (.slice A0_9 l0_9.length c0_9) := ct BK1272 9; have hcz23_10 : w3.cell? ⟨gb1272, 10, none⟩ = some (.slice A0_10 l0_10.length c0_10) := ct BK1272 10; have hfz23_0 := blk_frozen BK1272.out 0; have hfz23_1 := blk_frozen BK1272.out 1; have hfz23_2 := blk_frozen BK1272.out 2; have hfz23_3 := blk_frozen BK1272.out 3; have hfz23_4 := blk_frozen BK1272.out 4; have hfz23_5 := blk_frozen BK1272.out 5; have hfz23_6 := blk_frozen BK1272.out 6; have hfz23_7 := blk_frozen BK1272.out 7; have hfz23_8 := blk_frozen BK1272.out 8; have hfz23_9 := blk_frozen BK1272.out 9; have hfz23_10 := blk_frozen BK1272.out 10
   go_wp2_with (first | ((with_reducible refine gate_callee (f := 146) rfl ?_); refine zC 6 Try.func146 #[.int .i64 a0_0, .int .i64 1, .int .i64 1000] ?_; (with_reducible refine (dioramaref03_in.calls a0_0 1 1000 false _ A4.out).mono ?_); rintro e w' ⟨rfl, ⟨nd, rfl⟩⟩; refine ⟨_, rfl, ?_⟩))
   go_meet
   case rel => exact ⟨_, (true), jz, H', ⟨by first | omega | exact Nat.le_refl _⟩, ⟨kz⟩, ⟨bz⟩⟩
 case rest =>
  clear HC2
  try clear c1
  try clear p2
  try clear c5
  try clear c7
  try clear c9
  try clear c10
  try clear c11
  try clear c13
  try clear c14
  try clear c15
  try clear hcz17_0
  try clear hcz17_1
  try clear hcz17_10
  try clear hcz17_2
  try clear hcz17_3
  try clear hcz17_4
  try clear hcz17_5
  try clear hcz17_6
  try clear hcz17_7
  try clear hcz17_8
  try clear hcz17_9
  try clear hcz18_0
  try clear hcz18_1
  try clear hcz18_10
  try clear hcz18_2
  try clear hcz18_3
  try clear hcz18_4
  try clear hcz18_5
  try clear hcz18_6
  try clear hcz18_7
  try clear hcz18_8
  try clear hcz18_9
  try clear hcz19_0
  try clear hcz19_1
  try clear hcz19_10
  try clear hcz19_2
  try clear hcz19_3
  try clear hcz19_4
  try clear hcz19_5
  try clear hcz19_6
  try clear hcz19_7
  try clear hcz19_8
  try clear hcz19_9
  try clear hcz20_0
  try clear hcz20_1
  try clear hcz20_10
  try clear hcz20_2
  try clear hcz20_3
  try clear hcz20_4
  try clear hcz20_5
  try clear hcz20_6
  try clear hcz20_7
  try clear hcz20_8
  try clear hcz20_9
  try clear hcz21_0
  try clear hcz21_1
  try clear hcz21_10
  try clear hcz21_2
  try clear hcz21_3
  try clear hcz21_4
  try clear hcz21_5
  try clear hcz21_6
  try clear hcz21_7
  try clear hcz21_8
  try clear hcz21_9
  try clear hcz22_0
  try clear hcz22_1
  try clear hcz22_10
  try clear hcz22_2
  try clear hcz22_3
  try clear hcz22_4
  try clear hcz22_5
  try clear hcz22_6
  try clear hcz22_7
  try clear hcz22_8
  try clear hcz22_9
  try clear hcz23_0
  try clear hcz23_1
  try clear hcz23_10
  try clear hcz23_2
  try clear hcz23_3
  try clear hcz23_4
  try clear hcz23_5
  try clear hcz23_6
  try clear hcz23_7
  try clear hcz23_8
  try clear hcz23_9
  try clear hfz17_0
  try clear hfz17_1
  try clear hfz17_10
  try clear hfz17_2
  try clear hfz17_3
  try clear hfz17_4
  try clear hfz17_5
  try clear hfz17_6
  try clear hfz17_7
  try clear hfz17_8
  try clear hfz17_9
  try clear hfz18_0
  try clear hfz18_1
  try clear hfz18_10
  try clear hfz18_2
  try clear hfz18_3
  try clear hfz18_4
  try clear hfz18_5
  try clear hfz18_6
  try clear hfz18_7
  try clear hfz18_8
  try clear hfz18_9
  try clear hfz19_0
  try clear hfz19_1
  try clear hfz19_10
  try clear hfz19_2
  try clear hfz19_3
  try clear hfz19_4
  try clear hfz19_5
  try clear hfz19_6
  try clear hfz19_7
  try clear hfz19_8
  try clear hfz19_9
  try clear hfz20_0
  try clear hfz20_1
  try clear hfz20_10
  try clear hfz20_2
  try clear hfz20_3
  try clear hfz20_4
  try clear hfz20_5
  try clear hfz20_6
  try clear hfz20_7
  try clear hfz20_8
  try clear hfz20_9
  try clear hfz21_0
  try clear hfz21_1
  try clear hfz21_10
  try clear hfz21_2
  try clear hfz21_3
  try clear hfz21_4
  try clear hfz21_5
  try clear hfz21_6
  try clear hfz21_7
  try clear hfz21_8
  try clear hfz21_9
  try clear hfz22_0
  try clear hfz22_1
  try clear hfz22_10
  try clear hfz22_2
  try clear hfz22_3
  try clear hfz22_4
  try clear hfz22_5
  try clear hfz22_6
  try clear hfz22_7
  try clear hfz22_8
  try clear hfz22_9
  try clear hfz23_0
  try clear hfz23_1
  try clear hfz23_10
  try clear hfz23_2
  try clear hfz23_3
  try clear hfz23_4
  try clear hfz23_5
  try clear hfz23_6
  try clear hfz23_7
  try clear hfz23_8
  try clear hfz23_9
  obtain ⟨kq, x43_1, rfl, HA, HJ1, BK1272, HB⟩ := hcut
  cases kq with
  | zero => exact absurd HA.out (by simp [dioramaref03_fields.j0])
  | succ kj1 =>
   have H := HA.out; clear HA; simp only [dioramaref03_fields.j0] at H
   by_cases c24 : x43_1 = true
   ·subst c24; rw [if_pos rfl] at H; obtain rfl := Option.some.inj H
    go_wp2
    go_ret
    exact ⟨ez, bz⟩
   ·obtain rfl := bf c24; rw [if_neg (show ¬ (false = true) by decide)] at H; have H' := Aside0.mk H; clear H
    go_wp2
    go_loopg [3] kj1 (fun kq v3 w' => ∃ (x3_2 : Int), v3 = .int .i64 x3_2 ∧ Aside0 (dioramaref03_fields.l0 kq x3_2 a0_0 a0_1 a0_2 a0_3 l0_4 a0_5 a0_6 a0_7 l0_8 l0_9 l0_10 = some r) ∧ Aside0 (kq ≤ kj1) ∧ Aside0 (w'.heap[gb1272]? = some (.cells #[.int .i64 a0_0, .int .i64 a0_1, .string a0_2, .int .i64 a0_3, (.slice A0_4 l0_4.length c0_4), .string a0_5, .string a0_6, .int .i64 a0_7, (.slice A0_8 l0_8.length c0_8), (.slice A0_9 l0_9.length c0_9), (.slice A0_10 l0_10.length c0_10)] 71 (0, 0))) ∧ Aside0 (Below w.heap.size w w'))
    case atStart => exact ⟨(0), jz, H', ⟨Nat.le_refl _⟩, ⟨kz⟩, ⟨bz⟩⟩
    case round =>
     clear H'
     try clear c1
     try clear c2
     try clear p2
     try clear c5
     try clear c7
     try clear c9
     try clear c10
     try clear c11
     try clear c13
     try clear c14
     try clear c15
     try clear c24
     try clear hcz17_0
     try clear hcz17_1
     try clear hcz17_10
     try clear hcz17_2
     try clear hcz17_3
     try clear hcz17_4
     try clear hcz17_5
     try clear hcz17_6
     try clear hcz17_7
     try clear hcz17_8
     try clear hcz17_9
     try clear hcz18_0
     try clear hcz18_1
     try clear hcz18_10
     try clear hcz18_2
     try clear hcz18_3
     try clear hcz18_4
     try clear hcz18_5
     try clear hcz18_6
     try clear hcz18_7
     try clear hcz18_8
     try clear hcz18_9
     try clear hcz19_0
     try clear hcz19_1
     try clear hcz19_10
     try clear hcz19_2
     try clear hcz19_3
     try clear hcz19_4
     try clear hcz19_5
     try clear hcz19_6
     try clear hcz19_7
     try clear hcz19_8
     try clear hcz19_9
     try clear hcz20_0
     try clear hcz20_1
     try clear hcz20_10
     try clear hcz20_2
     try clear hcz20_3
     try clear hcz20_4
     try clear hcz20_5
     try clear hcz20_6
     try clear hcz20_7
     try clear hcz20_8
     try clear hcz20_9
     try clear hcz21_0
     try clear hcz21_1
     try clear hcz21_10
     try clear hcz21_2
     try clear hcz21_3
     try clear hcz21_4
     try clear hcz21_5
     try clear hcz21_6
     try clear hcz21_7
     try clear hcz21_8
     try clear hcz21_9
     try clear hcz22_0
     try clear hcz22_1
     try clear hcz22_10
     try clear hcz22_2
     try clear hcz22_3
     try clear hcz22_4
     try clear hcz22_5
     try clear hcz22_6
     try clear hcz22_7
     try clear hcz22_8
     try clear hcz22_9
     try clear hcz23_0
     try clear hcz23_1
     try clear hcz23_10
     try clear hcz23_2
     try clear hcz23_3
     try clear hcz23_4
     try clear hcz23_5
     try clear hcz23_6
     try clear hcz23_7
     try clear hcz23_8
     try clear hcz23_9
     try clear hfz17_0
     try clear hfz17_1
     try clear hfz17_10
     try clear hfz17_2
     try clear hfz17_3
     try clear hfz17_4
     try clear hfz17_5
     try clear hfz17_6
     try clear hfz17_7
     try clear hfz17_8
     try clear hfz17_9
     try clear hfz18_0
     try clear hfz18_1
     try clear hfz18_10
     try clear hfz18_2
     try clear hfz18_3
     try clear hfz18_4
     try clear hfz18_5
     try clear hfz18_6
     try clear hfz18_7
     try clear hfz18_8
     try clear hfz18_9
     try clear hfz19_0
     try clear hfz19_1
     try clear hfz19_10
     try clear hfz19_2
     try clear hfz19_3
     try clear hfz19_4
     try clear hfz19_5
     try clear hfz19_6
     try clear hfz19_7
     try clear hfz19_8
     try clear hfz19_9
     try clear hfz20_0
     try clear hfz20_1
     try clear hfz20_10
     try clear hfz20_2
     try clear hfz20_3
     try clear hfz20_4
     try clear hfz20_5
     try clear hfz20_6
     try clear hfz20_7
     try clear hfz20_8
     try clear hfz20_9
     try clear hfz21_0
     try clear hfz21_1
     try clear hfz21_10
     try clear hfz21_2
     try clear hfz21_3
     try clear hfz21_4
     try clear hfz21_5
     try clear hfz21_6
     try clear hfz21_7
     try clear hfz21_8
     try clear hfz21_9
     try clear hfz22_0
     try clear hfz22_1
     try clear hfz22_10
     try clear hfz22_2
     try clear hfz22_3
     try clear hfz22_4
     try clear hfz22_5
     try clear hfz22_6
     try clear hfz22_7
     try clear hfz22_8
     try clear hfz22_9
     try clear hfz23_0
     try clear hfz23_1
     try clear hfz23_10
     try clear hfz23_2
     try clear hfz23_3
     try clear hfz23_4
     try clear hfz23_5
     try clear hfz23_6
     try clear hfz23_7
     try clear hfz23_8
     try clear hfz23_9
     try clear p2
     obtain ⟨x3_2, rfl, HA, HK2, BK1272, HB⟩ := hrel
     cases gk with
     | zero => exact absurd HA.out (by simp [dioramaref03_fields.l0])
     | succ k2 =>
      have H := HA.out; clear HA; simp only [dioramaref03_fields.l0] at H
      by_cases c25 : x3_2 < (l0_9.length : Int)
      ·rw [if_pos c25] at H; have c25b0 : decide (x3_2 < (l0_9.length : Int)) = true := decide_eq_true c25; clear c25
       by_cases c26 : 0 ≤ x3_2
       ·rw [if_pos c26] at H; have c26b0 : decide (0 ≤ x3_2) = true := decide_eq_true c26; clear c26; obtain ⟨t1281, A27, H⟩ := ob H
        by_cases c28 : t1281 = true
        ·subst c28; rw [if_pos rfl] at H; have H' := Aside0.mk H; clear H; have hcz29_0 : wr.cell? ⟨gb1272, 0, none⟩ = some (.int .i64 a0_0) := ct BK1272 0; have hcz29_1 : wr.cell? ⟨gb1272, 1, none⟩ = some (.int .i64 a0_1) := ct BK1272 1; have hcz29_2 : wr.cell? ⟨gb1272, 2, none⟩ = some (.string a0_2) := ct BK1272 2; have hcz29_3 : wr.cell? ⟨gb1272, 3, none⟩ = some (.int .i64 a0_3) := ct BK1272 3; have hcz29_4 : wr.cell? ⟨gb1272, 4, none⟩ = some (.slice A0_4 l0_4.length c0_4) := ct BK1272 4; have hcz29_5 : wr.cell? ⟨gb1272, 5, none⟩ = some (.string a0_5) := ct BK1272 5; have hcz29_6 : wr.cell? ⟨gb1272, 6, none⟩ = some (.string a0_6) := ct BK1272 6; have hcz29_7 : wr.cell? ⟨gb1272, 7, none⟩ = some (.int .i64 a0_7) := ct BK1272 7; have hcz29_8 : wr.cell? ⟨gb1272, 8, none⟩ = some (.slice A0_8 l0_8.length c0_8) := ct BK1272 8; have hcz29_9 : wr.cell? ⟨gb1272, 9, none⟩ = some (.slice A0_9 l0_9.length c0_9) := ct BK1272 9; have hcz29_10 : wr.cell? ⟨gb1272, 10, none⟩ = some (.slice A0_10 l0_10.length c0_10) := ct BK1272 10; have hfz29_0 := blk_frozen BK1272.out 0; have hfz29_1 := blk_frozen BK1272.out 1; have hfz29_2 := blk_frozen BK1272.out 2; have hfz29_3 := blk_frozen BK1272.out 3; have hfz29_4 := blk_frozen BK1272.out 4; have hfz29_5 := blk_frozen BK1272.out 5; have hfz29_6 := blk_frozen BK1272.out 6; have hfz29_7 := blk_frozen BK1272.out 7; have hfz29_8 := blk_frozen BK1272.out 8; have hfz29_9 := blk_frozen BK1272.out 9; have hfz29_10 := blk_frozen BK1272.out 10; have p1280 : 0 ≤ (x3_2 : Int) := od; have q1280 : x3_2 < (l0_9.length : Int) := od; obtain ⟨ad1280, e1280, hx1280_0, hx1280_1⟩ := at_T150 HR0_9.out x3_2 p1280 q1280
         cases e1280
         replace hx1280_0 := cl HB hx1280_0; replace hx1280_1 := cl HB hx1280_1; replace p1280 := eq_true p1280; replace q1280 := eq_true q1280
         go_wp2_with (first | ((with_reducible refine gate_callee (f := 147) rfl ?_); refine zC 57 Try.func147 #[.string ((rd_T150 l0_9 x3_2).f0)] ?_; (with_reducible refine (dioramaref03_Letters.calls k2 ((rd_T150 l0_9 x3_2).f0) true _ A27.out).mono ?_); rintro e w' ⟨rfl, ⟨nd, rfl⟩⟩; refine ⟨_, rfl, ?_⟩))
         go_roundg k2
         case measure => have := HJ1.out; have := HK2.out; omega
         case rel => exact ⟨(wrap64 (x3_2 + 1)), jz, H', ⟨by have := HJ1.out; have := HK2.out; omega⟩, ⟨kz⟩, ⟨bz⟩⟩
        ·obtain rfl := bf c28; rw [if_neg (show ¬ (false = true) by decide)] at H; obtain rfl := Option.some.inj H; have hcz30_0 : wr.cell? ⟨gb1272, 0, none⟩ = some (.int .i64 a0_0) := ct BK1272 0; have hcz30_1 : wr.cell? ⟨gb1272, 1, none⟩ = some (.int .i64 a0_1) := ct BK1272 1; have hcz30_2 : wr.cell? ⟨gb1272, 2, none⟩ = some (.string a0_2) := ct BK1272 2; have hcz30_3 : wr.cell? ⟨gb1272, 3, none⟩ = some (.int .i64 a0_3) := ct BK1272 3; have hcz30_4 : wr.cell? ⟨gb1272, 4, none⟩ = some (.slice A0_4 l0_4.length c0_4) := ct BK1272 4; have hcz30_5 : wr.cell? ⟨gb1272, 5, none⟩ = some (.string a0_5) := ct BK1272 5; have hcz30_6 : wr.cell? ⟨gb1272, 6, none⟩ = some (.string a0_6) := ct BK1272 6; have hcz30_7 : wr.cell? ⟨gb1272, 7, none⟩ = some (.int .i64 a0_7) := ct BK1272 7; have hcz30_8 : wr.cell? ⟨gb1272, 8, none⟩ = some (.slice A0_8 l0_8.length c0_8) := ct BK1272 8; have hcz30_9 : wr.cell? ⟨gb1272, 9, none⟩ = some (.slice A0_9 l0_9.length c0_9) := ct BK1272 9; have hcz30_10 : wr.cell? ⟨gb1272, 10, none⟩ = some (.slice A0_10 l0_10.length c0_10) := ct BK1272 10; have hfz30_0 := blk_frozen BK1272.out 0; have hfz30_1 := blk_frozen BK1272.out 1; have hfz30_2 := blk_frozen BK1272.out 2; have hfz30_3 := blk_frozen BK1272.out 3; have hfz30_4 := blk_frozen BK1272.out 4; have hfz30_5 := blk_frozen BK1272.out 5; have hfz30_6 := blk_frozen BK1272.out 6; have hfz30_7 := blk_frozen BK1272.out 7; have hfz30_8 := blk_frozen BK1272.out 8; have hfz30_9 := blk_frozen BK1272.out 9; have hfz30_10 := blk_frozen BK1272.out 10; have p1280 : 0 ≤ (x3_2 : Int) := od; have q1280 : x3_2 < (l0_9.length : Int) := od; obtain ⟨ad1280, e1280, hx1280_0, hx1280_1⟩ := at_T150 HR0_9.out x3_2 p1280 q1280
         cases e1280
         replace hx1280_0 := cl HB hx1280_0; replace hx1280_1 := cl HB hx1280_1; replace p1280 := eq_true p1280; replace q1280 := eq_true q1280
         go_wp2_with (first | ((with_reducible refine gate_callee (f := 147) rfl ?_); refine zC 57 Try.func147 #[.string ((rd_T150 l0_9 x3_2).f0)] ?_; (with_reducible refine (dioramaref03_Letters.calls k2 ((rd_T150 l0_9 x3_2).f0) false _ A27.out).mono ?_); rintro e w' ⟨rfl, ⟨nd, rfl⟩⟩; refine ⟨_, rfl, ?_⟩))
         go_ret
         exact ⟨ez, bz⟩
       ·rw [if_neg c26] at H
        exact absurd H (by simp)
      ·rw [if_neg c25] at H; have c25b0 : decide (x3_2 < (l0_9.length : Int)) = false := decide_eq_false c25; clear c25; obtain rfl := Option.some.inj H; have hcz31_0 : wr.cell? ⟨gb1272, 0, none⟩ = some (.int .i64 a0_0) := ct BK1272 0; have hcz31_1 : wr.cell? ⟨gb1272, 1, none⟩ = some (.int .i64 a0_1) := ct BK1272 1; have hcz31_2 : wr.cell? ⟨gb1272, 2, none⟩ = some (.string a0_2) := ct BK1272 2; have hcz31_3 : wr.cell? ⟨gb1272, 3, none⟩ = some (.int .i64 a0_3) := ct BK1272 3; have hcz31_4 : wr.cell? ⟨gb1272, 4, none⟩ = some (.slice A0_4 l0_4.length c0_4) := ct BK1272 4; have hcz31_5 : wr.cell? ⟨gb1272, 5, none⟩ = some (.string a0_5) := ct BK1272 5; have hcz31_6 : wr.cell? ⟨gb1272, 6, none⟩ = some (.string a0_6) := ct BK1272 6; have hcz31_7 : wr.cell? ⟨gb1272, 7, none⟩ = some (.int .i64 a0_7) := ct BK1272 7; have hcz31_8 : wr.cell? ⟨gb1272, 8, none⟩ = some (.slice A0_8 l0_8.length c0_8) := ct BK1272 8; have hcz31_9 : wr.cell? ⟨gb1272, 9, none⟩ = some (.slice A0_9 l0_9.length c0_9) := ct BK1272 9; have hcz31_10 : wr.cell? ⟨gb1272, 10, none⟩ = some (.slice A0_10 l0_10.length c0_10) := ct BK1272 10; have hfz31_0 := blk_frozen BK1272.out 0; have hfz31_1 := blk_frozen BK1272.out 1; have hfz31_2 := blk_frozen BK1272.out 2; have hfz31_3 := blk_frozen BK1272.out 3; have hfz31_4 := blk_frozen BK1272.out 4; have hfz31_5 := blk_frozen BK1272.out 5; have hfz31_6 := blk_frozen BK1272.out 6; have hfz31_7 := blk_frozen BK1272.out 7; have hfz31_8 := blk_frozen BK1272.out 8; have hfz31_9 := blk_frozen BK1272.out 9; have hfz31_10 := blk_frozen BK1272.out 10
       go_wp2
       go_ret
       exact ⟨ez, bz⟩
mutual
def dioramaref03_edits.l0 : Nat → List (S77) → Int → Int → Option (Bool)
  | 0, _, _, _ => none
  | k + 1, x0, x3, x4 => if x4 < (x0.length : Int) then (if 0 ≤ x4 then ((dioramaref03_in.f ((rd_T77 x0 x4).f0) 1 1099511627776).bind fun t1284 => (if t1284 = true then ((dioramaref03_in.f ((rd_T77 x0 x4).f1) (-1) 1099511627776).bind fun t1285 => (if t1285 = true then ((dioramaref03_in.f ((rd_T77 x0 x4).f2) 0 1000).bind fun t1286 => (if t1286 = true then ((dioramaref03_in.f ((rd_T77 x0 x4).f3) 1 1000).bind fun t1287 => (dioramaref03_edits.j1 k x0 x3 x4 (!t1287) ((rd_T77 x0 x4).f0) ((rd_T77 x0 x4).f1) ((rd_T77 x0 x4).f2) ((rd_T77 x0 x4).f3))) else (dioramaref03_edits.j1 k x0 x3 x4 true ((rd_T77 x0 x4).f0) ((rd_T77 x0 x4).f1) ((rd_T77 x0 x4).f2) ((rd_T77 x0 x4).f3)))) else (dioramaref03_edits.j1 k x0 x3 x4 true ((rd_T77 x0 x4).f0) ((rd_T77 x0 x4).f1) ((rd_T77 x0 x4).f2) ((rd_T77 x0 x4).f3)))) else (dioramaref03_edits.j1 k x0 x3 x4 true ((rd_T77 x0 x4).f0) ((rd_T77 x0 x4).f1) ((rd_T77 x0 x4).f2) ((rd_T77 x0 x4).f3)))) else (none)) else (some (decide (x3 ≤ 1099511627776)))
def dioramaref03_edits.j1 : Nat → List (S77) → Int → Int → Bool → Int → Int → Int → Int → Option (Bool)
  | 0, _, _, _, _, _, _, _, _ => none
  | k + 1, x0, x3, x4, x37, x1284000, x1284001, x1284002, x1284003 => if x37 = true then (some false) else (if x1284001 = (-1) then (if x1284002 = 1 then (if x1284003 = 1 then (dioramaref03_edits.l0 k x0 (wrap64 (x3 + x1284000)) (wrap64 (x4 + 1))) else (some false)) else (some false)) else (dioramaref03_edits.l0 k x0 (wrap64 (x3 + x1284000)) (wrap64 (x4 + 1))))
end
def dioramaref03_edits.f (k : Nat) (l0 : List (S77)) : Option (Bool) := dioramaref03_edits.l0 k l0 0 0
set_option maxHeartbeats 8000000 in
set_option maxRecDepth 100000 in
theorem dioramaref03_edits.calls (k : Nat) (A0 : Option Addr) (c0 : Nat) (l0 : List (S77)) (r : Bool) (w : World) (hr0 : Kd.C k77 w A0 l0.length l0) (hc0 : l0.length ≤ c0) (h : dioramaref03_edits.f k l0 = some r) :
  Calls Try.prog 110 #[.slice A0 l0.length c0] w fun e w' => e = .returned (.bool r) ∧ Below w.heap.size w w' := by
 have hu77 := Try.underlying77; have HR0 := Aside0.mk hr0; have HC0 := Aside0.mk hc0; clear hr0 hc0; have HB := Aside0.mk (Below.refl w.heap.size w); have H : (dioramaref03_edits.l0 k l0 0 0) = some r := h; clear h; have H' := Aside0.mk H; clear H
 go_enter Try.func110, Try.ntmps110
 go_wp2
 go_loopg [3, 4] k (fun kq v3 v4 w' => ∃ (x3_1 : Int) (x4_1 : Int), v3 = .int .i64 x3_1 ∧ v4 = .int .i64 x4_1 ∧ Aside0 (dioramaref03_edits.l0 kq l0 x3_1 x4_1 = some r) ∧ Aside0 (kq ≤ k) ∧ Aside0 (Below w.heap.size w w'))
 case atStart => exact ⟨(0), (0), jz, jz, H', ⟨Nat.le_refl _⟩, ⟨bz⟩⟩
 case round =>
  clear H'
  try clear c1
  obtain ⟨x3_1, x4_1, rfl, rfl, HA, HK1, HB⟩ := hrel
  cases gk with
  | zero => exact absurd HA.out (by simp [dioramaref03_edits.l0])
  | succ k1 =>
   have H := HA.out; clear HA; simp only [dioramaref03_edits.l0] at H
   by_cases c2 : x4_1 < (l0.length : Int)
   ·rw [if_pos c2] at H; have c2b0 : decide (x4_1 < (l0.length : Int)) = true := decide_eq_true c2; clear c2
    by_cases c3 : 0 ≤ x4_1
    ·rw [if_pos c3] at H; have c3b0 : decide (0 ≤ x4_1) = true := decide_eq_true c3; clear c3; have HC4 := Aside0.mk H; clear H; have p1282 : 0 ≤ (x4_1 : Int) := od; have q1282 : x4_1 < (l0.length : Int) := od; obtain ⟨ad1282, e1282, hx1282_0, hx1282_1, hx1282_2, hx1282_3⟩ := at_T77 HR0.out x4_1 p1282 q1282
     cases e1282
     replace hx1282_0 := cl HB hx1282_0; replace hx1282_1 := cl HB hx1282_1; replace hx1282_2 := cl HB hx1282_2; replace hx1282_3 := cl HB hx1282_3; replace p1282 := eq_true p1282; replace q1282 := eq_true q1282
     go_upto_region 6 with (first | ((with_reducible refine gate_dst (N := 5) rfl ?_); refine zB 5 77 #[.int .i64 0, .int .i64 0, .int .i64 0, .int .i64 0] ?_; intro gb1283 hg w5 hbox hb; have BK1283 := Aside0.mk hbox; have GW1283 := gz hg; have GE1283 := gz hg; replace HB := bp hb; clear hb hbox hg; obtain ⟨hcz6_0, hcz6_1, hcz6_2, hcz6_3, hfz6_0, hfz6_1, hfz6_2, hfz6_3⟩ := xc4 BK1283))
     (try simp only [Act.put, List.setIfInBounds_toArray, List.set_cons_zero, List.set_cons_succ])
     go_cut [37] (fun v37 wc => ∃ (kq : Nat) (x37_3 : Bool), v37 = .bool x37_3 ∧ Aside0 (dioramaref03_edits.j1 kq l0 x3_1 x4_1 x37_3 ((rd_T77 l0 x4_1).f0) ((rd_T77 l0 x4_1).f1) ((rd_T77 l0 x4_1).f2) ((rd_T77 l0 x4_1).f3) = some r) ∧ Aside0 (kq ≤ k1) ∧ Aside0 (wc.heap[gb1283]? = some (.cells #[.int .i64 ((rd_T77 l0 x4_1).f0), .int .i64 ((rd_T77 l0 x4_1).f1), .int .i64 ((rd_T77 l0 x4_1).f2), .int .i64 ((rd_T77 l0 x4_1).f3)] 77 (0, 0))) ∧ Aside0 (Below w.heap.size w wc))
     case first =>
      have H := HC4.out; clear HC4; obtain ⟨t1284, A7, H⟩ := ob H
      by_cases c8 : t1284 = true
      ·subst c8; rw [if_pos rfl] at H; obtain ⟨t1285, A9, H⟩ := ob H
       by_cases c10 : t1285 = true
       ·subst c10; rw [if_pos rfl] at H; obtain ⟨t1286, A11, H⟩ := ob H
        by_cases c12 : t1286 = true
        ·subst c12; rw [if_pos rfl] at H; obtain ⟨t1287, A13, H⟩ := ob H; have H' := Aside0.mk H; clear H; obtain ⟨hcz14_0, hcz14_1, hcz14_2, hcz14_3, hfz14_0, hfz14_1, hfz14_2, hfz14_3⟩ := xc4 BK1283
         go_wp2_with (first | ((with_reducible refine gate_callee (f := 146) rfl ?_); refine zC 18 Try.func146 #[.int .i64 ((rd_T77 l0 x4_1).f0), .int .i64 1, .int .i64 1099511627776] ?_; (with_reducible refine (dioramaref03_in.calls ((rd_T77 l0 x4_1).f0) 1 1099511627776 true _ A7.out).mono ?_); rintro e w' ⟨rfl, ⟨nd, rfl⟩⟩; refine ⟨_, rfl, ?_⟩) | (go_at_call 146; (with_reducible refine (dioramaref03_in.calls ((rd_T77 l0 x4_1).f1) (-1) 1099511627776 true _ A9.out).mono ?_); rintro e w' ⟨rfl, ⟨nd, rfl⟩⟩) | (go_at_call 146; (with_reducible refine (dioramaref03_in.calls ((rd_T77 l0 x4_1).f2) 0 1000 true _ A11.out).mono ?_); rintro e w' ⟨rfl, ⟨nd, rfl⟩⟩) | (go_at_call 146; (with_reducible refine (dioramaref03_in.calls ((rd_T77 l0 x4_1).f3) 1 1000 t1287 _ A13.out).mono ?_); rintro e w' ⟨rfl, ⟨nd, rfl⟩⟩))
         go_meet
         case rel => exact ⟨_, (!t1287), jz, H', ⟨by have := HK1.out; first | omega | exact Nat.le_refl _⟩, ⟨by (with_reducible repeat (first | refine blk_drewN ?_ _ | refine blk_drew ?_ | refine blk_alloc ?_ _)); refine blk_put (cs := #[.int .i64 ((rd_T77 l0 x4_1).f0), .int .i64 ((rd_T77 l0 x4_1).f1), .int .i64 ((rd_T77 l0 x4_1).f2), .int .i64 0]) ?_ 3 _ rfl; (with_reducible repeat (first | refine blk_drewN ?_ _ | refine blk_drew ?_ | refine blk_alloc ?_ _)); refine blk_put (cs := #[.int .i64 ((rd_T77 l0 x4_1).f0), .int .i64 ((rd_T77 l0 x4_1).f1), .int .i64 0, .int .i64 0]) ?_ 2 _ rfl; (with_reducible repeat (first | refine blk_drewN ?_ _ | refine blk_drew ?_ | refine blk_alloc ?_ _)); refine blk_put (cs := #[.int .i64 ((rd_T77 l0 x4_1).f0), .int .i64 0, .int .i64 0, .int .i64 0]) ?_ 1 _ rfl; (with_reducible repeat (first | refine blk_drewN ?_ _ | refine blk_drew ?_ | refine blk_alloc ?_ _)); refine blk_put (cs := #[.int .i64 0, .int .i64 0, .int .i64 0, .int .i64 0]) ?_ 0 _ rfl; (with_reducible repeat (first | refine blk_drewN ?_ _ | refine blk_drew ?_ | refine blk_alloc ?_ _)); exact BK1283.out⟩, ⟨bz⟩⟩
        ·obtain rfl := bf c12; rw [if_neg (show ¬ (false = true) by decide)] at H; have H' := Aside0.mk H; clear H; obtain ⟨hcz15_0, hcz15_1, hcz15_2, hcz15_3, hfz15_0, hfz15_1, hfz15_2, hfz15_3⟩ := xc4 BK1283
         go_wp2_with (first | ((with_reducible refine gate_callee (f := 146) rfl ?_); refine zC 18 Try.func146 #[.int .i64 ((rd_T77 l0 x4_1).f0), .int .i64 1, .int .i64 1099511627776] ?_; (with_reducible refine (dioramaref03_in.calls ((rd_T77 l0 x4_1).f0) 1 1099511627776 true _ A7.out).mono ?_); rintro e w' ⟨rfl, ⟨nd, rfl⟩⟩; refine ⟨_, rfl, ?_⟩) | (go_at_call 146; (with_reducible refine (dioramaref03_in.calls ((rd_T77 l0 x4_1).f1) (-1) 1099511627776 true _ A9.out).mono ?_); rintro e w' ⟨rfl, ⟨nd, rfl⟩⟩) | (go_at_call 146; (with_reducible refine (dioramaref03_in.calls ((rd_T77 l0 x4_1).f2) 0 1000 false _ A11.out).mono ?_); rintro e w' ⟨rfl, ⟨nd, rfl⟩⟩))
         go_meet
         case rel => exact ⟨_, (true), jz, H', ⟨by have := HK1.out; first | omega | exact Nat.le_refl _⟩, ⟨by (with_reducible repeat (first | refine blk_drewN ?_ _ | refine blk_drew ?_ | refine blk_alloc ?_ _)); refine blk_put (cs := #[.int .i64 ((rd_T77 l0 x4_1).f0), .int .i64 ((rd_T77 l0 x4_1).f1), .int .i64 ((rd_T77 l0 x4_1).f2), .int .i64 0]) ?_ 3 _ rfl; (with_reducible repeat (first | refine blk_drewN ?_ _ | refine blk_drew ?_ | refine blk_alloc ?_ _)); refine blk_put (cs := #[.int .i64 ((rd_T77 l0 x4_1).f0), .int .i64 ((rd_T77 l0 x4_1).f1), .int .i64 0, .int .i64 0]) ?_ 2 _ rfl; (with_reducible repeat (first | refine blk_drewN ?_ _ | refine blk_drew ?_ | refine blk_alloc ?_ _)); refine blk_put (cs := #[.int .i64 ((rd_T77 l0 x4_1).f0), .int .i64 0, .int .i64 0, .int .i64 0]) ?_ 1 _ rfl; (with_reducible repeat (first | refine blk_drewN ?_ _ | refine blk_drew ?_ | refine blk_alloc ?_ _)); refine blk_put (cs := #[.int .i64 0, .int .i64 0, .int .i64 0, .int .i64 0]) ?_ 0 _ rfl; (with_reducible repeat (first | refine blk_drewN ?_ _ | refine blk_drew ?_ | refine blk_alloc ?_ _)); exact BK1283.out⟩, ⟨bz⟩⟩
       ·obtain rfl := bf c10; rw [if_neg (show ¬ (false = true) by decide)] at H; have H' := Aside0.mk H; clear H; obtain ⟨hcz16_0, hcz16_1, hcz16_2, hcz16_3, hfz16_0, hfz16_1, hfz16_2, hfz16_3⟩ := xc4 BK1283
        go_wp2_with (first | ((with_reducible refine gate_callee (f := 146) rfl ?_); refine zC 18 Try.func146 #[.int .i64 ((rd_T77 l0 x4_1).f0), .int .i64 1, .int .i64 1099511627776] ?_; (with_reducible refine (dioramaref03_in.calls ((rd_T77 l0 x4_1).f0) 1 1099511627776 true _ A7.out).mono ?_); rintro e w' ⟨rfl, ⟨nd, rfl⟩⟩; refine ⟨_, rfl, ?_⟩) | (go_at_call 146; (with_reducible refine (dioramaref03_in.calls ((rd_T77 l0 x4_1).f1) (-1) 1099511627776 false _ A9.out).mono ?_); rintro e w' ⟨rfl, ⟨nd, rfl⟩⟩))
        go_meet
        case rel => exact ⟨_, (true), jz, H', ⟨by have := HK1.out; first | omega | exact Nat.le_refl _⟩, ⟨by (with_reducible repeat (first | refine blk_drewN ?_ _ | refine blk_drew ?_ | refine blk_alloc ?_ _)); refine blk_put (cs := #[.int .i64 ((rd_T77 l0 x4_1).f0), .int .i64 ((rd_T77 l0 x4_1).f1), .int .i64 ((rd_T77 l0 x4_1).f2), .int .i64 0]) ?_ 3 _ rfl; (with_reducible repeat (first | refine blk_drewN ?_ _ | refine blk_drew ?_ | refine blk_alloc ?_ _)); refine blk_put (cs := #[.int .i64 ((rd_T77 l0 x4_1).f0), .int .i64 ((rd_T77 l0 x4_1).f1), .int .i64 0, .int .i64 0]) ?_ 2 _ rfl; (with_reducible repeat (first | refine blk_drewN ?_ _ | refine blk_drew ?_ | refine blk_alloc ?_ _)); refine blk_put (cs := #[.int .i64 ((rd_T77 l0 x4_1).f0), .int .i64 0, .int .i64 0, .int .i64 0]) ?_ 1 _ rfl; (with_reducible repeat (first | refine blk_drewN ?_ _ | refine blk_drew ?_ | refine blk_alloc ?_ _)); refine blk_put (cs := #[.int .i64 0, .int .i64 0, .int .i64 0, .int .i64 0]) ?_ 0 _ rfl; (with_reducible repeat (first | refine blk_drewN ?_ _ | refine blk_drew ?_ | refine blk_alloc ?_ _)); exact BK1283.out⟩, ⟨bz⟩⟩
      ·obtain rfl := bf c8; rw [if_neg (show ¬ (false = true) by decide)] at H; have H' := Aside0.mk H; clear H; obtain ⟨hcz17_0, hcz17_1, hcz17_2, hcz17_3, hfz17_0, hfz17_1, hfz17_2, hfz17_3⟩ := xc4 BK1283
       go_wp2_with (first | ((with_reducible refine gate_callee (f := 146) rfl ?_); refine zC 18 Try.func146 #[.int .i64 ((rd_T77 l0 x4_1).f0), .int .i64 1, .int .i64 1099511627776] ?_; (with_reducible refine (dioramaref03_in.calls ((rd_T77 l0 x4_1).f0) 1 1099511627776 false _ A7.out).mono ?_); rintro e w' ⟨rfl, ⟨nd, rfl⟩⟩; refine ⟨_, rfl, ?_⟩))
       go_meet
       case rel => exact ⟨_, (true), jz, H', ⟨by have := HK1.out; first | omega | exact Nat.le_refl _⟩, ⟨by (with_reducible repeat (first | refine blk_drewN ?_ _ | refine blk_drew ?_ | refine blk_alloc ?_ _)); refine blk_put (cs := #[.int .i64 ((rd_T77 l0 x4_1).f0), .int .i64 ((rd_T77 l0 x4_1).f1), .int .i64 ((rd_T77 l0 x4_1).f2), .int .i64 0]) ?_ 3 _ rfl; (with_reducible repeat (first | refine blk_drewN ?_ _ | refine blk_drew ?_ | refine blk_alloc ?_ _)); refine blk_put (cs := #[.int .i64 ((rd_T77 l0 x4_1).f0), .int .i64 ((rd_T77 l0 x4_1).f1), .int .i64 0, .int .i64 0]) ?_ 2 _ rfl; (with_reducible repeat (first | refine blk_drewN ?_ _ | refine blk_drew ?_ | refine blk_alloc ?_ _)); refine blk_put (cs := #[.int .i64 ((rd_T77 l0 x4_1).f0), .int .i64 0, .int .i64 0, .int .i64 0]) ?_ 1 _ rfl; (with_reducible repeat (first | refine blk_drewN ?_ _ | refine blk_drew ?_ | refine blk_alloc ?_ _)); refine blk_put (cs := #[.int .i64 0, .int .i64 0, .int .i64 0, .int .i64 0]) ?_ 0 _ rfl; (with_reducible repeat (first | refine blk_drewN ?_ _ | refine blk_drew ?_ | refine blk_alloc ?_ _)); exact BK1283.out⟩, ⟨bz⟩⟩
     case rest =>
      clear HC4
      try clear c1
      try clear p1
      try clear q1
      try clear hx1
      try clear c2
      try clear c2b0
      try clear p2
      try clear c3
      try clear c3b0
      try clear c8
      try clear c10
      try clear c11
      try clear c12
      try clear p12
      try clear q12
      try clear hx12
      try clear c14
      try clear hcz14_0
      try clear hcz14_1
      try clear hcz14_2
      try clear hcz14_3
      try clear hcz15_0
      try clear hcz15_1
      try clear hcz15_2
      try clear hcz15_3
      try clear hcz16_0
      try clear hcz16_1
      try clear hcz16_2
      try clear hcz16_3
      try clear hcz17_0
      try clear hcz17_1
      try clear hcz17_2
      try clear hcz17_3
      try clear hcz6_0
      try clear hcz6_1
      try clear hcz6_2
      try clear hcz6_3
      try clear hfz14_0
      try clear hfz14_1
      try clear hfz14_2
      try clear hfz14_3
      try clear hfz15_0
      try clear hfz15_1
      try clear hfz15_2
      try clear hfz15_3
      try clear hfz16_0
      try clear hfz16_1
      try clear hfz16_2
      try clear hfz16_3
      try clear hfz17_0
      try clear hfz17_1
      try clear hfz17_2
      try clear hfz17_3
      try clear hfz6_0
      try clear hfz6_1
      try clear hfz6_2
      try clear hfz6_3
      try clear hx1282_0
      try clear hx1282_1
      try clear hx1282_2
      try clear hx1282_3
      try clear p1282
      try clear q1282
      obtain ⟨kq, x37_3, rfl, HA, HJ3, BK1283, HB⟩ := hcut
      cases kq with
      | zero => exact absurd HA.out (by simp [dioramaref03_edits.j1])
      | succ kj3 =>
       have H := HA.out; clear HA; simp only [dioramaref03_edits.j1] at H
       by_cases c18 : x37_3 = true
       ·subst c18; rw [if_pos rfl] at H; obtain rfl := Option.some.inj H
        go_wp2
        go_ret
        exact ⟨ez, bz⟩
       ·obtain rfl := bf c18; rw [if_neg (show ¬ (false = true) by decide)] at H
        by_cases c19 : ((rd_T77 l0 x4_1).f1) = (-1)
        ·rw [if_pos c19] at H; have c19b0 : (((rd_T77 l0 x4_1).f1) == (-1)) = true := beq_iff_eq.mpr c19; have c19b1 : (((rd_T77 l0 x4_1).f1) != (-1)) = false := bne_eq_false_iff_eq.mpr c19; clear c19
         by_cases c20 : ((rd_T77 l0 x4_1).f2) = 1
         ·rw [if_pos c20] at H; have c20b0 : (((rd_T77 l0 x4_1).f2) == 1) = true := beq_iff_eq.mpr c20; have c20b1 : (((rd_T77 l0 x4_1).f2) != 1) = false := bne_eq_false_iff_eq.mpr c20; clear c20
          by_cases c21 : ((rd_T77 l0 x4_1).f3) = 1
          ·rw [if_pos c21] at H; have c21b0 : (((rd_T77 l0 x4_1).f3) == 1) = true := beq_iff_eq.mpr c21; have c21b1 : (((rd_T77 l0 x4_1).f3) != 1) = false := bne_eq_false_iff_eq.mpr c21; clear c21; have H' := Aside0.mk H; clear H; obtain ⟨hcz22_0, hcz22_1, hcz22_2, hcz22_3, hfz22_0, hfz22_1, hfz22_2, hfz22_3⟩ := xc4 BK1283
           go_wp2
           go_roundg kj3
           case measure => have := HK1.out; have := HJ3.out; omega
           case rel => exact ⟨(wrap64 (x3_1 + ((rd_T77 l0 x4_1).f0))), (wrap64 (x4_1 + 1)), jz, jz, H', ⟨by have := HK1.out; have := HJ3.out; omega⟩, ⟨bz⟩⟩
          ·rw [if_neg c21] at H; have c21b0 : (((rd_T77 l0 x4_1).f3) == 1) = false := beq_eq_false_iff_ne.mpr c21; have c21b1 : (((rd_T77 l0 x4_1).f3) != 1) = true := bne_iff_ne.mpr c21; obtain rfl := Option.some.inj H; obtain ⟨hcz23_0, hcz23_1, hcz23_2, hcz23_3, hfz23_0, hfz23_1, hfz23_2, hfz23_3⟩ := xc4 BK1283
           go_wp2
           go_ret
           exact ⟨ez, bz⟩
         ·rw [if_neg c20] at H; have c20b0 : (((rd_T77 l0 x4_1).f2) == 1) = false := beq_eq_false_iff_ne.mpr c20; have c20b1 : (((rd_T77 l0 x4_1).f2) != 1) = true := bne_iff_ne.mpr c20; obtain rfl := Option.some.inj H; obtain ⟨hcz24_0, hcz24_1, hcz24_2, hcz24_3, hfz24_0, hfz24_1, hfz24_2, hfz24_3⟩ := xc4 BK1283
          go_wp2
          go_ret
          exact ⟨ez, bz⟩
        ·rw [if_neg c19] at H; have c19b0 : (((rd_T77 l0 x4_1).f1) == (-1)) = false := beq_eq_false_iff_ne.mpr c19; have c19b1 : (((rd_T77 l0 x4_1).f1) != (-1)) = true := bne_iff_ne.mpr c19; have H' := Aside0.mk H; clear H; obtain ⟨hcz25_0, hcz25_1, hcz25_2, hcz25_3, hfz25_0, hfz25_1, hfz25_2, hfz25_3⟩ := xc4 BK1283
         go_wp2
         go_roundg kj3
         case measure => have := HK1.out; have := HJ3.out; omega
         case rel => exact ⟨(wrap64 (x3_1 + ((rd_T77 l0 x4_1).f0))), (wrap64 (x4_1 + 1)), jz, jz, H', ⟨by have := HK1.out; have := HJ3.out; omega⟩, ⟨bz⟩⟩
    ·rw [if_neg c3] at H
     exact absurd H (by simp)
   ·rw [if_neg c2] at H; have c2b0 : decide (x4_1 < (l0.length : Int)) = false := decide_eq_false c2; clear c2; obtain rfl := Option.some.inj H
    go_wp2
    go_ret
    exact ⟨ez, bz⟩
mutual
def dioramaref03_sample.j0 : Nat → Int → Int → Bool → Int → Int → Int → Bool → List Int → List Int → Option (Int)
  | 0, _, _, _, _, _, _, _, _, _ => none
  | k + 1, x1, x2, x23, x1289000, x1289001, x1289002, x1289003, x1289004, x1289005 => if x23 = true then (some 1) else (if (x1289005.length : Int) > 65536 then (dioramaref03_sample.j1 k x1 x2 true x1289000 x1289001 x1289002 x1289003 x1289004 x1289005) else (dioramaref03_sample.j1 k x1 x2 (decide ((x1289004.length : Int) > 4)) x1289000 x1289001 x1289002 x1289003 x1289004 x1289005))
def dioramaref03_sample.j1 : Nat → Int → Int → Bool → Int → Int → Int → Bool → List Int → List Int → Option (Int)
  | 0, _, _, _, _, _, _, _, _, _ => none
  | k + 1, x1, x2, x33, x1289000, x1289001, x1289002, x1289003, x1289004, x1289005 => if x33 = true then (some 2) else (if x1 > 0 then (dioramaref03_sample.j2 k x1 (decide (x1289000 ≤ x2)) x1289000 x1289001 x1289002 x1289003 x1289004 x1289005) else (dioramaref03_sample.j2 k x1 false x1289000 x1289001 x1289002 x1289003 x1289004 x1289005))
def dioramaref03_sample.j2 : Nat → Int → Bool → Int → Int → Int → Bool → List Int → List Int → Option (Int)
  | 0, _, _, _, _, _, _, _, _ => none
  | k + 1, x1, x41, x1289000, x1289001, x1289002, x1289003, x1289004, x1289005 => if x41 = true then (some 31) else (dioramaref03_sample.l0 k x1 0 x1289000 x1289001 x1289002 x1289003 x1289004 x1289005)
def dioramaref03_sample.l0 : Nat → Int → Int → Int → Int → Int → Bool → List Int → List Int → Option (Int)
  | 0, _, _, _, _, _, _, _, _ => none
  | k + 1, x1, x7, x1289000, x1289001, x1289002, x1289003, x1289004, x1289005 => if x7 < (x1289004.length : Int) then (if 0 ≤ x7 then (if (rd x1289004 x7) < 0 then (some 32) else (if (rd x1289004 x7) ≥ x1 then (some 32) else (if x7 > 0 then (if 0 ≤ (wrap64 (x7 - 1)) then (if (wrap64 (x7 - 1)) < (x1289004.length : Int) then (if (rd x1289004 x7) ≤ (rd x1289004 (wrap64 (x7 - 1))) then (some 32) else (dioramaref03_sample.l0 k x1 (wrap64 (x7 + 1)) x1289000 x1289001 x1289002 x1289003 x1289004 x1289005)) else (none)) else (none)) else (dioramaref03_sample.l0 k x1 (wrap64 (x7 + 1)) x1289000 x1289001 x1289002 x1289003 x1289004 x1289005)))) else (none)) else (if x1289003 = true then (if (x1289004.length : Int) > 0 then (some 32) else (some 0)) else (some 0))
end
def dioramaref03_sample.f (k : Nat) (a0_0 : Int) (a0_1 : Int) (a0_2 : Int) (a0_3 : Bool) (l0_4 : List Int) (l0_5 : List Int) (a1 : Int) (a2 : Int) : Option (Int) := (dioramaref03_in.f a0_0 (-1099511627776) 1099511627776).bind fun t1289 => (if t1289 = true then ((dioramaref03_in.f a0_1 (-1099511627776) 1099511627776).bind fun t1290 => (if t1290 = true then ((dioramaref03_in.f a0_2 0 1099511627776).bind fun t1291 => (dioramaref03_sample.j0 k a1 a2 (!t1291) a0_0 a0_1 a0_2 a0_3 l0_4 l0_5)) else (dioramaref03_sample.j0 k a1 a2 true a0_0 a0_1 a0_2 a0_3 l0_4 l0_5))) else (dioramaref03_sample.j0 k a1 a2 true a0_0 a0_1 a0_2 a0_3 l0_4 l0_5))
set_option maxHeartbeats 8000000 in
set_option maxRecDepth 100000 in
theorem dioramaref03_sample.calls (k : Nat) (a0_0 : Int) (a0_1 : Int) (a0_2 : Int) (a0_3 : Bool) (A0_4 : Option Addr) (c0_4 : Nat) (l0_4 : List Int) (A0_5 : Option Addr) (c0_5 : Nat) (l0_5 : List Int) (a1 : Int) (a2 : Int) (r : Int) (w : World) (hr0_4 : Kd.C (Kd.int .i64) w A0_4 l0_4.length l0_4) (hc0_4 : l0_4.length ≤ c0_4) (hr0_5 : Kd.C (Kd.int .u8) w A0_5 l0_5.length l0_5) (hc0_5 : l0_5.length ≤ c0_5) (h : dioramaref03_sample.f k a0_0 a0_1 a0_2 a0_3 l0_4 l0_5 a1 a2 = some r) :
  Calls Try.prog 111 #[.agg #[.int .i64 a0_0, .int .i64 a0_1, .int .i64 a0_2, .bool a0_3, .slice A0_4 l0_4.length c0_4, .slice A0_5 l0_5.length c0_5], .int .i64 a1, .int .i64 a2] w fun e w' => e = .returned (.int .i64 r) ∧ Below w.heap.size w w' := by
 have hu120 := Try.underlying120; have HR0_4 := Aside0.mk hr0_4; have HC0_4 := Aside0.mk hc0_4; clear hr0_4 hc0_4; have HR0_5 := Aside0.mk hr0_5; have HC0_5 := Aside0.mk hc0_5; clear hr0_5 hc0_5; have HB := Aside0.mk (Below.refl w.heap.size w); have H : ((dioramaref03_in.f a0_0 (-1099511627776) 1099511627776).bind fun t1289 => (if t1289 = true then ((dioramaref03_in.f a0_1 (-1099511627776) 1099511627776).bind fun t1290 => (if t1290 = true then ((dioramaref03_in.f a0_2 0 1099511627776).bind fun t1291 => (dioramaref03_sample.j0 k a1 a2 (!t1291) a0_0 a0_1 a0_2 a0_3 l0_4 l0_5)) else (dioramaref03_sample.j0 k a1 a2 true a0_0 a0_1 a0_2 a0_3 l0_4 l0_5))) else (dioramaref03_sample.j0 k a1 a2 true a0_0 a0_1 a0_2 a0_3 l0_4 l0_5))) = some r := h
 clear h; have HC4 := Aside0.mk H; clear H
 go_enter Try.func111, Try.ntmps111
 go_upto_region 1 with (first | ((with_reducible refine gate_dst (N := 3) rfl ?_); refine zB 3 120 #[.int .i64 a0_0, .int .i64 a0_1, .int .i64 a0_2, .bool a0_3, .slice A0_4 l0_4.length c0_4, .slice A0_5 l0_5.length c0_5] ?_; intro gb1288 hg w5 hbox hb; have BK1288 := Aside0.mk hbox; have GW1288 := gz hg; have GE1288 := gz hg; replace HB := bp hb; clear hb hbox hg))
 repeat (go_quiet (first | ((with_reducible refine gate_dst (N := 3) rfl ?_); refine zB 3 120 #[.int .i64 a0_0, .int .i64 a0_1, .int .i64 a0_2, .bool a0_3, .slice A0_4 l0_4.length c0_4, .slice A0_5 l0_5.length c0_5] ?_; intro gb1288 hg w5 hbox hb; have n0_ := bp hb; have n1_ := Aside0.mk hbox; have n2_ := gz hg; have n3_ := gz hg; clear HB; have HB := n0_; have BK1288 := n1_; have GW1288 := n2_; have GE1288 := n3_; clear n0_ n1_ n2_ n3_; clear hb hbox hg)); go_upto_region 1 with (first | ((with_reducible refine gate_dst (N := 3) rfl ?_); refine zB 3 120 #[.int .i64 a0_0, .int .i64 a0_1, .int .i64 a0_2, .bool a0_3, .slice A0_4 l0_4.length c0_4, .slice A0_5 l0_5.length c0_5] ?_; intro gb1288 hg w5 hbox hb; have BK1288 := Aside0.mk hbox; have GW1288 := gz hg; have GE1288 := gz hg; replace HB := bp hb; clear hb hbox hg)))
 (try simp only [Act.put, List.setIfInBounds_toArray, List.set_cons_zero, List.set_cons_succ])
 go_cut [23] (fun v23 wc => ∃ (kq : Nat) (x23_3 : Bool), v23 = .bool x23_3 ∧ Aside0 (dioramaref03_sample.j0 kq a1 a2 x23_3 a0_0 a0_1 a0_2 a0_3 l0_4 l0_5 = some r) ∧ Aside0 (kq ≤ k) ∧ Aside0 (wc.heap[gb1288]? = some (.cells #[.int .i64 a0_0, .int .i64 a0_1, .int .i64 a0_2, .bool a0_3, (.slice A0_4 l0_4.length c0_4), (.slice A0_5 l0_5.length c0_5)] 120 (0, 0))) ∧ Aside0 (Below w.heap.size w wc))
 case first =>
  have H := HC4.out; clear HC4; obtain ⟨t1289, A6, H⟩ := ob H
  by_cases c7 : t1289 = true
  ·subst c7; rw [if_pos rfl] at H; obtain ⟨t1290, A8, H⟩ := ob H
   by_cases c9 : t1290 = true
   ·subst c9; rw [if_pos rfl] at H; obtain ⟨t1291, A10, H⟩ := ob H; have H' := Aside0.mk H; clear H; have hcz11_0 : w5.cell? ⟨gb1288, 0, none⟩ = some (.int .i64 a0_0) := ct BK1288 0; have hcz11_1 : w5.cell? ⟨gb1288, 1, none⟩ = some (.int .i64 a0_1) := ct BK1288 1; have hcz11_2 : w5.cell? ⟨gb1288, 2, none⟩ = some (.int .i64 a0_2) := ct BK1288 2; have hcz11_3 : w5.cell? ⟨gb1288, 3, none⟩ = some (.bool a0_3) := ct BK1288 3; have hcz11_4 : w5.cell? ⟨gb1288, 4, none⟩ = some (.slice A0_4 l0_4.length c0_4) := ct BK1288 4; have hcz11_5 : w5.cell? ⟨gb1288, 5, none⟩ = some (.slice A0_5 l0_5.length c0_5) := ct BK1288 5; have hfz11_0 := blk_frozen BK1288.out 0; have hfz11_1 := blk_frozen BK1288.out 1; have hfz11_2 := blk_frozen BK1288.out 2; have hfz11_3 := blk_frozen BK1288.out 3; have hfz11_4 := blk_frozen BK1288.out 4; have hfz11_5 := blk_frozen BK1288.out 5
    go_wp2_with (first | (go_at_call 146; (with_reducible refine (dioramaref03_in.calls a0_0 (-1099511627776) 1099511627776 true _ A6.out).mono ?_); rintro e w' ⟨rfl, ⟨nd, rfl⟩⟩; (try first | exact ⟨rfl, _, World.drewN_drewN _ _ _⟩ | exact ⟨rfl, _, Eq.trans (World.drewN_drewN _ _ _) (congrArg (World.drewN _) (Nat.add_assoc _ _ _))⟩)) | (go_at_call 146; (with_reducible refine (dioramaref03_in.calls a0_1 (-1099511627776) 1099511627776 true _ A8.out).mono ?_); rintro e w' ⟨rfl, ⟨nd, rfl⟩⟩; (try first | exact ⟨rfl, _, World.drewN_drewN _ _ _⟩ | exact ⟨rfl, _, Eq.trans (World.drewN_drewN _ _ _) (congrArg (World.drewN _) (Nat.add_assoc _ _ _))⟩)) | (go_at_call 146; (with_reducible refine (dioramaref03_in.calls a0_2 0 1099511627776 t1291 _ A10.out).mono ?_); rintro e w' ⟨rfl, ⟨nd, rfl⟩⟩; (try first | exact ⟨rfl, _, World.drewN_drewN _ _ _⟩ | exact ⟨rfl, _, Eq.trans (World.drewN_drewN _ _ _) (congrArg (World.drewN _) (Nat.add_assoc _ _ _))⟩)))
    repeat (go_quiet (first | (go_at_call 146; (with_reducible refine (dioramaref03_in.calls a0_0 (-1099511627776) 1099511627776 true _ A6.out).mono ?_); rintro e w' ⟨rfl, ⟨nd, rfl⟩⟩; (try first | exact ⟨rfl, _, World.drewN_drewN _ _ _⟩ | exact ⟨rfl, _, Eq.trans (World.drewN_drewN _ _ _) (congrArg (World.drewN _) (Nat.add_assoc _ _ _))⟩)) | (go_at_call 146; (with_reducible refine (dioramaref03_in.calls a0_1 (-1099511627776) 1099511627776 true _ A8.out).mono ?_); rintro e w' ⟨rfl, ⟨nd, rfl⟩⟩; (try first | exact ⟨rfl, _, World.drewN_drewN _ _ _⟩ | exact ⟨rfl, _, Eq.trans (World.drewN_drewN _ _ _) (congrArg (World.drewN _) (Nat.add_assoc _ _ _))⟩)) | (go_at_call 146; (with_reducible refine (dioramaref03_in.calls a0_2 0 1099511627776 t1291 _ A10.out).mono ?_); rintro e w' ⟨rfl, ⟨nd, rfl⟩⟩; (try first | exact ⟨rfl, _, World.drewN_drewN _ _ _⟩ | exact ⟨rfl, _, Eq.trans (World.drewN_drewN _ _ _) (congrArg (World.drewN _) (Nat.add_assoc _ _ _))⟩))); try go_wp2_with (first | (go_at_call 146; (with_reducible refine (dioramaref03_in.calls a0_0 (-1099511627776) 1099511627776 true _ A6.out).mono ?_); rintro e w' ⟨rfl, ⟨nd, rfl⟩⟩; (try first | exact ⟨rfl, _, World.drewN_drewN _ _ _⟩ | exact ⟨rfl, _, Eq.trans (World.drewN_drewN _ _ _) (congrArg (World.drewN _) (Nat.add_assoc _ _ _))⟩)) | (go_at_call 146; (with_reducible refine (dioramaref03_in.calls a0_1 (-1099511627776) 1099511627776 true _ A8.out).mono ?_); rintro e w' ⟨rfl, ⟨nd, rfl⟩⟩; (try first | exact ⟨rfl, _, World.drewN_drewN _ _ _⟩ | exact ⟨rfl, _, Eq.trans (World.drewN_drewN _ _ _) (congrArg (World.drewN _) (Nat.add_assoc _ _ _))⟩)) | (go_at_call 146; (with_reducible refine (dioramaref03_in.calls a0_2 0 1099511627776 t1291 _ A10.out).mono ?_); rintro e w' ⟨rfl, ⟨nd, rfl⟩⟩; (try first | exact ⟨rfl, _, World.drewN_drewN _ _ _⟩ | exact ⟨rfl, _, Eq.trans (World.drewN_drewN _ _ _) (congrArg (World.drewN _) (Nat.add_assoc _ _ _))⟩))))
    go_meet
    case rel => exact ⟨_, (!t1291), jz, H', ⟨by first | omega | exact Nat.le_refl _⟩, ⟨kz⟩, ⟨bz⟩⟩
   ·obtain rfl := bf c9; rw [if_neg (show ¬ (false = true) by decide)] at H; have H' := Aside0.mk H; clear H; have hcz12_0 : w5.cell? ⟨gb1288, 0, none⟩ = some (.int .i64 a0_0) := ct BK1288 0; have hcz12_1 : w5.cell? ⟨gb1288, 1, none⟩ = some (.int .i64 a0_1) := ct BK1288 1; have hcz12_2 : w5.cell? ⟨gb1288, 2, none⟩ = some (.int .i64 a0_2) := ct BK1288 2; have hcz12_3 : w5.cell? ⟨gb1288, 3, none⟩ = some (.bool a0_3) := ct BK1288 3; have hcz12_4 : w5.cell? ⟨gb1288, 4, none⟩ = some (.slice A0_4 l0_4.length c0_4) := ct BK1288 4; have hcz12_5 : w5.cell? ⟨gb1288, 5, none⟩ = some (.slice A0_5 l0_5.length c0_5) := ct BK1288 5; have hfz12_0 := blk_frozen BK1288.out 0; have hfz12_1 := blk_frozen BK1288.out 1; have hfz12_2 := blk_frozen BK1288.out 2; have hfz12_3 := blk_frozen BK1288.out 3; have hfz12_4 := blk_frozen BK1288.out 4; have hfz12_5 := blk_frozen BK1288.out 5
    go_wp2_with (first | (go_at_call 146; (with_reducible refine (dioramaref03_in.calls a0_0 (-1099511627776) 1099511627776 true _ A6.out).mono ?_); rintro e w' ⟨rfl, ⟨nd, rfl⟩⟩; (try first | exact ⟨rfl, _, World.drewN_drewN _ _ _⟩ | exact ⟨rfl, _, Eq.trans (World.drewN_drewN _ _ _) (congrArg (World.drewN _) (Nat.add_assoc _ _ _))⟩)) | (go_at_call 146; (with_reducible refine (dioramaref03_in.calls a0_1 (-1099511627776) 1099511627776 false _ A8.out).mono ?_); rintro e w' ⟨rfl, ⟨nd, rfl⟩⟩; (try first | exact ⟨rfl, _, World.drewN_drewN _ _ _⟩ | exact ⟨rfl, _, Eq.trans (World.drewN_drewN _ _ _) (congrArg (World.drewN _) (Nat.add_assoc _ _ _))⟩)))
    repeat (go_quiet (first | (go_at_call 146; (with_reducible refine (dioramaref03_in.calls a0_0 (-1099511627776) 1099511627776 true _ A6.out).mono ?_); rintro e w' ⟨rfl, ⟨nd, rfl⟩⟩; (try first | exact ⟨rfl, _, World.drewN_drewN _ _ _⟩ | exact ⟨rfl, _, Eq.trans (World.drewN_drewN _ _ _) (congrArg (World.drewN _) (Nat.add_assoc _ _ _))⟩)) | (go_at_call 146; (with_reducible refine (dioramaref03_in.calls a0_1 (-1099511627776) 1099511627776 false _ A8.out).mono ?_); rintro e w' ⟨rfl, ⟨nd, rfl⟩⟩; (try first | exact ⟨rfl, _, World.drewN_drewN _ _ _⟩ | exact ⟨rfl, _, Eq.trans (World.drewN_drewN _ _ _) (congrArg (World.drewN _) (Nat.add_assoc _ _ _))⟩))); try go_wp2_with (first | (go_at_call 146; (with_reducible refine (dioramaref03_in.calls a0_0 (-1099511627776) 1099511627776 true _ A6.out).mono ?_); rintro e w' ⟨rfl, ⟨nd, rfl⟩⟩; (try first | exact ⟨rfl, _, World.drewN_drewN _ _ _⟩ | exact ⟨rfl, _, Eq.trans (World.drewN_drewN _ _ _) (congrArg (World.drewN _) (Nat.add_assoc _ _ _))⟩)) | (go_at_call 146; (with_reducible refine (dioramaref03_in.calls a0_1 (-1099511627776) 1099511627776 false _ A8.out).mono ?_); rintro e w' ⟨rfl, ⟨nd, rfl⟩⟩; (try first | exact ⟨rfl, _, World.drewN_drewN _ _ _⟩ | exact ⟨rfl, _, Eq.trans (World.drewN_drewN _ _ _) (congrArg (World.drewN _) (Nat.add_assoc _ _ _))⟩))))
    go_meet
    case rel => exact ⟨_, (true), jz, H', ⟨by first | omega | exact Nat.le_refl _⟩, ⟨kz⟩, ⟨bz⟩⟩
  ·obtain rfl := bf c7; rw [if_neg (show ¬ (false = true) by decide)] at H; have H' := Aside0.mk H; clear H; have hcz13_0 : w5.cell? ⟨gb1288, 0, none⟩ = some (.int .i64 a0_0) := ct BK1288 0; have hcz13_1 : w5.cell? ⟨gb1288, 1, none⟩ = some (.int .i64 a0_1) := ct BK1288 1; have hcz13_2 : w5.cell? ⟨gb1288, 2, none⟩ = some (.int .i64 a0_2) := ct BK1288 2; have hcz13_3 : w5.cell? ⟨gb1288, 3, none⟩ = some (.bool a0_3) := ct BK1288 3; have hcz13_4 : w5.cell? ⟨gb1288, 4, none⟩ = some (.slice A0_4 l0_4.length c0_4) := ct BK1288 4; have hcz13_5 : w5.cell? ⟨gb1288, 5, none⟩ = some (.slice A0_5 l0_5.length c0_5) := ct BK1288 5; have hfz13_0 := blk_frozen BK1288.out 0; have hfz13_1 := blk_frozen BK1288.out 1; have hfz13_2 := blk_frozen BK1288.out 2; have hfz13_3 := blk_frozen BK1288.out 3; have hfz13_4 := blk_frozen BK1288.out 4; have hfz13_5 := blk_frozen BK1288.out 5
   go_wp2_with (first | (go_at_call 146; (with_reducible refine (dioramaref03_in.calls a0_0 (-1099511627776) 1099511627776 false _ A6.out).mono ?_); rintro e w' ⟨rfl, ⟨nd, rfl⟩⟩; (try first | exact ⟨rfl, _, World.drewN_drewN _ _ _⟩ | exact ⟨rfl, _, Eq.trans (World.drewN_drewN _ _ _) (congrArg (World.drewN _) (Nat.add_assoc _ _ _))⟩)))
   repeat (go_quiet (first | (go_at_call 146; (with_reducible refine (dioramaref03_in.calls a0_0 (-1099511627776) 1099511627776 false _ A6.out).mono ?_); rintro e w' ⟨rfl, ⟨nd, rfl⟩⟩; (try first | exact ⟨rfl, _, World.drewN_drewN _ _ _⟩ | exact ⟨rfl, _, Eq.trans (World.drewN_drewN _ _ _) (congrArg (World.drewN _) (Nat.add_assoc _ _ _))⟩))); try go_wp2_with (first | (go_at_call 146; (with_reducible refine (dioramaref03_in.calls a0_0 (-1099511627776) 1099511627776 false _ A6.out).mono ?_); rintro e w' ⟨rfl, ⟨nd, rfl⟩⟩; (try first | exact ⟨rfl, _, World.drewN_drewN _ _ _⟩ | exact ⟨rfl, _, Eq.trans (World.drewN_drewN _ _ _) (congrArg (World.drewN _) (Nat.add_assoc _ _ _))⟩))))
   go_meet
   case rel => exact ⟨_, (true), jz, H', ⟨by first | omega | exact Nat.le_refl _⟩, ⟨kz⟩, ⟨bz⟩⟩
 case rest =>
  clear HC4
  try clear c1
  try clear p2
  try clear c7
  try clear c9
  try clear c11
  try clear hcz11_0
  try clear hcz11_1
  try clear hcz11_2
  try clear hcz11_3
  try clear hcz11_4
  try clear hcz11_5
  try clear hcz12_0
  try clear hcz12_1
  try clear hcz12_2
  try clear hcz12_3
  try clear hcz12_4
  try clear hcz12_5
  try clear hcz13_0
  try clear hcz13_1
  try clear hcz13_2
  try clear hcz13_3
  try clear hcz13_4
  try clear hcz13_5
  try clear hfz11_0
  try clear hfz11_1
  try clear hfz11_2
  try clear hfz11_3
  try clear hfz11_4
  try clear hfz11_5
  try clear hfz12_0
  try clear hfz12_1
  try clear hfz12_2
  try clear hfz12_3
  try clear hfz12_4
  try clear hfz12_5
  try clear hfz13_0
  try clear hfz13_1
  try clear hfz13_2
  try clear hfz13_3
  try clear hfz13_4
  try clear hfz13_5
  obtain ⟨kq, x23_3, rfl, HA, HJ3, BK1288, HB⟩ := hcut
  cases kq with
  | zero => exact absurd HA.out (by simp [dioramaref03_sample.j0])
  | succ kj3 =>
   have H := HA.out; clear HA; simp only [dioramaref03_sample.j0] at H
   by_cases c14 : x23_3 = true
   ·subst c14; rw [if_pos rfl] at H; obtain rfl := Option.some.inj H
    go_wp2
    repeat (go_quiet (fail); try go_wp2)
    go_ret
    exact ⟨ez, bz⟩
   ·obtain rfl := bf c14; rw [if_neg (show ¬ (false = true) by decide)] at H; have HC15 := Aside0.mk H; clear H
    go_upto_region 3 with (fail)
    repeat (go_quiet (fail); go_upto_region 3 with (fail))
    go_cut [33] (fun v33 wc => ∃ (kq : Nat) (x33_14 : Bool), v33 = .bool x33_14 ∧ Aside0 (dioramaref03_sample.j1 kq a1 a2 x33_14 a0_0 a0_1 a0_2 a0_3 l0_4 l0_5 = some r) ∧ Aside0 (kq ≤ kj3) ∧ Aside0 (wc.heap[gb1288]? = some (.cells #[.int .i64 a0_0, .int .i64 a0_1, .int .i64 a0_2, .bool a0_3, (.slice A0_4 l0_4.length c0_4), (.slice A0_5 l0_5.length c0_5)] 120 (0, 0))) ∧ Aside0 (Below w.heap.size w wc))
    case first =>
     have H := HC15.out; clear HC15
     by_cases c16 : (l0_5.length : Int) > 65536
     ·rw [if_pos c16] at H; have c16b0 : decide (65536 < (l0_5.length : Int)) = true := decide_eq_true c16; have c16b1 : decide (65536 < l0_5.length) = true := decide_eq_true (by omega); clear c16
      (first | rw [c16b0] | (simp only [i64_w, i32_w]; rw [c16b0]) | skip)
      have H' := Aside0.mk H; clear H; have hcz17_0 : wc.cell? ⟨gb1288, 0, none⟩ = some (.int .i64 a0_0) := ct BK1288 0; have hcz17_1 : wc.cell? ⟨gb1288, 1, none⟩ = some (.int .i64 a0_1) := ct BK1288 1; have hcz17_2 : wc.cell? ⟨gb1288, 2, none⟩ = some (.int .i64 a0_2) := ct BK1288 2; have hcz17_3 : wc.cell? ⟨gb1288, 3, none⟩ = some (.bool a0_3) := ct BK1288 3; have hcz17_4 : wc.cell? ⟨gb1288, 4, none⟩ = some (.slice A0_4 l0_4.length c0_4) := ct BK1288 4; have hcz17_5 : wc.cell? ⟨gb1288, 5, none⟩ = some (.slice A0_5 l0_5.length c0_5) := ct BK1288 5; have hfz17_0 := blk_frozen BK1288.out 0; have hfz17_1 := blk_frozen BK1288.out 1; have hfz17_2 := blk_frozen BK1288.out 2; have hfz17_3 := blk_frozen BK1288.out 3; have hfz17_4 := blk_frozen BK1288.out 4; have hfz17_5 := blk_frozen BK1288.out 5
      go_wp2
      repeat (go_quiet (fail); try go_wp2)
      go_meet
      case rel => exact ⟨_, (true), jz, H', ⟨by have := HJ3.out; first | omega | exact Nat.le_refl _⟩, ⟨kz⟩, ⟨bz⟩⟩
     ·rw [if_neg c16] at H; have c16b0 : decide (65536 < (l0_5.length : Int)) = false := decide_eq_false c16; have c16b1 : decide (65536 < l0_5.length) = false := decide_eq_false (by omega); clear c16
      (first | rw [c16b0] | (simp only [i64_w, i32_w]; rw [c16b0]) | skip)
      have H' := Aside0.mk H; clear H; have hcz18_0 : wc.cell? ⟨gb1288, 0, none⟩ = some (.int .i64 a0_0) := ct BK1288 0; have hcz18_1 : wc.cell? ⟨gb1288, 1, none⟩ = some (.int .i64 a0_1) := ct BK1288 1; have hcz18_2 : wc.cell? ⟨gb1288, 2, none⟩ = some (.int .i64 a0_2) := ct BK1288 2; have hcz18_3 : wc.cell? ⟨gb1288, 3, none⟩ = some (.bool a0_3) := ct BK1288 3; have hcz18_4 : wc.cell? ⟨gb1288, 4, none⟩ = some (.slice A0_4 l0_4.length c0_4) := ct BK1288 4; have hcz18_5 : wc.cell? ⟨gb1288, 5, none⟩ = some (.slice A0_5 l0_5.length c0_5) := ct BK1288 5; have hfz18_0 := blk_frozen BK1288.out 0; have hfz18_1 := blk_frozen BK1288.out 1; have hfz18_2 := blk_frozen BK1288.out 2; have hfz18_3 := blk_frozen BK1288.out 3; have hfz18_4 := blk_frozen BK1288.out 4; have hfz18_5 := blk_frozen BK1288.out 5
      go_wp2
      repeat (go_quiet (fail); try go_wp2)
      go_meet
      case rel => exact ⟨_, (decide ((l0_4.length : Int) > 4)), jz, H', ⟨by have := HJ3.out; first | omega | exact Nat.le_refl _⟩, ⟨kz⟩, ⟨bz⟩⟩
    case rest =>
     clear HC15
     try clear c1
     try clear p2
     try clear c7
     try clear c9
     try clear c11
     try clear c14
     try clear c16
     try clear c16b0
     try clear c16b1
     try clear hcz11_0
     try clear hcz11_1
     try clear hcz11_2
     try clear hcz11_3
     try clear hcz11_4
     try clear hcz11_5
     try clear hcz12_0
     try clear hcz12_1
     try clear hcz12_2
     try clear hcz12_3
     try clear hcz12_4
     try clear hcz12_5
     try clear hcz13_0
     try clear hcz13_1
     try clear hcz13_2
     try clear hcz13_3
     try clear hcz13_4
     try clear hcz13_5
     try clear hcz17_0
     try clear hcz17_1
     try clear hcz17_2
     try clear hcz17_3
     try clear hcz17_4
     try clear hcz17_5
     try clear hcz18_0
     try clear hcz18_1
     try clear hcz18_2
     try clear hcz18_3
     try clear hcz18_4
     try clear hcz18_5
     try clear hfz11_0
     try clear hfz11_1
     try clear hfz11_2
     try clear hfz11_3
     try clear hfz11_4
     try clear hfz11_5
     try clear hfz12_0
     try clear hfz12_1
     try clear hfz12_2
     try clear hfz12_3
     try clear hfz12_4
     try clear hfz12_5
     try clear hfz13_0
     try clear hfz13_1
     try clear hfz13_2
     try clear hfz13_3
     try clear hfz13_4
     try clear hfz13_5
     try clear hfz17_0
     try clear hfz17_1
     try clear hfz17_2
     try clear hfz17_3
     try clear hfz17_4
     try clear hfz17_5
     try clear hfz18_0
     try clear hfz18_1
     try clear hfz18_2
     try clear hfz18_3
     try clear hfz18_4
     try clear hfz18_5
     try clear p2
     obtain ⟨kq, x33_14, rfl, HA, HJ14, BK1288, HB⟩ := hcut
     cases kq with
     | zero => exact absurd HA.out (by simp [dioramaref03_sample.j1])
     | succ kj14 =>
      have H := HA.out; clear HA; simp only [dioramaref03_sample.j1] at H
      by_cases c19 : x33_14 = true
      ·subst c19; rw [if_pos rfl] at H; obtain rfl := Option.some.inj H
       go_wp2
       repeat (go_quiet (fail); try go_wp2)
       go_ret
       exact ⟨ez, bz⟩
      ·obtain rfl := bf c19; rw [if_neg (show ¬ (false = true) by decide)] at H; have HC20 := Aside0.mk H; clear H
       go_upto_region 5 with (fail)
       repeat (go_quiet (fail); go_upto_region 5 with (fail))
       go_cut [41] (fun v41 wc => ∃ (kq : Nat) (x41_19 : Bool), v41 = .bool x41_19 ∧ Aside0 (dioramaref03_sample.j2 kq a1 x41_19 a0_0 a0_1 a0_2 a0_3 l0_4 l0_5 = some r) ∧ Aside0 (kq ≤ kj14) ∧ Aside0 (wc.heap[gb1288]? = some (.cells #[.int .i64 a0_0, .int .i64 a0_1, .int .i64 a0_2, .bool a0_3, (.slice A0_4 l0_4.length c0_4), (.slice A0_5 l0_5.length c0_5)] 120 (0, 0))) ∧ Aside0 (Below w.heap.size w wc))
       case first =>
        have H := HC20.out; clear HC20
        by_cases c21 : a1 > 0
        ·rw [if_pos c21] at H; have c21b0 : decide (0 < a1) = true := decide_eq_true c21; clear c21
         (first | rw [c21b0] | (simp only [i64_w, i32_w]; rw [c21b0]) | skip)
         have H' := Aside0.mk H; clear H; have hcz22_0 : wc.cell? ⟨gb1288, 0, none⟩ = some (.int .i64 a0_0) := ct BK1288 0; have hcz22_1 : wc.cell? ⟨gb1288, 1, none⟩ = some (.int .i64 a0_1) := ct BK1288 1; have hcz22_2 : wc.cell? ⟨gb1288, 2, none⟩ = some (.int .i64 a0_2) := ct BK1288 2; have hcz22_3 : wc.cell? ⟨gb1288, 3, none⟩ = some (.bool a0_3) := ct BK1288 3; have hcz22_4 : wc.cell? ⟨gb1288, 4, none⟩ = some (.slice A0_4 l0_4.length c0_4) := ct BK1288 4; have hcz22_5 : wc.cell? ⟨gb1288, 5, none⟩ = some (.slice A0_5 l0_5.length c0_5) := ct BK1288 5; have hfz22_0 := blk_frozen BK1288.out 0; have hfz22_1 := blk_frozen BK1288.out 1; have hfz22_2 := blk_frozen BK1288.out 2; have hfz22_3 := blk_frozen BK1288.out 3; have hfz22_4 := blk_frozen BK1288.out 4; have hfz22_5 := blk_frozen BK1288.out 5
         go_wp2
         repeat (go_quiet (fail); try go_wp2)
         go_meet
         case rel => exact ⟨_, (decide (a0_0 ≤ a2)), jz, H', ⟨by have := HJ3.out; have := HJ14.out; first | omega | exact Nat.le_refl _⟩, ⟨kz⟩, ⟨bz⟩⟩
        ·rw [if_neg c21] at H; have c21b0 : decide (0 < a1) = false := decide_eq_false c21; clear c21
         (first | rw [c21b0] | (simp only [i64_w, i32_w]; rw [c21b0]) | skip)
         have H' := Aside0.mk H; clear H
         go_wp2
         repeat (go_quiet (fail); try go_wp2)
         go_meet
         case rel => exact ⟨_, (false), jz, H', ⟨by have := HJ3.out; have := HJ14.out; first | omega | exact Nat.le_refl _⟩, ⟨kz⟩, ⟨bz⟩⟩
       case rest =>
        clear HC20
        try clear c1
        try clear c2
        try clear p2
        try clear c7
        try clear c9
        try clear c11
        try clear c14
        try clear c16
        try clear c16b0
        try clear c16b1
        try clear c19
        try clear c21
        try clear c21b0
        try clear hcz11_0
        try clear hcz11_1
        try clear hcz11_2
        try clear hcz11_3
        try clear hcz11_4
        try clear hcz11_5
        try clear hcz12_0
        try clear hcz12_1
        try clear hcz12_2
        try clear hcz12_3
        try clear hcz12_4
        try clear hcz12_5
        try clear hcz13_0
        try clear hcz13_1
        try clear hcz13_2
        try clear hcz13_3
        try clear hcz13_4
        try clear hcz13_5
        try clear hcz17_0
        try clear hcz17_1
        try clear hcz17_2
        try clear hcz17_3
        try clear hcz17_4
        try clear hcz17_5
        try clear hcz18_0
        try clear hcz18_1
        try clear hcz18_2
        try clear hcz18_3
        try clear hcz18_4
        try clear hcz18_5
        try clear hcz22_0
        try clear hcz22_1
        try clear hcz22_2
        try clear hcz22_3
        try clear hcz22_4
        try clear hcz22_5
        try clear hfz11_0
        try clear hfz11_1
        try clear hfz11_2
        try clear hfz11_3
        try clear hfz11_4
        try clear hfz11_5
        try clear hfz12_0
        try clear hfz12_1
        try clear hfz12_2
        try clear hfz12_3
        try clear hfz12_4
        try clear hfz12_5
        try clear hfz13_0
        try clear hfz13_1
        try clear hfz13_2
        try clear hfz13_3
        try clear hfz13_4
        try clear hfz13_5
        try clear hfz17_0
        try clear hfz17_1
        try clear hfz17_2
        try clear hfz17_3
        try clear hfz17_4
        try clear hfz17_5
        try clear hfz18_0
        try clear hfz18_1
        try clear hfz18_2
        try clear hfz18_3
        try clear hfz18_4
        try clear hfz18_5
        try clear hfz22_0
        try clear hfz22_1
        try clear hfz22_2
        try clear hfz22_3
        try clear hfz22_4
        try clear hfz22_5
        try clear p2
        obtain ⟨kq, x41_19, rfl, HA, HJ19, BK1288, HB⟩ := hcut
        cases kq with
        | zero => exact absurd HA.out (by simp [dioramaref03_sample.j2])
        | succ kj19 =>
         have H := HA.out; clear HA; simp only [dioramaref03_sample.j2] at H
         by_cases c23 : x41_19 = true
         ·subst c23; rw [if_pos rfl] at H; obtain rfl := Option.some.inj H
          go_wp2
          repeat (go_quiet (fail); try go_wp2)
          go_ret
          exact ⟨ez, bz⟩
         ·obtain rfl := bf c23; rw [if_neg (show ¬ (false = true) by decide)] at H; have H' := Aside0.mk H; clear H
          go_wp2
          repeat (go_quiet (fail); try go_wp2)
          go_loopg [7] kj19 (fun kq v7 w' => ∃ (x7_4 : Int), v7 = .int .i64 x7_4 ∧ Aside0 (dioramaref03_sample.l0 kq a1 x7_4 a0_0 a0_1 a0_2 a0_3 l0_4 l0_5 = some r) ∧ Aside0 (kq ≤ kj19) ∧ Aside0 (w'.heap[gb1288]? = some (.cells #[.int .i64 a0_0, .int .i64 a0_1, .int .i64 a0_2, .bool a0_3, (.slice A0_4 l0_4.length c0_4), (.slice A0_5 l0_5.length c0_5)] 120 (0, 0))) ∧ Aside0 (Below w.heap.size w w'))
          case atStart => exact ⟨(0), jz, H', ⟨Nat.le_refl _⟩, ⟨kz⟩, ⟨bz⟩⟩
          case round =>
           clear H'
           try clear c1
           try clear c2
           try clear p2
           try clear c7
           try clear c9
           try clear c11
           try clear c14
           try clear c16
           try clear c16b0
           try clear c16b1
           try clear c19
           try clear c21
           try clear c21b0
           try clear c23
           try clear hcz11_0
           try clear hcz11_1
           try clear hcz11_2
           try clear hcz11_3
           try clear hcz11_4
           try clear hcz11_5
           try clear hcz12_0
           try clear hcz12_1
           try clear hcz12_2
           try clear hcz12_3
           try clear hcz12_4
           try clear hcz12_5
           try clear hcz13_0
           try clear hcz13_1
           try clear hcz13_2
           try clear hcz13_3
           try clear hcz13_4
           try clear hcz13_5
           try clear hcz17_0
           try clear hcz17_1
           try clear hcz17_2
           try clear hcz17_3
           try clear hcz17_4
           try clear hcz17_5
           try clear hcz18_0
           try clear hcz18_1
           try clear hcz18_2
           try clear hcz18_3
           try clear hcz18_4
           try clear hcz18_5
           try clear hcz22_0
           try clear hcz22_1
           try clear hcz22_2
           try clear hcz22_3
           try clear hcz22_4
           try clear hcz22_5
           try clear hfz11_0
           try clear hfz11_1
           try clear hfz11_2
           try clear hfz11_3
           try clear hfz11_4
           try clear hfz11_5
           try clear hfz12_0
           try clear hfz12_1
           try clear hfz12_2
           try clear hfz12_3
           try clear hfz12_4
           try clear hfz12_5
           try clear hfz13_0
           try clear hfz13_1
           try clear hfz13_2
           try clear hfz13_3
           try clear hfz13_4
           try clear hfz13_5
           try clear hfz17_0
           try clear hfz17_1
           try clear hfz17_2
           try clear hfz17_3
           try clear hfz17_4
           try clear hfz17_5
           try clear hfz18_0
           try clear hfz18_1
           try clear hfz18_2
           try clear hfz18_3
           try clear hfz18_4
           try clear hfz18_5
           try clear hfz22_0
           try clear hfz22_1
           try clear hfz22_2
           try clear hfz22_3
           try clear hfz22_4
           try clear hfz22_5
           try clear p2
           obtain ⟨x7_4, rfl, HA, HK4, BK1288, HB⟩ := hrel
           cases gk with
           | zero => exact absurd HA.out (by simp [dioramaref03_sample.l0])
           | succ k4 =>
            have H := HA.out; clear HA; simp only [dioramaref03_sample.l0] at H
            by_cases c24 : x7_4 < (l0_4.length : Int)
            ·rw [if_pos c24] at H; have c24b0 : decide (x7_4 < (l0_4.length : Int)) = true := decide_eq_true c24; clear c24
             by_cases c25 : 0 ≤ x7_4
             ·rw [if_pos c25] at H; have c25b0 : decide (0 ≤ x7_4) = true := decide_eq_true c25; clear c25
              by_cases c26 : (rd l0_4 x7_4) < 0
              ·rw [if_pos c26] at H; have c26b0 : decide ((rd l0_4 x7_4) < 0) = true := decide_eq_true c26; clear c26; obtain rfl := Option.some.inj H; have hcz27_0 : wr.cell? ⟨gb1288, 0, none⟩ = some (.int .i64 a0_0) := ct BK1288 0; have hcz27_1 : wr.cell? ⟨gb1288, 1, none⟩ = some (.int .i64 a0_1) := ct BK1288 1; have hcz27_2 : wr.cell? ⟨gb1288, 2, none⟩ = some (.int .i64 a0_2) := ct BK1288 2; have hcz27_3 : wr.cell? ⟨gb1288, 3, none⟩ = some (.bool a0_3) := ct BK1288 3; have hcz27_4 : wr.cell? ⟨gb1288, 4, none⟩ = some (.slice A0_4 l0_4.length c0_4) := ct BK1288 4; have hcz27_5 : wr.cell? ⟨gb1288, 5, none⟩ = some (.slice A0_5 l0_5.length c0_5) := ct BK1288 5; have hfz27_0 := blk_frozen BK1288.out 0; have hfz27_1 := blk_frozen BK1288.out 1; have hfz27_2 := blk_frozen BK1288.out 2; have hfz27_3 := blk_frozen BK1288.out 3; have hfz27_4 := blk_frozen BK1288.out 4; have hfz27_5 := blk_frozen BK1288.out 5; have p1292 : 0 ≤ (x7_4 : Int) := od; have q1292 : x7_4 < (l0_4.length : Int) := od; obtain ⟨ad1292, e1292, hx1292_0⟩ := Kd.at_int HR0_4.out x7_4 p1292 q1292
               cases e1292
               replace hx1292_0 := cl HB hx1292_0; replace p1292 := eq_true p1292; replace q1292 := eq_true q1292
               go_wp2
               repeat (go_quiet (fail); try go_wp2)
               go_ret
               exact ⟨ez, bz⟩
              ·rw [if_neg c26] at H; have c26b0 : decide ((rd l0_4 x7_4) < 0) = false := decide_eq_false c26; clear c26
               by_cases c28 : (rd l0_4 x7_4) ≥ a1
               ·rw [if_pos c28] at H; have c28b0 : decide (a1 ≤ (rd l0_4 x7_4)) = true := decide_eq_true c28; clear c28; obtain rfl := Option.some.inj H; have hcz29_0 : wr.cell? ⟨gb1288, 0, none⟩ = some (.int .i64 a0_0) := ct BK1288 0; have hcz29_1 : wr.cell? ⟨gb1288, 1, none⟩ = some (.int .i64 a0_1) := ct BK1288 1; have hcz29_2 : wr.cell? ⟨gb1288, 2, none⟩ = some (.int .i64 a0_2) := ct BK1288 2; have hcz29_3 : wr.cell? ⟨gb1288, 3, none⟩ = some (.bool a0_3) := ct BK1288 3; have hcz29_4 : wr.cell? ⟨gb1288, 4, none⟩ = some (.slice A0_4 l0_4.length c0_4) := ct BK1288 4; have hcz29_5 : wr.cell? ⟨gb1288, 5, none⟩ = some (.slice A0_5 l0_5.length c0_5) := ct BK1288 5; have hfz29_0 := blk_frozen BK1288.out 0; have hfz29_1 := blk_frozen BK1288.out 1; have hfz29_2 := blk_frozen BK1288.out 2; have hfz29_3 := blk_frozen BK1288.out 3; have hfz29_4 := blk_frozen BK1288.out 4; have hfz29_5 := blk_frozen BK1288.out 5; have p1292 : 0 ≤ (x7_4 : Int) := od; have q1292 : x7_4 < (l0_4.length : Int) := od; obtain ⟨ad1292, e1292, hx1292_0⟩ := Kd.at_int HR0_4.out x7_4 p1292 q1292
                cases e1292
                replace hx1292_0 := cl HB hx1292_0; replace p1292 := eq_true p1292; replace q1292 := eq_true q1292; have p1293 : 0 ≤ (x7_4 : Int) := od; have q1293 : x7_4 < (l0_4.length : Int) := od; obtain ⟨ad1293, e1293, hx1293_0⟩ := Kd.at_int HR0_4.out x7_4 p1293 q1293; obtain rfl : ad1292 = ad1293 := (by injection e1293); replace hx1293_0 := cl HB hx1293_0; replace p1293 := eq_true p1293; replace q1293 := eq_true q1293
                go_wp2
                repeat (go_quiet (fail); try go_wp2)
                go_ret
                exact ⟨ez, bz⟩
               ·rw [if_neg c28] at H; have c28b0 : decide (a1 ≤ (rd l0_4 x7_4)) = false := decide_eq_false c28; clear c28
                by_cases c30 : x7_4 > 0
                ·rw [if_pos c30] at H; have c30b0 : decide (0 < x7_4) = true := decide_eq_true c30; clear c30; obtain ⟨ji31, hji31⟩ : ∃ j_ : Int, (wrap64 (x7_4 - 1)) = j_ := ⟨_, rfl⟩; replace H : (if 0 ≤ (ji31) then (if (ji31) < (l0_4.length : Int) then (if (rd l0_4 x7_4) ≤ (rd l0_4 (ji31)) then (some 32) else (dioramaref03_sample.l0 k4 a1 (wrap64 (x7_4 + 1)) a0_0 a0_1 a0_2 a0_3 l0_4 l0_5)) else (none)) else (none)) = some r := by first | (rw [hji31] at H; exact H) | (simp only [hji31] at H ⊢; exact H)
                 have hji31w : (IntKind.i64.wrap (x7_4 - 1)) = ji31 := (i64_w _).trans hji31
                 by_cases c32 : 0 ≤ (ji31)
                 ·rw [if_pos c32] at H; have c32b0 : decide (0 ≤ (ji31)) = true := decide_eq_true c32; clear c32
                  by_cases c33 : (ji31) < (l0_4.length : Int)
                  ·rw [if_pos c33] at H; have c33b0 : decide ((ji31) < (l0_4.length : Int)) = true := decide_eq_true c33; clear c33
                   by_cases c34 : (rd l0_4 x7_4) ≤ (rd l0_4 (ji31))
                   ·rw [if_pos c34] at H; have c34b0 : decide ((rd l0_4 x7_4) ≤ (rd l0_4 (ji31))) = true := decide_eq_true c34; clear c34; obtain rfl := Option.some.inj H; have hcz35_0 : wr.cell? ⟨gb1288, 0, none⟩ = some (.int .i64 a0_0) := ct BK1288 0; have hcz35_1 : wr.cell? ⟨gb1288, 1, none⟩ = some (.int .i64 a0_1) := ct BK1288 1; have hcz35_2 : wr.cell? ⟨gb1288, 2, none⟩ = some (.int .i64 a0_2) := ct BK1288 2; have hcz35_3 : wr.cell? ⟨gb1288, 3, none⟩ = some (.bool a0_3) := ct BK1288 3; have hcz35_4 : wr.cell? ⟨gb1288, 4, none⟩ = some (.slice A0_4 l0_4.length c0_4) := ct BK1288 4; have hcz35_5 : wr.cell? ⟨gb1288, 5, none⟩ = some (.slice A0_5 l0_5.length c0_5) := ct BK1288 5; have hfz35_0 := blk_frozen BK1288.out 0; have hfz35_1 := blk_frozen BK1288.out 1; have hfz35_2 := blk_frozen BK1288.out 2; have hfz35_3 := blk_frozen BK1288.out 3; have hfz35_4 := blk_frozen BK1288.out 4; have hfz35_5 := blk_frozen BK1288.out 5; have p1292 : 0 ≤ (x7_4 : Int) := od; have q1292 : x7_4 < (l0_4.length : Int) := od; obtain ⟨ad1292, e1292, hx1292_0⟩ := Kd.at_int HR0_4.out x7_4 p1292 q1292
                    cases e1292
                    replace hx1292_0 := cl HB hx1292_0; replace p1292 := eq_true p1292; replace q1292 := eq_true q1292; have p1293 : 0 ≤ (x7_4 : Int) := od; have q1293 : x7_4 < (l0_4.length : Int) := od; obtain ⟨ad1293, e1293, hx1293_0⟩ := Kd.at_int HR0_4.out x7_4 p1293 q1293; obtain rfl : ad1292 = ad1293 := (by injection e1293); replace hx1293_0 := cl HB hx1293_0; replace p1293 := eq_true p1293; replace q1293 := eq_true q1293; have p1294 : 0 ≤ (x7_4 : Int) := od; have q1294 : x7_4 < (l0_4.length : Int) := od; obtain ⟨ad1294, e1294, hx1294_0⟩ := Kd.at_int HR0_4.out x7_4 p1294 q1294; obtain rfl : ad1292 = ad1294 := (by injection e1294); replace hx1294_0 := cl HB hx1294_0; replace p1294 := eq_true p1294; replace q1294 := eq_true q1294; have p1295 : 0 ≤ ((ji31) : Int) := od; have q1295 : (ji31) < (l0_4.length : Int) := od; obtain ⟨ad1295, e1295, hx1295_0⟩ := Kd.at_int HR0_4.out (ji31) p1295 q1295; obtain rfl : ad1292 = ad1295 := (by injection e1295); replace hx1295_0 := cl HB hx1295_0; replace p1295 := eq_true p1295; replace q1295 := eq_true q1295
                    go_wp2
                    repeat (go_quiet (fail); try go_wp2)
                    go_ret
                    exact ⟨by first | rfl | (simp [errW_none, errW_some] <;> rfl) | (simp only [← hji31]; first | rfl | (simp [errW_none, errW_some] <;> rfl)) | (simp [*, errW_none, errW_some] <;> rfl), bz⟩
                   ·rw [if_neg c34] at H; have c34b0 : decide ((rd l0_4 x7_4) ≤ (rd l0_4 (ji31))) = false := decide_eq_false c34; clear c34; have H' := Aside0.mk H; clear H; have hcz36_0 : wr.cell? ⟨gb1288, 0, none⟩ = some (.int .i64 a0_0) := ct BK1288 0; have hcz36_1 : wr.cell? ⟨gb1288, 1, none⟩ = some (.int .i64 a0_1) := ct BK1288 1; have hcz36_2 : wr.cell? ⟨gb1288, 2, none⟩ = some (.int .i64 a0_2) := ct BK1288 2; have hcz36_3 : wr.cell? ⟨gb1288, 3, none⟩ = some (.bool a0_3) := ct BK1288 3; have hcz36_4 : wr.cell? ⟨gb1288, 4, none⟩ = some (.slice A0_4 l0_4.length c0_4) := ct BK1288 4; have hcz36_5 : wr.cell? ⟨gb1288, 5, none⟩ = some (.slice A0_5 l0_5.length c0_5) := ct BK1288 5; have hfz36_0 := blk_frozen BK1288.out 0; have hfz36_1 := blk_frozen BK1288.out 1; have hfz36_2 := blk_frozen BK1288.out 2; have hfz36_3 := blk_frozen BK1288.out 3; have hfz36_4 := blk_frozen BK1288.out 4; have hfz36_5 := blk_frozen BK1288.out 5; have p1292 : 0 ≤ (x7_4 : Int) := od; have q1292 : x7_4 < (l0_4.length : Int) := od; obtain ⟨ad1292, e1292, hx1292_0⟩ := Kd.at_int HR0_4.out x7_4 p1292 q1292
                    cases e1292
                    replace hx1292_0 := cl HB hx1292_0; replace p1292 := eq_true p1292; replace q1292 := eq_true q1292; have p1293 : 0 ≤ (x7_4 : Int) := od; have q1293 : x7_4 < (l0_4.length : Int) := od; obtain ⟨ad1293, e1293, hx1293_0⟩ := Kd.at_int HR0_4.out x7_4 p1293 q1293; obtain rfl : ad1292 = ad1293 := (by injection e1293); replace hx1293_0 := cl HB hx1293_0; replace p1293 := eq_true p1293; replace q1293 := eq_true q1293; have p1294 : 0 ≤ (x7_4 : Int) := od; have q1294 : x7_4 < (l0_4.length : Int) := od; obtain ⟨ad1294, e1294, hx1294_0⟩ := Kd.at_int HR0_4.out x7_4 p1294 q1294; obtain rfl : ad1292 = ad1294 := (by injection e1294); replace hx1294_0 := cl HB hx1294_0; replace p1294 := eq_true p1294; replace q1294 := eq_true q1294; have p1295 : 0 ≤ ((ji31) : Int) := od; have q1295 : (ji31) < (l0_4.length : Int) := od; obtain ⟨ad1295, e1295, hx1295_0⟩ := Kd.at_int HR0_4.out (ji31) p1295 q1295; obtain rfl : ad1292 = ad1295 := (by injection e1295); replace hx1295_0 := cl HB hx1295_0; replace p1295 := eq_true p1295; replace q1295 := eq_true q1295
                    go_wp2
                    repeat (go_quiet (fail); try go_wp2)
                    go_roundg k4
                    case measure => have := HJ3.out; have := HJ14.out; have := HJ19.out; have := HK4.out; omega
                    case rel => exact ⟨(wrap64 (x7_4 + 1)), jz, H', ⟨by have := HJ3.out; have := HJ14.out; have := HJ19.out; have := HK4.out; omega⟩, ⟨kz⟩, ⟨bz⟩⟩
                  ·rw [if_neg c33] at H
                   exact absurd H (by simp)
                 ·rw [if_neg c32] at H
                  exact absurd H (by simp)
                ·rw [if_neg c30] at H; have c30b0 : decide (0 < x7_4) = false := decide_eq_false c30; clear c30; have H' := Aside0.mk H; clear H; have hcz37_0 : wr.cell? ⟨gb1288, 0, none⟩ = some (.int .i64 a0_0) := ct BK1288 0; have hcz37_1 : wr.cell? ⟨gb1288, 1, none⟩ = some (.int .i64 a0_1) := ct BK1288 1; have hcz37_2 : wr.cell? ⟨gb1288, 2, none⟩ = some (.int .i64 a0_2) := ct BK1288 2; have hcz37_3 : wr.cell? ⟨gb1288, 3, none⟩ = some (.bool a0_3) := ct BK1288 3; have hcz37_4 : wr.cell? ⟨gb1288, 4, none⟩ = some (.slice A0_4 l0_4.length c0_4) := ct BK1288 4; have hcz37_5 : wr.cell? ⟨gb1288, 5, none⟩ = some (.slice A0_5 l0_5.length c0_5) := ct BK1288 5; have hfz37_0 := blk_frozen BK1288.out 0; have hfz37_1 := blk_frozen BK1288.out 1; have hfz37_2 := blk_frozen BK1288.out 2; have hfz37_3 := blk_frozen BK1288.out 3; have hfz37_4 := blk_frozen BK1288.out 4; have hfz37_5 := blk_frozen BK1288.out 5; have p1292 : 0 ≤ (x7_4 : Int) := od; have q1292 : x7_4 < (l0_4.length : Int) := od; obtain ⟨ad1292, e1292, hx1292_0⟩ := Kd.at_int HR0_4.out x7_4 p1292 q1292
                 cases e1292
                 replace hx1292_0 := cl HB hx1292_0; replace p1292 := eq_true p1292; replace q1292 := eq_true q1292; have p1293 : 0 ≤ (x7_4 : Int) := od; have q1293 : x7_4 < (l0_4.length : Int) := od; obtain ⟨ad1293, e1293, hx1293_0⟩ := Kd.at_int HR0_4.out x7_4 p1293 q1293; obtain rfl : ad1292 = ad1293 := (by injection e1293); replace hx1293_0 := cl HB hx1293_0; replace p1293 := eq_true p1293; replace q1293 := eq_true q1293
                 go_wp2
                 repeat (go_quiet (fail); try go_wp2)
                 go_roundg k4
                 case measure => have := HJ3.out; have := HJ14.out; have := HJ19.out; have := HK4.out; omega
                 case rel => exact ⟨(wrap64 (x7_4 + 1)), jz, H', ⟨by have := HJ3.out; have := HJ14.out; have := HJ19.out; have := HK4.out; omega⟩, ⟨kz⟩, ⟨bz⟩⟩
             ·rw [if_neg c25] at H
              exact absurd H (by simp)
            ·rw [if_neg c24] at H; have c24b0 : decide (x7_4 < (l0_4.length : Int)) = false := decide_eq_false c24; clear c24
             by_cases c38 : a0_3 = true
             ·subst c38; rw [if_pos rfl] at H
              by_cases c39 : (l0_4.length : Int) > 0
              ·rw [if_pos c39] at H; have c39b0 : decide (0 < (l0_4.length : Int)) = true := decide_eq_true c39; have c39b1 : decide (0 < l0_4.length) = true := decide_eq_true (by omega); clear c39; obtain rfl := Option.some.inj H; have hcz40_0 : wr.cell? ⟨gb1288, 0, none⟩ = some (.int .i64 a0_0) := ct BK1288 0; have hcz40_1 : wr.cell? ⟨gb1288, 1, none⟩ = some (.int .i64 a0_1) := ct BK1288 1; have hcz40_2 : wr.cell? ⟨gb1288, 2, none⟩ = some (.int .i64 a0_2) := ct BK1288 2; have hcz40_3 : wr.cell? ⟨gb1288, 3, none⟩ = some (.bool true) := ct BK1288 3; have hcz40_4 : wr.cell? ⟨gb1288, 4, none⟩ = some (.slice A0_4 l0_4.length c0_4) := ct BK1288 4; have hcz40_5 : wr.cell? ⟨gb1288, 5, none⟩ = some (.slice A0_5 l0_5.length c0_5) := ct BK1288 5; have hfz40_0 := blk_frozen BK1288.out 0; have hfz40_1 := blk_frozen BK1288.out 1; have hfz40_2 := blk_frozen BK1288.out 2; have hfz40_3 := blk_frozen BK1288.out 3; have hfz40_4 := blk_frozen BK1288.out 4; have hfz40_5 := blk_frozen BK1288.out 5
               go_wp2
               repeat (go_quiet (fail); try go_wp2)
               go_ret
               exact ⟨ez, bz⟩
              ·rw [if_neg c39] at H; have c39b0 : decide (0 < (l0_4.length : Int)) = false := decide_eq_false c39; have c39b1 : decide (0 < l0_4.length) = false := decide_eq_false (by omega); clear c39; obtain rfl := Option.some.inj H; have hcz41_0 : wr.cell? ⟨gb1288, 0, none⟩ = some (.int .i64 a0_0) := ct BK1288 0; have hcz41_1 : wr.cell? ⟨gb1288, 1, none⟩ = some (.int .i64 a0_1) := ct BK1288 1; have hcz41_2 : wr.cell? ⟨gb1288, 2, none⟩ = some (.int .i64 a0_2) := ct BK1288 2; have hcz41_3 : wr.cell? ⟨gb1288, 3, none⟩ = some (.bool true) := ct BK1288 3; have hcz41_4 : wr.cell? ⟨gb1288, 4, none⟩ = some (.slice A0_4 l0_4.length c0_4) := ct BK1288 4; have hcz41_5 : wr.cell? ⟨gb1288, 5, none⟩ = some (.slice A0_5 l0_5.length c0_5) := ct BK1288 5; have hfz41_0 := blk_frozen BK1288.out 0; have hfz41_1 := blk_frozen BK1288.out 1; have hfz41_2 := blk_frozen BK1288.out 2; have hfz41_3 := blk_frozen BK1288.out 3; have hfz41_4 := blk_frozen BK1288.out 4; have hfz41_5 := blk_frozen BK1288.out 5
               go_wp2
               repeat (go_quiet (fail); try go_wp2)
               go_ret
               exact ⟨ez, bz⟩
             ·obtain rfl := bf c38; rw [if_neg (show ¬ (false = true) by decide)] at H; obtain rfl := Option.some.inj H; have hcz42_0 : wr.cell? ⟨gb1288, 0, none⟩ = some (.int .i64 a0_0) := ct BK1288 0; have hcz42_1 : wr.cell? ⟨gb1288, 1, none⟩ = some (.int .i64 a0_1) := ct BK1288 1; have hcz42_2 : wr.cell? ⟨gb1288, 2, none⟩ = some (.int .i64 a0_2) := ct BK1288 2; have hcz42_3 : wr.cell? ⟨gb1288, 3, none⟩ = some (.bool false) := ct BK1288 3; have hcz42_4 : wr.cell? ⟨gb1288, 4, none⟩ = some (.slice A0_4 l0_4.length c0_4) := ct BK1288 4; have hcz42_5 : wr.cell? ⟨gb1288, 5, none⟩ = some (.slice A0_5 l0_5.length c0_5) := ct BK1288 5; have hfz42_0 := blk_frozen BK1288.out 0; have hfz42_1 := blk_frozen BK1288.out 1; have hfz42_2 := blk_frozen BK1288.out 2; have hfz42_3 := blk_frozen BK1288.out 3; have hfz42_4 := blk_frozen BK1288.out 4; have hfz42_5 := blk_frozen BK1288.out 5
              go_wp2
              repeat (go_quiet (fail); try go_wp2)
              go_ret
              exact ⟨ez, bz⟩
end Go.Proofs.Ytpbhepdgamoiaaa.E

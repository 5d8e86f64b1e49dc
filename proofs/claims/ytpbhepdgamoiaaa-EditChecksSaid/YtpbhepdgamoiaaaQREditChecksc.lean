/-
  Printed walks.
-/
import Derived.Test.YtpbhepdgamoiaaaQREditChecksa
import Derived.Test.YtpbhepdgamoiaaaQREditChecksb
namespace Go.Proofs.Ytpbhepdgamoiaaa.E
open Go.Proofs.Ytpbhepdgamoiaaa.Z Go.RowKit Go.Proofs.YtpbhepdgamoiaaaW.PrintWords Go.Proofs.YtpbhepdgamoiaaaW.PrintLast Go.Proofs.YtpbhepdgamoiaaaW.PrintMore
attribute [local go_sem] max2_int min2_int max_two min_two max_three min_three max_four min_four
set_option linter.unusedVariables false
set_option linter.unusedSimpArgs false
mutual
def dioramaref02_Plus.l0 : Nat → List Int → List Int → List Int → Int → Int → Option (List Int)
  | 0, _, _, _, _, _ => none
  | k + 1, x0, x1, x5, x6, x7 => if x7 < (x0.length : Int) then (dioramaref02_Plus.j1 k x0 x1 x5 x6 x7 true) else (if x7 < (x1.length : Int) then (dioramaref02_Plus.j1 k x0 x1 x5 x6 x7 true) else (dioramaref02_Plus.j1 k x0 x1 x5 x6 x7 (decide (x6 > 0))))
def dioramaref02_Plus.j1 : Nat → List Int → List Int → List Int → Int → Int → Bool → Option (List Int)
  | 0, _, _, _, _, _, _ => none
  | k + 1, x0, x1, x5, x6, x7, x22 => if x22 = true then ((dioramaref02_digit.f x0 x7).bind fun t192 => ((dioramaref02_digit.f x1 x7).bind fun t193 => (if x5.length < 17592186044416 then (dioramaref02_Plus.l0 k x0 x1 (x5 ++ [Int.tmod (wrap64 ((wrap64 (t192 + t193)) + x6)) 1000000000]) (wrap64 (Int.tdiv (wrap64 ((wrap64 (t192 + t193)) + x6)) 1000000000)) (wrap64 (x7 + 1))) else (none)))) else (some x5)
end
def dioramaref02_Plus.f (k : Nat) (l0 : List Int) (l1 : List Int) : Option (List Int) := dioramaref02_Plus.l0 k l0 l1 ([] : List Int) 0 0
theorem dioramaref02_Plus.mono_l : ∀ k, (∀ y0 y1 y2 y3 y4, LeO (dioramaref02_Plus.l0 k y0 y1 y2 y3 y4) (dioramaref02_Plus.l0 (k + 1) y0 y1 y2 y3 y4)) ∧ (∀ y0 y1 y2 y3 y4 y5, LeO (dioramaref02_Plus.j1 k y0 y1 y2 y3 y4 y5) (dioramaref02_Plus.j1 (k + 1) y0 y1 y2 y3 y4 y5))
  | 0 => ⟨fun _ _ _ _ _ r h => by simp [dioramaref02_Plus.l0] at h, fun _ _ _ _ _ _ r h => by simp [dioramaref02_Plus.j1] at h⟩
  | k + 1 => by
    obtain ⟨ih0, ih1⟩ := dioramaref02_Plus.mono_l k
    refine ⟨?_, ?_⟩
    · intro y0 y1 y2 y3 y4
      unfold dioramaref02_Plus.l0
      repeat' first
      | (with_reducible exact ih0 _ _ _ _ _)
      | (with_reducible exact ih1 _ _ _ _ _ _)
      | (with_reducible exact LeO.refl _)
      | (with_reducible exact LeO.none _)
      | (with_reducible refine LeO.ite ?_ ?_)
      | (with_reducible refine LeO.bind ?_ (fun _ => ?_))
      | exact ih0 _ _ _ _ _
      | exact ih1 _ _ _ _ _ _
      | exact LeO.none _
      | refine LeO.ite ?_ ?_
      | refine LeO.bind ?_ (fun _ => ?_)
    · intro y0 y1 y2 y3 y4 y5
      unfold dioramaref02_Plus.j1
      repeat' first
      | (with_reducible exact ih0 _ _ _ _ _)
      | (with_reducible exact ih1 _ _ _ _ _ _)
      | (with_reducible exact LeO.refl _)
      | (with_reducible exact LeO.none _)
      | (with_reducible refine LeO.ite ?_ ?_)
      | (with_reducible refine LeO.bind ?_ (fun _ => ?_))
      | exact ih0 _ _ _ _ _
      | exact ih1 _ _ _ _ _ _
      | exact LeO.none _
      | refine LeO.ite ?_ ?_
      | refine LeO.bind ?_ (fun _ => ?_)
theorem dioramaref02_Plus.mono : ∀ a0 a1 k, LeO (dioramaref02_Plus.f k a0 a1) (dioramaref02_Plus.f (k + 1) a0 a1) := by
  intro a0 a1 k
  obtain ⟨ih0, ih1⟩ := dioramaref02_Plus.mono_l k
  unfold dioramaref02_Plus.f
  repeat' first
      | (with_reducible exact ih0 _ _ _ _ _)
      | (with_reducible exact ih1 _ _ _ _ _ _)
      | (with_reducible exact LeO.refl _)
      | (with_reducible exact LeO.none _)
      | (with_reducible refine LeO.ite ?_ ?_)
      | (with_reducible refine LeO.bind ?_ (fun _ => ?_))
      | exact ih0 _ _ _ _ _
      | exact ih1 _ _ _ _ _ _
      | exact LeO.none _
      | refine LeO.ite ?_ ?_
      | refine LeO.bind ?_ (fun _ => ?_)
set_option maxHeartbeats 8000000 in
set_option maxRecDepth 100000 in
theorem dioramaref02_Plus.calls (k : Nat) (A0 : Option Addr) (c0 : Nat) (l0 : List Int) (A1 : Option Addr) (c1 : Nat) (l1 : List Int) (r : List Int) (w : World) (hr0 : Kd.C (Kd.int .i64) w A0 l0.length l0) (hc0 : l0.length ≤ c0) (hr1 : Kd.C (Kd.int .i64) w A1 l1.length l1) (hc1 : l1.length ≤ c1) (h : dioramaref02_Plus.f k l0 l1 = some r) :
  Calls Try.prog 137 #[.slice A0 l0.length c0, .slice A1 l1.length c1] w fun e w' => ∃ v0_ : Value, e = .returned (v0_) ∧ Kd.R (Kd.int .i64) 3 w' w.heap.size (fun _ => True) v0_ r ∧ Below w.heap.size w w' := by
 have HR0 := Aside0.mk hr0; have HC0 := Aside0.mk hc0; clear hr0 hc0; have HR1 := Aside0.mk hr1; have HC1 := Aside0.mk hc1; clear hr1 hc1; have HB := Aside0.mk (Below.refl w.heap.size w); have H : (dioramaref02_Plus.l0 k l0 l1 ([] : List Int) 0 0) = some r := h; clear h; have H' := Aside0.mk H; clear H
 go_enter Try.func137, Try.ntmps137
 go_wp2
 go_loopg [5, 6, 7] k (fun kq v5 v6 v7 w' => ∃ (x5_1 : List Int) (x6_1 : Int) (x7_1 : Int), v6 = .int .i64 x6_1 ∧ v7 = .int .i64 x7_1 ∧ Aside0 (dioramaref02_Plus.l0 kq l0 l1 x5_1 x6_1 x7_1 = some r) ∧ Aside0 (kq ≤ k) ∧ Aside0 (Kd.R (Kd.int .i64) 3 w' w.heap.size (fun _ => True) v5 x5_1) ∧ Aside0 (Below w.heap.size w w'))
 case atStart => exact ⟨(([] : List Int)), (0), (0), jz, jz, H', ⟨Nat.le_refl _⟩, ⟨by first | exact Kd.R_nil _ _ _ _ _ | exact Kd.N_nil _ _ _ _ _ | exact Kd.V_nil _ _ _ _ _ | exact Kd.Q_nil _ _ _ _ _ | exact Kd.S_nil _ _ _ _ _⟩, ⟨bz⟩⟩
 case round =>
  clear H'
  try clear c1
  try clear p2
  obtain ⟨x5_1, x6_1, x7_1, rfl, rfl, HA, HK1, HO_5, HB⟩ := hrel
  cases gk with
  | zero => exact absurd HA.out (by simp [dioramaref02_Plus.l0])
  | succ k1 =>
   have H := HA.out; clear HA; simp only [dioramaref02_Plus.l0] at H; have HC3 := Aside0.mk H; clear H
   go_upto_region 4 with (fail)
   go_cut [22] (fun v22 wc => ∃ (kq : Nat) (x22_2 : Bool), v22 = .bool x22_2 ∧ Aside0 (dioramaref02_Plus.j1 kq l0 l1 x5_1 x6_1 x7_1 x22_2 = some r) ∧ Aside0 (kq ≤ k1) ∧ Aside0 (Kd.R (Kd.int .i64) 3 wc w.heap.size (fun _ => True) u5 x5_1) ∧ Aside0 (Below w.heap.size w wc))
   case first =>
    have H := HC3.out; clear HC3
    by_cases c4 : x7_1 < (l0.length : Int)
    ·rw [if_pos c4] at H; have c4b0 : decide (x7_1 < (l0.length : Int)) = true := decide_eq_true c4; clear c4
     (first | rw [c4b0] | (simp only [i64_w, i32_w]; rw [c4b0]) | skip)
     have H' := Aside0.mk H; clear H
     go_wp2
     go_meet
     case rel => exact ⟨_, (true), jz, H', ⟨by have := HK1.out; first | omega | exact Nat.le_refl _⟩, ⟨rz HO_5⟩, ⟨bz⟩⟩
    ·rw [if_neg c4] at H; have c4b0 : decide (x7_1 < (l0.length : Int)) = false := decide_eq_false c4; clear c4
     (first | rw [c4b0] | (simp only [i64_w, i32_w]; rw [c4b0]) | skip)
     by_cases c5 : x7_1 < (l1.length : Int)
     ·rw [if_pos c5] at H; have c5b0 : decide (x7_1 < (l1.length : Int)) = true := decide_eq_true c5; clear c5; have H' := Aside0.mk H; clear H
      go_wp2
      go_meet
      case rel => exact ⟨_, (true), jz, H', ⟨by have := HK1.out; first | omega | exact Nat.le_refl _⟩, ⟨rz HO_5⟩, ⟨bz⟩⟩
     ·rw [if_neg c5] at H; have c5b0 : decide (x7_1 < (l1.length : Int)) = false := decide_eq_false c5; clear c5; have H' := Aside0.mk H; clear H
      go_wp2
      go_meet
      case rel => exact ⟨_, (decide (x6_1 > 0)), jz, H', ⟨by have := HK1.out; first | omega | exact Nat.le_refl _⟩, ⟨rz HO_5⟩, ⟨bz⟩⟩
   case rest =>
    clear HC3
    try clear c1
    try clear p2
    try clear c4
    try clear c4b0
    try clear c5
    try clear c5b0
    try clear p2
    obtain ⟨kq, x22_2, rfl, HA, HJ2, HO_5, HB⟩ := hcut
    cases kq with
    | zero => exact absurd HA.out (by simp [dioramaref02_Plus.j1])
    | succ kj2 =>
     have H := HA.out; clear HA; simp only [dioramaref02_Plus.j1] at H
     by_cases c6 : x22_2 = true
     ·subst c6; rw [if_pos rfl] at H; obtain ⟨t192, A7, H⟩ := ob H; obtain ⟨t193, A8, H⟩ := ob H
      by_cases c9 : x5_1.length < 17592186044416
      ·rw [if_pos c9] at H; have LMc9 := Aside0.mk c9; clear c9; obtain ⟨y194, hy194⟩ : ∃ y_ : List Int, y_ = (x5_1 ++ [Int.tmod (wrap64 ((wrap64 (t192 + t193)) + x6_1)) 1000000000]) := ⟨_, rfl⟩; replace H : (dioramaref02_Plus.l0 kj2 l0 l1 y194 (wrap64 (Int.tdiv (wrap64 ((wrap64 (t192 + t193)) + x6_1)) 1000000000)) (wrap64 (x7_1 + 1))) = some r := by first | (rw [hy194]; with_reducible exact H) | (have H2_ := (Option.bind_some _ _).symm.trans H; rw [hy194]; with_reducible exact H2_) | (have H2_ := (Option.bind_some _ _).symm.trans H; with_reducible exact H2_) | with_reducible exact H | (rw [hy194]; exact H) | exact H
       have Ny194 := Aside0.mk hy194; clear hy194; have H' := Aside0.mk H; clear H
       go_wp2_with (first | ((with_reducible refine gate_callee (f := 155) rfl ?_); refine zC 27 Try.func155 #[.slice A0 l0.length c0, .int .i64 x7_1] ?_; (with_reducible refine (dioramaref02_digit.calls _ _ l0 x7_1 t192 _ ?side1 ?side2 A7.out).mono ?_); (case side1 => exact cz HR0); (case side2 => exact HC0.out); rintro e w' ⟨rfl, ⟨nd, rfl⟩⟩; refine ⟨_, rfl, ?_⟩) | ((with_reducible refine gate_callee (f := 155) rfl ?_); refine zC 30 Try.func155 #[.slice A1 l1.length c1, .int .i64 x7_1] ?_; (with_reducible refine (dioramaref02_digit.calls _ _ l1 x7_1 t193 _ ?side1 ?side2 A8.out).mono ?_); (case side1 => repeat (first | exact (Kd.C_below HR1.out bz) | (with_reducible refine Kd.C_alloc ?_ _) | (with_reducible refine Kd.C_drewN ?_ _) | (with_reducible refine Kd.C_drew ?_))); (case side2 => exact HC1.out); rintro e w' ⟨rfl, ⟨nd, rfl⟩⟩; refine ⟨_, rfl, ?_⟩) | ((with_reducible refine gate_builtin (b := .append) (xs := #[.tmp 34, .tmp 37]) rfl ?_); at_builtin; refine Kd.R_append (Kd.int .i64) (w0 := w) w.heap.size rfl (.tmp 34) (.tmp 37) 93 3 (.int .i64 0) 8 rfl Try.underlying93 info3 rfl (by decide) (by omega) u5 x5_1 (Int.tmod (wrap64 ((wrap64 (t192 + t193)) + x6_1)) 1000000000) [.int .i64 (Int.tmod (wrap64 ((wrap64 (t192 + t193)) + x6_1)) 1000000000)] (fun _ => True) (fun _ => False) rfl rfl ?aP (fun _ hk => hk.elim) ?aF ?aO ?aB ?aS ?aL ?_; (case aP => exact rfl); (case aB => exact bz); (case aF => exact (fun _ _ => trivial)); (case aO => exact (rz HO_5)); (case aS => exact sz); (case aL => have := LMc9.out; omega); intro v195 w10 ho hb hg hat; rw [← Ny194.out] at ho; replace HB := Aside0.mk (hb); have HO196 := Aside0.mk (ho); clear HO_5; clear ho hb hg hat))
       go_roundg kj2
       case measure => have := HK1.out; have := HJ2.out; omega
       case rel => exact ⟨(y194), (wrap64 (Int.tdiv (wrap64 ((wrap64 (t192 + t193)) + x6_1)) 1000000000)), (wrap64 (x7_1 + 1)), jz, jz, H', ⟨by have := HK1.out; have := HJ2.out; omega⟩, ⟨rz HO196⟩, ⟨bz⟩⟩
      ·rw [if_neg c9] at H
       exact absurd H (by simp)
     ·obtain rfl := bf c6; rw [if_neg (show ¬ (false = true) by decide)] at H; obtain rfl := Option.some.inj H
      go_wp2
      go_ret
      exact ⟨_, ez, by (with_reducible repeat (first | apply Kd.R_alloc | apply Kd.R_drewN | apply Kd.R_drew)); exact HO_5.out, bz⟩
def dioramaref02_Minus.l0 : Nat → List Int → List Int → List Int → Int → Int → Option (List Int)
  | 0, _, _, _, _, _ => none
  | k + 1, x0, x1, x5, x6, x7 => if x7 < (x0.length : Int) then ((dioramaref02_digit.f x0 x7).bind fun t200 => ((dioramaref02_digit.f x1 x7).bind fun t201 => (if (wrap64 ((wrap64 (t200 - t201)) - x6)) < 0 then (if x5.length < 17592186044416 then (dioramaref02_Minus.l0 k x0 x1 (x5 ++ [wrap64 ((wrap64 ((wrap64 (t200 - t201)) - x6)) + 1000000000)]) 1 (wrap64 (x7 + 1))) else (none)) else (if x5.length < 17592186044416 then (dioramaref02_Minus.l0 k x0 x1 (x5 ++ [wrap64 ((wrap64 (t200 - t201)) - x6)]) 0 (wrap64 (x7 + 1))) else (none))))) else ((dioramaref02_trimmed.f k x5).bind fun t197 => (some t197))
def dioramaref02_Minus.f (k : Nat) (l0 : List Int) (l1 : List Int) : Option (List Int) := dioramaref02_Minus.l0 k l0 l1 ([] : List Int) 0 0
theorem dioramaref02_Minus.mono_l : ∀ k, (∀ y0 y1 y2 y3 y4, LeO (dioramaref02_Minus.l0 k y0 y1 y2 y3 y4) (dioramaref02_Minus.l0 (k + 1) y0 y1 y2 y3 y4))
  | 0 => fun _ _ _ _ _ r h => by simp [dioramaref02_Minus.l0] at h
  | k + 1 => by
    have ih0 := dioramaref02_Minus.mono_l k
    · intro y0 y1 y2 y3 y4
      unfold dioramaref02_Minus.l0
      repeat' first
      | (with_reducible exact ih0 _ _ _ _ _)
      | (with_reducible exact dioramaref02_trimmed.mono _ _)
      | (with_reducible exact LeO.refl _)
      | (with_reducible exact LeO.none _)
      | (with_reducible refine LeO.ite ?_ ?_)
      | (with_reducible refine LeO.bind ?_ (fun _ => ?_))
      | exact ih0 _ _ _ _ _
      | exact dioramaref02_trimmed.mono _ _
      | exact LeO.none _
      | refine LeO.ite ?_ ?_
      | refine LeO.bind ?_ (fun _ => ?_)
theorem dioramaref02_Minus.mono : ∀ a0 a1 k, LeO (dioramaref02_Minus.f k a0 a1) (dioramaref02_Minus.f (k + 1) a0 a1) := by
  intro a0 a1 k
  have ih0 := dioramaref02_Minus.mono_l k
  unfold dioramaref02_Minus.f
  repeat' first
      | (with_reducible exact ih0 _ _ _ _ _)
      | (with_reducible exact dioramaref02_trimmed.mono _ _)
      | (with_reducible exact LeO.refl _)
      | (with_reducible exact LeO.none _)
      | (with_reducible refine LeO.ite ?_ ?_)
      | (with_reducible refine LeO.bind ?_ (fun _ => ?_))
      | exact ih0 _ _ _ _ _
      | exact dioramaref02_trimmed.mono _ _
      | exact LeO.none _
      | refine LeO.ite ?_ ?_
      | refine LeO.bind ?_ (fun _ => ?_)
set_option maxHeartbeats 8000000 in
set_option maxRecDepth 100000 in
theorem dioramaref02_Minus.calls (k : Nat) (A0 : Option Addr) (c0 : Nat) (l0 : List Int) (A1 : Option Addr) (c1 : Nat) (l1 : List Int) (r : List Int) (w : World) (hr0 : Kd.C (Kd.int .i64) w A0 l0.length l0) (hc0 : l0.length ≤ c0) (hr1 : Kd.C (Kd.int .i64) w A1 l1.length l1) (hc1 : l1.length ≤ c1) (h : dioramaref02_Minus.f k l0 l1 = some r) :
  Calls Try.prog 138 #[.slice A0 l0.length c0, .slice A1 l1.length c1] w fun e w' => ∃ v0_ : Value, e = .returned (v0_) ∧ Kd.R (Kd.int .i64) 3 w' w.heap.size (fun _ => True) v0_ r ∧ Below w.heap.size w w' := by
 have HR0 := Aside0.mk hr0; have HC0 := Aside0.mk hc0; clear hr0 hc0; have HR1 := Aside0.mk hr1; have HC1 := Aside0.mk hc1; clear hr1 hc1; have HB := Aside0.mk (Below.refl w.heap.size w); have H : (dioramaref02_Minus.l0 k l0 l1 ([] : List Int) 0 0) = some r := h; clear h; have H' := Aside0.mk H; clear H
 go_enter Try.func138, Try.ntmps138
 go_wp2
 go_loopg [5, 6, 7] k (fun kq v5 v6 v7 w' => ∃ (x5_1 : List Int) (x6_1 : Int) (x7_1 : Int), v6 = .int .i64 x6_1 ∧ v7 = .int .i64 x7_1 ∧ Aside0 (dioramaref02_Minus.l0 kq l0 l1 x5_1 x6_1 x7_1 = some r) ∧ Aside0 (kq ≤ k) ∧ Aside0 (Kd.R (Kd.int .i64) 3 w' w.heap.size (fun _ => True) v5 x5_1) ∧ Aside0 (Below w.heap.size w w'))
 case atStart => exact ⟨(([] : List Int)), (0), (0), jz, jz, H', ⟨Nat.le_refl _⟩, ⟨by first | exact Kd.R_nil _ _ _ _ _ | exact Kd.N_nil _ _ _ _ _ | exact Kd.V_nil _ _ _ _ _ | exact Kd.Q_nil _ _ _ _ _ | exact Kd.S_nil _ _ _ _ _⟩, ⟨bz⟩⟩
 case round =>
  clear H'
  try clear c1
  try clear p2
  obtain ⟨x5_1, x6_1, x7_1, rfl, rfl, HA, HK1, HO_5, HB⟩ := hrel
  cases gk with
  | zero => exact absurd HA.out (by simp [dioramaref02_Minus.l0])
  | succ k1 =>
   have H := HA.out; clear HA; simp only [dioramaref02_Minus.l0] at H
   by_cases c3 : x7_1 < (l0.length : Int)
   ·rw [if_pos c3] at H; have c3b0 : decide (x7_1 < (l0.length : Int)) = true := decide_eq_true c3; clear c3; obtain ⟨t200, A4, H⟩ := ob H; obtain ⟨t201, A5, H⟩ := ob H
    by_cases c6 : (wrap64 ((wrap64 (t200 - t201)) - x6_1)) < 0
    ·rw [if_pos c6] at H; have c6b0 : decide ((wrap64 ((wrap64 (t200 - t201)) - x6_1)) < 0) = true := decide_eq_true c6; clear c6
     by_cases c7 : x5_1.length < 17592186044416
     ·rw [if_pos c7] at H; have LMc7 := Aside0.mk c7; clear c7; obtain ⟨y202, hy202⟩ : ∃ y_ : List Int, y_ = (x5_1 ++ [wrap64 ((wrap64 ((wrap64 (t200 - t201)) - x6_1)) + 1000000000)]) := ⟨_, rfl⟩; replace H : (dioramaref02_Minus.l0 k1 l0 l1 y202 1 (wrap64 (x7_1 + 1))) = some r := by first | (rw [hy202]; with_reducible exact H) | (have H2_ := (Option.bind_some _ _).symm.trans H; rw [hy202]; with_reducible exact H2_) | (have H2_ := (Option.bind_some _ _).symm.trans H; with_reducible exact H2_) | with_reducible exact H | (rw [hy202]; exact H) | exact H
      have Ny202 := Aside0.mk hy202; clear hy202; have H' := Aside0.mk H; clear H
      go_wp2_with (first | ((with_reducible refine gate_callee (f := 155) rfl ?_); refine zC 17 Try.func155 #[.slice A0 l0.length c0, .int .i64 x7_1] ?_; (with_reducible refine (dioramaref02_digit.calls _ _ l0 x7_1 t200 _ ?side1 ?side2 A4.out).mono ?_); (case side1 => exact cz HR0); (case side2 => exact HC0.out); rintro e w' ⟨rfl, ⟨nd, rfl⟩⟩; refine ⟨_, rfl, ?_⟩) | ((with_reducible refine gate_callee (f := 155) rfl ?_); refine zC 20 Try.func155 #[.slice A1 l1.length c1, .int .i64 x7_1] ?_; (with_reducible refine (dioramaref02_digit.calls _ _ l1 x7_1 t201 _ ?side1 ?side2 A5.out).mono ?_); (case side1 => repeat (first | exact (Kd.C_below HR1.out bz) | (with_reducible refine Kd.C_alloc ?_ _) | (with_reducible refine Kd.C_drewN ?_ _) | (with_reducible refine Kd.C_drew ?_))); (case side2 => exact HC1.out); rintro e w' ⟨rfl, ⟨nd, rfl⟩⟩; refine ⟨_, rfl, ?_⟩) | ((with_reducible refine gate_builtin (b := .append) (xs := #[.tmp 28, .tmp 30]) rfl ?_); at_builtin; refine Kd.R_append (Kd.int .i64) (w0 := w) w.heap.size rfl (.tmp 28) (.tmp 30) 93 3 (.int .i64 0) 8 rfl Try.underlying93 info3 rfl (by decide) (by omega) u5 x5_1 (wrap64 ((wrap64 ((wrap64 (t200 - t201)) - x6_1)) + 1000000000)) [.int .i64 (wrap64 ((wrap64 ((wrap64 (t200 - t201)) - x6_1)) + 1000000000))] (fun _ => True) (fun _ => False) rfl rfl ?aP (fun _ hk => hk.elim) ?aF ?aO ?aB ?aS ?aL ?_; (case aP => exact rfl); (case aB => exact bz); (case aF => exact (fun _ _ => trivial)); (case aO => exact (rz HO_5)); (case aS => exact sz); (case aL => have := LMc7.out; omega); intro v203 w8 ho hb hg hat; rw [← Ny202.out] at ho; replace HB := Aside0.mk (hb); have HO204 := Aside0.mk (ho); clear HO_5; clear ho hb hg hat))
      go_roundg k1
      case measure => have := HK1.out; omega
      case rel => exact ⟨(y202), (1), (wrap64 (x7_1 + 1)), jz, jz, H', ⟨by have := HK1.out; omega⟩, ⟨rz HO204⟩, ⟨bz⟩⟩
     ·rw [if_neg c7] at H
      exact absurd H (by simp)
    ·rw [if_neg c6] at H; have c6b0 : decide ((wrap64 ((wrap64 (t200 - t201)) - x6_1)) < 0) = false := decide_eq_false c6; clear c6
     by_cases c9 : x5_1.length < 17592186044416
     ·rw [if_pos c9] at H; have LMc9 := Aside0.mk c9; clear c9; obtain ⟨y205, hy205⟩ : ∃ y_ : List Int, y_ = (x5_1 ++ [wrap64 ((wrap64 (t200 - t201)) - x6_1)]) := ⟨_, rfl⟩; replace H : (dioramaref02_Minus.l0 k1 l0 l1 y205 0 (wrap64 (x7_1 + 1))) = some r := by first | (rw [hy205]; with_reducible exact H) | (have H2_ := (Option.bind_some _ _).symm.trans H; rw [hy205]; with_reducible exact H2_) | (have H2_ := (Option.bind_some _ _).symm.trans H; with_reducible exact H2_) | with_reducible exact H | (rw [hy205]; exact H) | exact H
      have Ny205 := Aside0.mk hy205; clear hy205; have H' := Aside0.mk H; clear H
      go_wp2_with (first | ((with_reducible refine gate_callee (f := 155) rfl ?_); refine zC 17 Try.func155 #[.slice A0 l0.length c0, .int .i64 x7_1] ?_; (with_reducible refine (dioramaref02_digit.calls _ _ l0 x7_1 t200 _ ?side1 ?side2 A4.out).mono ?_); (case side1 => exact cz HR0); (case side2 => exact HC0.out); rintro e w' ⟨rfl, ⟨nd, rfl⟩⟩; refine ⟨_, rfl, ?_⟩) | ((with_reducible refine gate_callee (f := 155) rfl ?_); refine zC 20 Try.func155 #[.slice A1 l1.length c1, .int .i64 x7_1] ?_; (with_reducible refine (dioramaref02_digit.calls _ _ l1 x7_1 t201 _ ?side1 ?side2 A5.out).mono ?_); (case side1 => repeat (first | exact (Kd.C_below HR1.out bz) | (with_reducible refine Kd.C_alloc ?_ _) | (with_reducible refine Kd.C_drewN ?_ _) | (with_reducible refine Kd.C_drew ?_))); (case side2 => exact HC1.out); rintro e w' ⟨rfl, ⟨nd, rfl⟩⟩; refine ⟨_, rfl, ?_⟩) | ((with_reducible refine gate_builtin (b := .append) (xs := #[.tmp 28, .tmp 30]) rfl ?_); at_builtin; refine Kd.R_append (Kd.int .i64) (w0 := w) w.heap.size rfl (.tmp 28) (.tmp 30) 93 3 (.int .i64 0) 8 rfl Try.underlying93 info3 rfl (by decide) (by omega) u5 x5_1 (wrap64 ((wrap64 (t200 - t201)) - x6_1)) [.int .i64 (wrap64 ((wrap64 (t200 - t201)) - x6_1))] (fun _ => True) (fun _ => False) rfl rfl ?aP (fun _ hk => hk.elim) ?aF ?aO ?aB ?aS ?aL ?_; (case aP => exact rfl); (case aB => exact bz); (case aF => exact (fun _ _ => trivial)); (case aO => exact (rz HO_5)); (case aS => exact sz); (case aL => have := LMc9.out; omega); intro v206 w10 ho hb hg hat; rw [← Ny205.out] at ho; replace HB := Aside0.mk (hb); have HO207 := Aside0.mk (ho); clear HO_5; clear ho hb hg hat))
      go_roundg k1
      case measure => have := HK1.out; omega
      case rel => exact ⟨(y205), (0), (wrap64 (x7_1 + 1)), jz, jz, H', ⟨by have := HK1.out; omega⟩, ⟨rz HO207⟩, ⟨bz⟩⟩
     ·rw [if_neg c9] at H
      exact absurd H (by simp)
   ·rw [if_neg c3] at H; have c3b0 : decide (x7_1 < (l0.length : Int)) = false := decide_eq_false c3; clear c3; obtain ⟨t197, A11, H⟩ := ob H; obtain rfl := Option.some.inj H; obtain ⟨Ao12, co12, eo12⟩ := Kd.R_slice HO_5.out; subst eo12
    go_wp2_with (first | ((with_reducible refine gate_callee (f := 154) rfl ?_); refine zC 33 Try.func154 #[.slice Ao12 x5_1.length co12] ?_; (with_reducible refine (dioramaref02_trimmed.calls k1 (fun k_ => some k_ = (.slice Ao12 x5_1.length co12 : Value).ownBlock) (.slice Ao12 x5_1.length co12) x5_1 t197 w _ ?side1 ?side2 A11.out).mono ?_); (case side1 => repeat (first | (with_reducible first | exact HB.out | apply below_alloc | apply pw_below_drewN | apply below_drew1) | exact HB.out)); (case side2 => exact Kd.R_tight rfl HO_5.out); rintro e w13 ⟨v198, rfl, ho0, hb, hkp⟩; refine ⟨_, rfl, ?_⟩; have HO199 := Aside0.mk (Kd.R_mono (ok' := fun k_ => True) ho0 (fun k_ hk_ => trivial)); replace HB := Aside0.mk (hb); clear HO_5; clear hb hkp ho0))
    go_ret
    exact ⟨_, ez, by (with_reducible repeat (first | apply Kd.R_alloc | apply Kd.R_drewN | apply Kd.R_drew)); exact HO199.out, bz⟩
def dioramaref02_Sum.f (k : Nat) (a0_0 : Bool) (l0_1 : List Int) (l0_2 : List Int) (a1_0 : Bool) (l1_1 : List Int) (l1_2 : List Int) : Option (Bool × List Int × List Int) := (dioramaref02_Times.f k l0_1 l1_2).bind fun t211 => ((dioramaref02_Times.f k l1_1 l0_2).bind fun t214 => ((dioramaref02_Times.f k l0_2 l1_2).bind fun t217 => (if (a0_0 == a1_0) = true then ((dioramaref02_Plus.f k t211 t214).bind fun t220 => (some (a0_0, t220, t217))) else ((dioramaref02_Compare.f k t211 t214).bind fun t223 => (if t223 ≥ 0 then ((dioramaref02_Minus.f k t211 t214).bind fun t224 => (some (a0_0, t224, t217))) else ((dioramaref02_Minus.f k t214 t211).bind fun t227 => (some (a1_0, t227, t217))))))))
theorem dioramaref02_Sum.mono : ∀ a0 a1 a2 a3 a4 a5 k, LeO (dioramaref02_Sum.f k a0 a1 a2 a3 a4 a5) (dioramaref02_Sum.f (k + 1) a0 a1 a2 a3 a4 a5) := by
  intro a0 a1 a2 a3 a4 a5 k
  unfold dioramaref02_Sum.f
  repeat' first
      | (with_reducible exact dioramaref02_Compare.mono _ _ _)
      | (with_reducible exact dioramaref02_Minus.mono _ _ _)
      | (with_reducible exact dioramaref02_Plus.mono _ _ _)
      | (with_reducible exact dioramaref02_Times.mono _ _ _)
      | (with_reducible exact LeO.refl _)
      | (with_reducible exact LeO.none _)
      | (with_reducible refine LeO.ite ?_ ?_)
      | (with_reducible refine LeO.bind ?_ (fun _ => ?_))
      | exact dioramaref02_Compare.mono _ _ _
      | exact dioramaref02_Minus.mono _ _ _
      | exact dioramaref02_Plus.mono _ _ _
      | exact dioramaref02_Times.mono _ _ _
      | exact LeO.none _
      | refine LeO.ite ?_ ?_
      | refine LeO.bind ?_ (fun _ => ?_)
set_option maxHeartbeats 8000000 in
set_option maxRecDepth 100000 in
theorem dioramaref02_Sum.calls (k : Nat) (a0_0 : Bool) (A0_1 : Option Addr) (c0_1 : Nat) (l0_1 : List Int) (A0_2 : Option Addr) (c0_2 : Nat) (l0_2 : List Int) (a1_0 : Bool) (A1_1 : Option Addr) (c1_1 : Nat) (l1_1 : List Int) (A1_2 : Option Addr) (c1_2 : Nat) (l1_2 : List Int) (r1 : Bool) (r2 : List Int) (r3 : List Int) (w : World) (hr0_1 : Kd.C (Kd.int .i64) w A0_1 l0_1.length l0_1) (hc0_1 : l0_1.length ≤ c0_1) (hr0_2 : Kd.C (Kd.int .i64) w A0_2 l0_2.length l0_2) (hc0_2 : l0_2.length ≤ c0_2) (hr1_1 : Kd.C (Kd.int .i64) w A1_1 l1_1.length l1_1) (hc1_1 : l1_1.length ≤ c1_1) (hr1_2 : Kd.C (Kd.int .i64) w A1_2 l1_2.length l1_2) (hc1_2 : l1_2.length ≤ c1_2) (h : dioramaref02_Sum.f k a0_0 l0_1 l0_2 a1_0 l1_1 l1_2 = some (r1, r2, r3)) :
  Calls Try.prog 98 #[.agg #[.bool a0_0, .slice A0_1 l0_1.length c0_1, .slice A0_2 l0_2.length c0_2], .agg #[.bool a1_0, .slice A1_1 l1_1.length c1_1, .slice A1_2 l1_2.length c1_2]] w fun e w' => ∃ v1_ v2_ : Value, e = .returned (.agg #[.bool r1, v1_, v2_]) ∧ Kd.R (Kd.int .i64) 3 w' w.heap.size (fun k_ => some k_ ≠ (v2_ : Value).ownBlock) v1_ r2 ∧ Kd.R (Kd.int .i64) 3 w' w.heap.size (fun k_ => some k_ ≠ (v1_ : Value).ownBlock) v2_ r3 ∧ Below w.heap.size w w' := by
 have hu95 := Try.underlying95; have HR0_1 := Aside0.mk hr0_1; have HC0_1 := Aside0.mk hc0_1; clear hr0_1 hc0_1; have HR0_2 := Aside0.mk hr0_2; have HC0_2 := Aside0.mk hc0_2; clear hr0_2 hc0_2; have HR1_1 := Aside0.mk hr1_1; have HC1_1 := Aside0.mk hc1_1; clear hr1_1 hc1_1; have HR1_2 := Aside0.mk hr1_2; have HC1_2 := Aside0.mk hc1_2; clear hr1_2 hc1_2; have HB := Aside0.mk (Below.refl w.heap.size w); have H : ((dioramaref02_Times.f k l0_1 l1_2).bind fun t211 => ((dioramaref02_Times.f k l1_1 l0_2).bind fun t214 => ((dioramaref02_Times.f k l0_2 l1_2).bind fun t217 => (if (a0_0 == a1_0) = true then ((dioramaref02_Plus.f k t211 t214).bind fun t220 => (some (a0_0, t220, t217))) else ((dioramaref02_Compare.f k t211 t214).bind fun t223 => (if t223 ≥ 0 then ((dioramaref02_Minus.f k t211 t214).bind fun t224 => (some (a0_0, t224, t217))) else ((dioramaref02_Minus.f k t214 t211).bind fun t227 => (some (a1_0, t227, t217))))))))) = some (r1, r2, r3) := h
 clear h; obtain ⟨t211, A3, H⟩ := ob H; obtain ⟨t214, A4, H⟩ := ob H; obtain ⟨t217, A5, H⟩ := ob H
 by_cases c6 : (a0_0 == a1_0) = true
 ·rw [if_pos c6] at H; have c6b0 : (a0_0 == a1_0) = true := c6
  (try (have c6b1 : decide (a0_0 = a1_0) = true := by simpa using c6))
  (try (have c6b2 : (a0_0 == a1_0) = true := by simpa using c6))
  clear c6; obtain ⟨t220, A7, H⟩ := ob H; simp only [Option.some.injEq, Prod.mk.injEq] at H; obtain ⟨rfl, rfl, rfl⟩ := H
  go_enter Try.func98, Try.ntmps98
  try go_wp2_with (first | ((with_reducible refine gate_dst (N := 2) rfl ?_); refine zB 2 95 #[.bool a0_0, .slice A0_1 l0_1.length c0_1, .slice A0_2 l0_2.length c0_2] ?_; intro gb208 hg w8 hbox hb; have BK208 := Aside0.mk hbox; have GW208 := gz hg; have GE208 := gz hg; replace HB := bp hb; clear hb hbox hg) | ((with_reducible refine gate_dst (N := 3) rfl ?_); refine zB 3 95 #[.bool a1_0, .slice A1_1 l1_1.length c1_1, .slice A1_2 l1_2.length c1_2] ?_; intro gb209 hg w9 hbox hb; have BK209 := Aside0.mk hbox; have GW209 := gz hg; have GE209 := gz hg; replace HB := bp hb; have NB208_209 := Aside0.mk ((by rw [hg]; exact Nat.ne_of_lt (bl BK208) : gb208 ≠ gb209)); have NB209_208 := Aside0.mk ((by rw [hg]; exact Nat.ne_of_gt (bl BK208) : gb209 ≠ gb208)); replace BK208 := kb BK208 hb; clear hb hbox hg) | ((with_reducible refine gate_dst (N := 4) rfl ?_); refine zB 4 95 #[.bool false, .slice none 0 0, .slice none 0 0] ?_; intro gb210 hg w10 hbox hb; have BK210 := Aside0.mk hbox; have GW210 := gz hg; have GE210 := gz hg; replace HB := bp hb; have NB208_210 := Aside0.mk ((by rw [hg]; exact Nat.ne_of_lt (bl BK208) : gb208 ≠ gb210)); have NB210_208 := Aside0.mk ((by rw [hg]; exact Nat.ne_of_gt (bl BK208) : gb210 ≠ gb208)); replace BK208 := kb BK208 hb; have NB209_210 := Aside0.mk ((by rw [hg]; exact Nat.ne_of_lt (bl BK209) : gb209 ≠ gb210)); have NB210_209 := Aside0.mk ((by rw [hg]; exact Nat.ne_of_gt (bl BK209) : gb210 ≠ gb209)); replace BK209 := kb BK209 hb; clear hb hbox hg))
  replace BK208 := Aside0.mk (blk_drew BK208.out); replace BK209 := Aside0.mk (blk_drew BK209.out); replace BK210 := Aside0.mk (blk_drew BK210.out); replace HB := Aside0.mk (below_drew1 HB.out); refine start_ (n := 12) (S := fun w' => w'.cell? ⟨gb208, 0, none⟩ = some (.bool a0_0) ∧ w'.cell? ⟨gb208, 1, none⟩ = some (.slice A0_1 l0_1.length c0_1) ∧ w'.cell? ⟨gb208, 2, none⟩ = some (.slice A0_2 l0_2.length c0_2) ∧ w'.cell? ⟨gb209, 0, none⟩ = some (.bool a1_0) ∧ w'.cell? ⟨gb209, 1, none⟩ = some (.slice A1_1 l1_1.length c1_1) ∧ w'.cell? ⟨gb209, 2, none⟩ = some (.slice A1_2 l1_2.length c1_2)) (ds := []) (bs 12 0) (by kernel_rfl) rfl rfl ⟨ct BK208 0, ct BK208 1, ct BK208 2, ct BK209 0, ct BK209 1, ct BK209 2⟩ (fun hHeld => ?_)
  generalize w10.drew = w11 at BK208 BK209 BK210 HB hHeld ⊢; refine zP 0 8 12 1 ?_; refine zP 2 10 12 5 ?_; refine zP 5 13 12 37 ?_; refine zP 7 15 12 165 ?_; refine zT 1 9 12 167 hHeld ?_; refine zT 3 11 12 175 hHeld ?_; refine zT 6 14 12 239 hHeld ?_; refine zT 8 16 12 495 hHeld ?_; refine zN 4 (some 12) 12 511 (fun K hK => ?_); refine zG Try.func124 #[.slice A0_1 l0_1.length c0_1, .slice A1_2 l1_2.length c1_2] ?_
  with_reducible refine (dioramaref02_Times.calls k _ _ l0_1 _ _ l1_2 t211 _ ?side1 ?side2 ?side3 ?side4 A3.out).mono ?_
  (case side1 => exact cz HR0_1)
  (case side2 => exact HC0_1.out)
  (case side3 => exact cz HR1_2)
  (case side4 => exact HC1_2.out)
  rintro e w12 ⟨v212, rfl, ho0, hb⟩; refine ⟨_, rfl, ?_⟩; have HO213 := Aside0.mk (Kd.R_lower ho0 sz); replace BK208 := kb BK208 hb; replace BK209 := kb BK209 hb; replace BK210 := kb BK210 hb; replace HB := bp hb; clear hb ho0; refine hK.out _ _ ⟨ct BK208 0, ct BK208 1, ct BK208 2, ct BK209 0, ct BK209 1, ct BK209 2⟩ (fun hHeld => ?_); clear hK K; refine zM 12 ?_; refine zN 9 (some 17) 12 1023 (fun K hK => ?_); refine zG Try.func124 #[.slice A1_1 l1_1.length c1_1, .slice A0_2 l0_2.length c0_2] ?_
  with_reducible refine (dioramaref02_Times.calls k _ _ l1_1 _ _ l0_2 t214 _ ?side1 ?side2 ?side3 ?side4 A4.out).mono ?_
  (case side1 => exact cz HR1_1)
  (case side2 => exact HC1_1.out)
  (case side3 => exact cz HR0_2)
  (case side4 => exact HC0_2.out)
  rintro e w13 ⟨v215, rfl, ho0, hb⟩; refine ⟨_, rfl, ?_⟩; have HO216 := Aside0.mk (Kd.R_lower (Kd.R_new' ho0 (Kd.R_lt (rz HO213))) sz); replace HO213 := Aside0.mk (Kd.R_elder' (rz HO213) (Kd.R_base ho0) hb); replace BK208 := kb BK208 hb; replace BK209 := kb BK209 hb; replace BK210 := kb BK210 hb; replace HB := bp hb; clear hb ho0; refine hK.out _ _ ⟨ct BK208 0, ct BK208 1, ct BK208 2, ct BK209 0, ct BK209 1, ct BK209 2⟩ (fun hHeld => ?_); clear hK K; refine zM 17 ?_; refine zP 10 5 12 2047 ?_; refine zP 11 6 12 4095 ?_; refine done_ (by kernel_rfl) ?_; have hnb14 := NB208_209.out; have hnc14 := NB209_208.out; have hnb15 := NB208_210.out; have hnc15 := NB210_208.out; obtain ⟨hcz16_0, hcz16_1, hcz16_2, hfz16_0, hfz16_1, hfz16_2⟩ := xc3 BK208; have hnb17 := NB209_210.out; have hnc17 := NB210_209.out; obtain ⟨hcz18_0, hcz18_1, hcz18_2, hfz18_0, hfz18_1, hfz18_2⟩ := xc3 BK209
  try go_wp2_with (first | ((with_reducible refine gate_callee (f := 124) rfl ?_); refine zC 22 Try.func124 #[.slice A0_2 l0_2.length c0_2, .slice A1_2 l1_2.length c1_2] ?_; (with_reducible refine (dioramaref02_Times.calls k _ _ l0_2 _ _ l1_2 t217 _ ?side1 ?side2 ?side3 ?side4 A5.out).mono ?_); (case side1 => exact cz HR0_2); (case side2 => exact HC0_2.out); (case side3 => exact cz HR1_2); (case side4 => exact HC1_2.out); rintro e w19 ⟨v218, rfl, ho0, hb⟩; refine ⟨_, rfl, ?_⟩; have HO219 := Aside0.mk (Kd.R_lower (Kd.R_new' (Kd.R_new' ho0 (Kd.R_lt (rz HO213))) (Kd.R_lt (rz HO216))) sz); replace HO213 := Aside0.mk (Kd.R_elder' (rz HO213) (Kd.R_base ho0) hb); replace HO216 := Aside0.mk (Kd.R_elder' (rz HO216) (Kd.R_base ho0) hb); replace BK208 := kb BK208 hb; replace BK209 := kb BK209 hb; replace BK210 := kb BK210 hb; replace HB := bp hb; clear hb ho0; obtain ⟨hcz20_0, hcz20_1, hcz20_2, hfz20_0, hfz20_1, hfz20_2⟩ := xc3 BK208; obtain ⟨hcz21_0, hcz21_1, hcz21_2, hfz21_0, hfz21_1, hfz21_2⟩ := xc3 BK209))
  replace HO213 := Aside0.mk (Kd.R_drew HO213.out); replace HO216 := Aside0.mk (Kd.R_drew HO216.out); replace HO219 := Aside0.mk (Kd.R_drew HO219.out); replace BK208 := Aside0.mk (blk_drew BK208.out); replace BK209 := Aside0.mk (blk_drew BK209.out); replace BK210 := Aside0.mk (blk_drew BK210.out); replace HB := Aside0.mk (below_drew1 HB.out); obtain ⟨Ao23, co23, eo23⟩ := Kd.R_slice HO213.out
  (first | subst eo23 | (injection eo23 with f1_ f2_ f3_; have f4_ := f1_.symm; have f5_ := f3_.symm; clear f1_ f2_ f3_; subst f4_; subst f5_))
  obtain ⟨Ao24, co24, eo24⟩ := Kd.R_slice HO216.out
  (first | subst eo24 | (injection eo24 with f1_ f2_ f3_; have f4_ := f1_.symm; have f5_ := f3_.symm; clear f1_ f2_ f3_; subst f4_; subst f5_))
  refine start_ (n := 8) (S := fun w' => w'.cell? ⟨gb208, 0, none⟩ = some (.bool a0_0) ∧ w'.cell? ⟨gb208, 1, none⟩ = some (.slice A0_1 l0_1.length c0_1) ∧ w'.cell? ⟨gb208, 2, none⟩ = some (.slice A0_2 l0_2.length c0_2)) (ds := []) (bs 8 0) (by kernel_rfl) rfl rfl ⟨ct BK208 0, ct BK208 1, ct BK208 2⟩ (fun hHeld => ?_)
  generalize w19.drew = w22 at HO213 HO216 HO219 BK208 BK209 BK210 HB hHeld ⊢; refine zP 0 28 8 1 ?_; refine zP 2 30 8 5 ?_; refine zP 3 31 8 13 ?_; refine zP 5 33 8 45 ?_; refine zT 1 29 8 47 hHeld ?_; refine zN 4 (some 32) 8 63 (fun K hK => ?_); refine zG Try.func137 #[.slice Ao23 t211.length co23, .slice Ao24 t214.length co24] ?_
  with_reducible refine (dioramaref02_Plus.calls k _ _ t211 _ _ t214 t220 _ ?side1 ?side2 ?side3 ?side4 A7.out).mono ?_
  (case side1 => exact cr HO213)
  (case side2 => exact (Kd.R_reads' HO213.out).2.1)
  (case side3 => exact cr HO216)
  (case side4 => exact (Kd.R_reads' HO216.out).2.1)
  rintro e w25 ⟨v221, rfl, ho0, hb⟩; refine ⟨_, rfl, ?_⟩; have HO222 := Aside0.mk (Kd.R_lower (Kd.R_new' (Kd.R_new' (Kd.R_new' ho0 (Kd.R_lt (rz HO213))) (Kd.R_lt (rz HO216))) (Kd.R_lt (rz HO219))) sz); replace HO213 := Aside0.mk (Kd.R_elder' (rz HO213) (Kd.R_base ho0) hb); replace HO216 := Aside0.mk (Kd.R_elder' (rz HO216) (Kd.R_base ho0) hb); replace HO219 := Aside0.mk (Kd.R_elder' (rz HO219) (Kd.R_base ho0) hb); replace BK208 := kb BK208 hb; replace BK209 := kb BK209 hb; replace BK210 := kb BK210 hb; replace HB := bp hb; clear hb ho0; obtain ⟨Ao26, co26, eo26⟩ := Kd.R_slice HO219.out
  (first | subst eo26 | (injection eo26 with f1_ f2_ f3_; have f4_ := f1_.symm; have f5_ := f3_.symm; clear f1_ f2_ f3_; subst f4_; subst f5_))
  obtain ⟨Ao27, co27, eo27⟩ := Kd.R_slice HO222.out
  (first | subst eo27 | (injection eo27 with f1_ f2_ f3_; have f4_ := f1_.symm; have f5_ := f3_.symm; clear f1_ f2_ f3_; subst f4_; subst f5_))
  refine hK.out _ _ ⟨ct BK208 0, ct BK208 1, ct BK208 2⟩ (fun hHeld => ?_); clear hK K; refine zM 32 ?_; refine zP 6 34 8 127 ?_; refine zN 7 none 8 255 (fun K hK => ?_); have hs28 : w25.cell? ⟨gb210, 0, none⟩ = some (.bool false) := ct BK210 0; have hfs28 := blk_frozen BK210.out 0; have hns28_0 := NB208_210.out; have hns28_1 := NB209_210.out; have hms28_0 := NB210_208.out; have hms28_1 := NB210_209.out; have hs29 : w25.cell? ⟨gb210, 1, none⟩ = some (.slice none 0 0) := ct BK210 1; have hfs29 := blk_frozen BK210.out 1; have hns29_0 := NB208_210.out; have hns29_1 := NB209_210.out; have hms29_0 := NB210_208.out; have hms29_1 := NB210_209.out; have hs30 : w25.cell? ⟨gb210, 2, none⟩ = some (.slice none 0 0) := ct BK210 2; have hfs30 := blk_frozen BK210.out 2; have hns30_0 := NB208_210.out; have hns30_1 := NB209_210.out; have hms30_0 := NB210_208.out; have hms30_1 := NB210_209.out; refine skip_ (w1 := ?_) (by rfl) rfl ?_ ?_
  rotate_left
  ·go_simp
   rfl
  refine hK.out _ _ ⟨((cell_far (p := ⟨gb210, _, none⟩) NB208_210.out _).trans (((cell_far (p := ⟨gb210, _, none⟩) NB208_210.out _).trans (((cell_far (p := ⟨gb210, _, none⟩) NB208_210.out _).trans (hHeld.1)))))), ((cell_far (p := ⟨gb210, _, none⟩) NB208_210.out _).trans (((cell_far (p := ⟨gb210, _, none⟩) NB208_210.out _).trans (((cell_far (p := ⟨gb210, _, none⟩) NB208_210.out _).trans (hHeld.2.1)))))), ((cell_far (p := ⟨gb210, _, none⟩) NB208_210.out _).trans (((cell_far (p := ⟨gb210, _, none⟩) NB208_210.out _).trans (((cell_far (p := ⟨gb210, _, none⟩) NB208_210.out _).trans (hHeld.2.2))))))⟩ (fun hHeld => ?_); clear hK K; refine done_ (by kernel_rfl) ?_
  try go_wp2
  refine bodyPost_ret (results_cell_row rfl _ _ gb210 95 #[.bool a0_0, .slice Ao27 t220.length co27, .slice Ao26 t217.length co26] (0, 0) _ rfl (by (with_reducible repeat (first | refine blk_drewN ?_ _ | refine blk_drew ?_ | refine blk_alloc ?_ _)); refine blk_put (cs := #[.bool a0_0, .slice Ao27 t220.length co27, .slice none 0 0]) ?_ 2 _ rfl; (with_reducible repeat (first | refine blk_drewN ?_ _ | refine blk_drew ?_ | refine blk_alloc ?_ _)); refine blk_put (cs := #[.bool a0_0, .slice none 0 0, .slice none 0 0]) ?_ 1 _ rfl; (with_reducible repeat (first | refine blk_drewN ?_ _ | refine blk_drew ?_ | refine blk_alloc ?_ _)); refine blk_put (cs := #[.bool false, .slice none 0 0, .slice none 0 0]) ?_ 0 _ rfl; (with_reducible repeat (first | refine blk_drewN ?_ _ | refine blk_drew ?_ | refine blk_alloc ?_ _)); exact BK210.out) Try.underlying95 rfl (by kernel_rfl)) rfl ?_
  exact ⟨_, _, ez, by (with_reducible repeat (first | apply Kd.R_alloc | apply Kd.R_drewN | apply Kd.R_drew)); exact Kd.R_mono (Kd.R_far (p := ⟨gb210, 2, none⟩) (Kd.R_far (p := ⟨gb210, 1, none⟩) (Kd.R_far (p := ⟨gb210, 0, none⟩) (Kd.R_types HO222.out BK210.out (by decide)) (fun _ hk => hk.2) (.bool a0_0)) (fun _ hk => hk.2) (.slice Ao27 t220.length co27)) (fun _ hk => hk.2) (.slice Ao26 t217.length co26)) (fun _ hk => hk.1.2), by (with_reducible repeat (first | apply Kd.R_alloc | apply Kd.R_drewN | apply Kd.R_drew)); exact Kd.R_mono (Kd.R_far (p := ⟨gb210, 2, none⟩) (Kd.R_far (p := ⟨gb210, 1, none⟩) (Kd.R_far (p := ⟨gb210, 0, none⟩) (Kd.R_types HO219.out BK210.out (by decide)) (fun _ hk => hk.2) (.bool a0_0)) (fun _ hk => hk.2) (.slice Ao27 t220.length co27)) (fun _ hk => hk.2) (.slice Ao26 t217.length co26)) (fun _ hk => hk.1.2), bz⟩
 ·rw [if_neg c6] at H; have c6b0 : (a0_0 == a1_0) = false := by simpa using c6
  (try (have c6b1 : decide (a0_0 = a1_0) = false := by simpa using c6))
  (try (have c6b2 : (a0_0 == a1_0) = false := by simpa using c6))
  (try (have c6b3 : ¬ (a0_0 = a1_0) := by simpa using c6))
  clear c6; obtain ⟨t223, A31, H⟩ := ob H
  by_cases c32 : t223 ≥ 0
  ·rw [if_pos c32] at H; have c32b0 : decide (0 ≤ t223) = true := decide_eq_true c32; clear c32; obtain ⟨t224, A33, H⟩ := ob H; simp only [Option.some.injEq, Prod.mk.injEq] at H; obtain ⟨rfl, rfl, rfl⟩ := H
   go_enter Try.func98, Try.ntmps98
   try go_wp2_with (first | ((with_reducible refine gate_dst (N := 2) rfl ?_); refine zB 2 95 #[.bool a0_0, .slice A0_1 l0_1.length c0_1, .slice A0_2 l0_2.length c0_2] ?_; intro gb208 hg w34 hbox hb; have BK208 := Aside0.mk hbox; have GW208 := gz hg; have GE208 := gz hg; replace HB := bp hb; clear hb hbox hg) | ((with_reducible refine gate_dst (N := 3) rfl ?_); refine zB 3 95 #[.bool a1_0, .slice A1_1 l1_1.length c1_1, .slice A1_2 l1_2.length c1_2] ?_; intro gb209 hg w35 hbox hb; have BK209 := Aside0.mk hbox; have GW209 := gz hg; have GE209 := gz hg; replace HB := bp hb; have NB208_209 := Aside0.mk ((by rw [hg]; exact Nat.ne_of_lt (bl BK208) : gb208 ≠ gb209)); have NB209_208 := Aside0.mk ((by rw [hg]; exact Nat.ne_of_gt (bl BK208) : gb209 ≠ gb208)); replace BK208 := kb BK208 hb; clear hb hbox hg) | ((with_reducible refine gate_dst (N := 4) rfl ?_); refine zB 4 95 #[.bool false, .slice none 0 0, .slice none 0 0] ?_; intro gb210 hg w36 hbox hb; have BK210 := Aside0.mk hbox; have GW210 := gz hg; have GE210 := gz hg; replace HB := bp hb; have NB208_210 := Aside0.mk ((by rw [hg]; exact Nat.ne_of_lt (bl BK208) : gb208 ≠ gb210)); have NB210_208 := Aside0.mk ((by rw [hg]; exact Nat.ne_of_gt (bl BK208) : gb210 ≠ gb208)); replace BK208 := kb BK208 hb; have NB209_210 := Aside0.mk ((by rw [hg]; exact Nat.ne_of_lt (bl BK209) : gb209 ≠ gb210)); have NB210_209 := Aside0.mk ((by rw [hg]; exact Nat.ne_of_gt (bl BK209) : gb210 ≠ gb209)); replace BK209 := kb BK209 hb; clear hb hbox hg))
   replace BK208 := Aside0.mk (blk_drew BK208.out); replace BK209 := Aside0.mk (blk_drew BK209.out); replace BK210 := Aside0.mk (blk_drew BK210.out); replace HB := Aside0.mk (below_drew1 HB.out); refine start_ (n := 12) (S := fun w' => w'.cell? ⟨gb208, 0, none⟩ = some (.bool a0_0) ∧ w'.cell? ⟨gb208, 1, none⟩ = some (.slice A0_1 l0_1.length c0_1) ∧ w'.cell? ⟨gb208, 2, none⟩ = some (.slice A0_2 l0_2.length c0_2) ∧ w'.cell? ⟨gb209, 0, none⟩ = some (.bool a1_0) ∧ w'.cell? ⟨gb209, 1, none⟩ = some (.slice A1_1 l1_1.length c1_1) ∧ w'.cell? ⟨gb209, 2, none⟩ = some (.slice A1_2 l1_2.length c1_2)) (ds := []) (bs 12 0) (by kernel_rfl) rfl rfl ⟨ct BK208 0, ct BK208 1, ct BK208 2, ct BK209 0, ct BK209 1, ct BK209 2⟩ (fun hHeld => ?_)
   generalize w36.drew = w37 at BK208 BK209 BK210 HB hHeld ⊢; refine zP 0 8 12 1 ?_; refine zP 2 10 12 5 ?_; refine zP 5 13 12 37 ?_; refine zP 7 15 12 165 ?_; refine zT 1 9 12 167 hHeld ?_; refine zT 3 11 12 175 hHeld ?_; refine zT 6 14 12 239 hHeld ?_; refine zT 8 16 12 495 hHeld ?_; refine zN 4 (some 12) 12 511 (fun K hK => ?_); refine zG Try.func124 #[.slice A0_1 l0_1.length c0_1, .slice A1_2 l1_2.length c1_2] ?_
   with_reducible refine (dioramaref02_Times.calls k _ _ l0_1 _ _ l1_2 t211 _ ?side1 ?side2 ?side3 ?side4 A3.out).mono ?_
   (case side1 => exact cz HR0_1)
   (case side2 => exact HC0_1.out)
   (case side3 => exact cz HR1_2)
   (case side4 => exact HC1_2.out)
   rintro e w38 ⟨v212, rfl, ho0, hb⟩; refine ⟨_, rfl, ?_⟩; have HO213 := Aside0.mk (Kd.R_lower ho0 sz); replace BK208 := kb BK208 hb; replace BK209 := kb BK209 hb; replace BK210 := kb BK210 hb; replace HB := bp hb; clear hb ho0; refine hK.out _ _ ⟨ct BK208 0, ct BK208 1, ct BK208 2, ct BK209 0, ct BK209 1, ct BK209 2⟩ (fun hHeld => ?_); clear hK K; refine zM 12 ?_; refine zN 9 (some 17) 12 1023 (fun K hK => ?_); refine zG Try.func124 #[.slice A1_1 l1_1.length c1_1, .slice A0_2 l0_2.length c0_2] ?_
   with_reducible refine (dioramaref02_Times.calls k _ _ l1_1 _ _ l0_2 t214 _ ?side1 ?side2 ?side3 ?side4 A4.out).mono ?_
   (case side1 => exact cz HR1_1)
   (case side2 => exact HC1_1.out)
   (case side3 => exact cz HR0_2)
   (case side4 => exact HC0_2.out)
   rintro e w39 ⟨v215, rfl, ho0, hb⟩; refine ⟨_, rfl, ?_⟩; have HO216 := Aside0.mk (Kd.R_lower (Kd.R_new' ho0 (Kd.R_lt (rz HO213))) sz); replace HO213 := Aside0.mk (Kd.R_elder' (rz HO213) (Kd.R_base ho0) hb); replace BK208 := kb BK208 hb; replace BK209 := kb BK209 hb; replace BK210 := kb BK210 hb; replace HB := bp hb; clear hb ho0; refine hK.out _ _ ⟨ct BK208 0, ct BK208 1, ct BK208 2, ct BK209 0, ct BK209 1, ct BK209 2⟩ (fun hHeld => ?_); clear hK K; refine zM 17 ?_; refine zP 10 5 12 2047 ?_; refine zP 11 6 12 4095 ?_; refine done_ (by kernel_rfl) ?_; have hnb40 := NB208_209.out; have hnc40 := NB209_208.out; have hnb41 := NB208_210.out; have hnc41 := NB210_208.out; obtain ⟨hcz42_0, hcz42_1, hcz42_2, hfz42_0, hfz42_1, hfz42_2⟩ := xc3 BK208; have hnb43 := NB209_210.out; have hnc43 := NB210_209.out; obtain ⟨hcz44_0, hcz44_1, hcz44_2, hfz44_0, hfz44_1, hfz44_2⟩ := xc3 BK209
   try go_wp2_with (first | ((with_reducible refine gate_callee (f := 124) rfl ?_); refine zC 22 Try.func124 #[.slice A0_2 l0_2.length c0_2, .slice A1_2 l1_2.length c1_2] ?_; (with_reducible refine (dioramaref02_Times.calls k _ _ l0_2 _ _ l1_2 t217 _ ?side1 ?side2 ?side3 ?side4 A5.out).mono ?_); (case side1 => exact cz HR0_2); (case side2 => exact HC0_2.out); (case side3 => exact cz HR1_2); (case side4 => exact HC1_2.out); rintro e w45 ⟨v218, rfl, ho0, hb⟩; refine ⟨_, rfl, ?_⟩; have HO219 := Aside0.mk (Kd.R_lower (Kd.R_new' (Kd.R_new' ho0 (Kd.R_lt (rz HO213))) (Kd.R_lt (rz HO216))) sz); replace HO213 := Aside0.mk (Kd.R_elder' (rz HO213) (Kd.R_base ho0) hb); replace HO216 := Aside0.mk (Kd.R_elder' (rz HO216) (Kd.R_base ho0) hb); replace BK208 := kb BK208 hb; replace BK209 := kb BK209 hb; replace BK210 := kb BK210 hb; replace HB := bp hb; clear hb ho0; obtain ⟨hcz46_0, hcz46_1, hcz46_2, hfz46_0, hfz46_1, hfz46_2⟩ := xc3 BK208; obtain ⟨hcz47_0, hcz47_1, hcz47_2, hfz47_0, hfz47_1, hfz47_2⟩ := xc3 BK209; obtain ⟨Ao48, co48, eo48⟩ := Kd.R_slice HO213.out; subst eo48; obtain ⟨Ao49, co49, eo49⟩ := Kd.R_slice HO216.out; subst eo49) | ((with_reducible refine gate_callee (f := 122) rfl ?_); refine zC 37 Try.func122 #[.slice Ao48 t211.length co48, .slice Ao49 t214.length co49] ?_; (with_reducible refine (dioramaref02_Compare.calls k _ _ t211 _ _ t214 t223 _ ?side1 ?side2 ?side3 ?side4 A31.out).mono ?_); (case side1 => exact cr HO213); (case side2 => exact (Kd.R_reads' HO213.out).2.1); (case side3 => exact cr HO216); (case side4 => exact (Kd.R_reads' HO216.out).2.1); rintro e w' ⟨rfl, ⟨nd, rfl⟩⟩; refine ⟨_, rfl, ?_⟩; (try (rw [drewN_self w45]; generalize hq_ : World.drewN w45 _ = w45; have n0_ : Aside0 (Kd.R (Kd.int .i64) 3 w45 w.heap.size (fun k_ => some k_ ≠ (.slice Ao49 t214.length co49 : Value).ownBlock ∧ some k_ ≠ (v218 : Value).ownBlock) (.slice Ao48 t211.length co48) t211) := ⟨by rw [← hq_]; exact (by (with_reducible repeat (first | apply Kd.R_alloc | apply Kd.R_drewN | apply Kd.R_drew)); exact Kd.R_mono HO213.out (fun _ hk => ⟨hk.1.2, hk.2⟩))⟩; have n1_ : Aside0 (Kd.R (Kd.int .i64) 3 w45 w.heap.size (fun k_ => some k_ ≠ (.slice Ao48 t211.length co48 : Value).ownBlock ∧ some k_ ≠ (v218 : Value).ownBlock) (.slice Ao49 t214.length co49) t214) := ⟨by rw [← hq_]; exact (by (with_reducible repeat (first | apply Kd.R_alloc | apply Kd.R_drewN | apply Kd.R_drew)); exact Kd.R_mono HO216.out (fun _ hk => ⟨hk.1.2, hk.2⟩))⟩; have n2_ : Aside0 (Kd.R (Kd.int .i64) 3 w45 w.heap.size (fun k_ => some k_ ≠ (.slice Ao48 t211.length co48 : Value).ownBlock ∧ some k_ ≠ (.slice Ao49 t214.length co49 : Value).ownBlock) v218 t217) := ⟨by rw [← hq_]; exact (by (with_reducible repeat (first | apply Kd.R_alloc | apply Kd.R_drewN | apply Kd.R_drew)); exact Kd.R_mono HO219.out (fun _ hk => ⟨hk.1.2, hk.2⟩))⟩; have n3_ : Aside0 (w45.heap[gb208]? = some (.cells #[.bool a0_0, .slice A0_1 l0_1.length c0_1, .slice A0_2 l0_2.length c0_2] 95 (0, 0))) := ⟨by rw [← hq_]; exact kz⟩; have n4_ : Aside0 (w45.heap[gb209]? = some (.cells #[.bool a1_0, .slice A1_1 l1_1.length c1_1, .slice A1_2 l1_2.length c1_2] 95 (0, 0))) := ⟨by rw [← hq_]; exact kz⟩; have n5_ : Aside0 (w45.heap[gb210]? = some (.cells #[.bool false, .slice none 0 0, .slice none 0 0] 95 (0, 0))) := ⟨by rw [← hq_]; exact kz⟩; have n6_ : Aside0 (Below w.heap.size w w45) := ⟨by rw [← hq_]; exact bz⟩; clear HO213 HO216 HO219 BK208 BK209 BK210 HB hq_; have HO213 := n0_; have HO216 := n1_; have HO219 := n2_; have BK208 := n3_; have BK209 := n4_; have BK210 := n5_; have HB := n6_; clear n0_ n1_ n2_ n3_ n4_ n5_ n6_))))
   replace HO213 := Aside0.mk (Kd.R_drew HO213.out); replace HO216 := Aside0.mk (Kd.R_drew HO216.out); replace HO219 := Aside0.mk (Kd.R_drew HO219.out); replace BK208 := Aside0.mk (blk_drew BK208.out); replace BK209 := Aside0.mk (blk_drew BK209.out); replace BK210 := Aside0.mk (blk_drew BK210.out); replace HB := Aside0.mk (below_drew1 HB.out); refine start_ (n := 8) (S := fun w' => w'.cell? ⟨gb208, 0, none⟩ = some (.bool a0_0) ∧ w'.cell? ⟨gb208, 1, none⟩ = some (.slice A0_1 l0_1.length c0_1) ∧ w'.cell? ⟨gb208, 2, none⟩ = some (.slice A0_2 l0_2.length c0_2)) (ds := []) (bs 8 0) (by kernel_rfl) rfl rfl ⟨ct BK208 0, ct BK208 1, ct BK208 2⟩ (fun hHeld => ?_)
   generalize w45.drew = w50 at HO213 HO216 HO219 BK208 BK209 BK210 HB hHeld ⊢; refine zP 0 39 8 1 ?_; refine zP 2 41 8 5 ?_; refine zP 3 42 8 13 ?_; refine zP 5 44 8 45 ?_; refine zT 1 40 8 47 hHeld ?_; refine zN 4 (some 43) 8 63 (fun K hK => ?_); refine zG Try.func138 #[.slice Ao48 t211.length co48, .slice Ao49 t214.length co49] ?_
   with_reducible refine (dioramaref02_Minus.calls k _ _ t211 _ _ t214 t224 _ ?side1 ?side2 ?side3 ?side4 A33.out).mono ?_
   (case side1 => exact cr HO213)
   (case side2 => exact (Kd.R_reads' HO213.out).2.1)
   (case side3 => exact cr HO216)
   (case side4 => exact (Kd.R_reads' HO216.out).2.1)
   rintro e w51 ⟨v225, rfl, ho0, hb⟩; refine ⟨_, rfl, ?_⟩; have HO226 := Aside0.mk (Kd.R_lower (Kd.R_new' (Kd.R_new' (Kd.R_new' ho0 (Kd.R_lt (rz HO213))) (Kd.R_lt (rz HO216))) (Kd.R_lt (rz HO219))) sz); replace HO213 := Aside0.mk (Kd.R_elder' (rz HO213) (Kd.R_base ho0) hb); replace HO216 := Aside0.mk (Kd.R_elder' (rz HO216) (Kd.R_base ho0) hb); replace HO219 := Aside0.mk (Kd.R_elder' (rz HO219) (Kd.R_base ho0) hb); replace BK208 := kb BK208 hb; replace BK209 := kb BK209 hb; replace BK210 := kb BK210 hb; replace HB := bp hb; clear hb ho0; obtain ⟨Ao52, co52, eo52⟩ := Kd.R_slice HO219.out
   (first | subst eo52 | (injection eo52 with f1_ f2_ f3_; have f4_ := f1_.symm; have f5_ := f3_.symm; clear f1_ f2_ f3_; subst f4_; subst f5_))
   obtain ⟨Ao53, co53, eo53⟩ := Kd.R_slice HO226.out
   (first | subst eo53 | (injection eo53 with f1_ f2_ f3_; have f4_ := f1_.symm; have f5_ := f3_.symm; clear f1_ f2_ f3_; subst f4_; subst f5_))
   refine hK.out _ _ ⟨ct BK208 0, ct BK208 1, ct BK208 2⟩ (fun hHeld => ?_); clear hK K; refine zM 43 ?_; refine zP 6 45 8 127 ?_; refine zN 7 none 8 255 (fun K hK => ?_); have hs54 : w51.cell? ⟨gb210, 0, none⟩ = some (.bool false) := ct BK210 0; have hfs54 := blk_frozen BK210.out 0; have hns54_0 := NB208_210.out; have hns54_1 := NB209_210.out; have hms54_0 := NB210_208.out; have hms54_1 := NB210_209.out; have hs55 : w51.cell? ⟨gb210, 1, none⟩ = some (.slice none 0 0) := ct BK210 1; have hfs55 := blk_frozen BK210.out 1; have hns55_0 := NB208_210.out; have hns55_1 := NB209_210.out; have hms55_0 := NB210_208.out; have hms55_1 := NB210_209.out; have hs56 : w51.cell? ⟨gb210, 2, none⟩ = some (.slice none 0 0) := ct BK210 2; have hfs56 := blk_frozen BK210.out 2; have hns56_0 := NB208_210.out; have hns56_1 := NB209_210.out; have hms56_0 := NB210_208.out; have hms56_1 := NB210_209.out; refine skip_ (w1 := ?_) (by rfl) rfl ?_ ?_
   rotate_left
   ·go_simp
    rfl
   refine hK.out _ _ ⟨((cell_far (p := ⟨gb210, _, none⟩) NB208_210.out _).trans (((cell_far (p := ⟨gb210, _, none⟩) NB208_210.out _).trans (((cell_far (p := ⟨gb210, _, none⟩) NB208_210.out _).trans (hHeld.1)))))), ((cell_far (p := ⟨gb210, _, none⟩) NB208_210.out _).trans (((cell_far (p := ⟨gb210, _, none⟩) NB208_210.out _).trans (((cell_far (p := ⟨gb210, _, none⟩) NB208_210.out _).trans (hHeld.2.1)))))), ((cell_far (p := ⟨gb210, _, none⟩) NB208_210.out _).trans (((cell_far (p := ⟨gb210, _, none⟩) NB208_210.out _).trans (((cell_far (p := ⟨gb210, _, none⟩) NB208_210.out _).trans (hHeld.2.2))))))⟩ (fun hHeld => ?_); clear hK K; refine done_ (by kernel_rfl) ?_
   try go_wp2
   refine bodyPost_ret (results_cell_row rfl _ _ gb210 95 #[.bool a0_0, .slice Ao53 t224.length co53, .slice Ao52 t217.length co52] (0, 0) _ rfl (by (with_reducible repeat (first | refine blk_drewN ?_ _ | refine blk_drew ?_ | refine blk_alloc ?_ _)); refine blk_put (cs := #[.bool a0_0, .slice Ao53 t224.length co53, .slice none 0 0]) ?_ 2 _ rfl; (with_reducible repeat (first | refine blk_drewN ?_ _ | refine blk_drew ?_ | refine blk_alloc ?_ _)); refine blk_put (cs := #[.bool a0_0, .slice none 0 0, .slice none 0 0]) ?_ 1 _ rfl; (with_reducible repeat (first | refine blk_drewN ?_ _ | refine blk_drew ?_ | refine blk_alloc ?_ _)); refine blk_put (cs := #[.bool false, .slice none 0 0, .slice none 0 0]) ?_ 0 _ rfl; (with_reducible repeat (first | refine blk_drewN ?_ _ | refine blk_drew ?_ | refine blk_alloc ?_ _)); exact BK210.out) Try.underlying95 rfl (by kernel_rfl)) rfl ?_
   exact ⟨_, _, ez, by (with_reducible repeat (first | apply Kd.R_alloc | apply Kd.R_drewN | apply Kd.R_drew)); exact Kd.R_mono (Kd.R_far (p := ⟨gb210, 2, none⟩) (Kd.R_far (p := ⟨gb210, 1, none⟩) (Kd.R_far (p := ⟨gb210, 0, none⟩) (Kd.R_types HO226.out BK210.out (by decide)) (fun _ hk => hk.2) (.bool a0_0)) (fun _ hk => hk.2) (.slice Ao53 t224.length co53)) (fun _ hk => hk.2) (.slice Ao52 t217.length co52)) (fun _ hk => hk.1.2), by (with_reducible repeat (first | apply Kd.R_alloc | apply Kd.R_drewN | apply Kd.R_drew)); exact Kd.R_mono (Kd.R_far (p := ⟨gb210, 2, none⟩) (Kd.R_far (p := ⟨gb210, 1, none⟩) (Kd.R_far (p := ⟨gb210, 0, none⟩) (Kd.R_types HO219.out BK210.out (by decide)) (fun _ hk => hk.2) (.bool a0_0)) (fun _ hk => hk.2) (.slice Ao53 t224.length co53)) (fun _ hk => hk.2) (.slice Ao52 t217.length co52)) (fun _ hk => hk.1.2), bz⟩
  ·rw [if_neg c32] at H; have c32b0 : decide (0 ≤ t223) = false := decide_eq_false c32; clear c32; obtain ⟨t227, A57, H⟩ := ob H; simp only [Option.some.injEq, Prod.mk.injEq] at H; obtain ⟨rfl, rfl, rfl⟩ := H
   go_enter Try.func98, Try.ntmps98
   try go_wp2_with (first | ((with_reducible refine gate_dst (N := 2) rfl ?_); refine zB 2 95 #[.bool a0_0, .slice A0_1 l0_1.length c0_1, .slice A0_2 l0_2.length c0_2] ?_; intro gb208 hg w58 hbox hb; have BK208 := Aside0.mk hbox; have GW208 := gz hg; have GE208 := gz hg; replace HB := bp hb; clear hb hbox hg) | ((with_reducible refine gate_dst (N := 3) rfl ?_); refine zB 3 95 #[.bool a1_0, .slice A1_1 l1_1.length c1_1, .slice A1_2 l1_2.length c1_2] ?_; intro gb209 hg w59 hbox hb; have BK209 := Aside0.mk hbox; have GW209 := gz hg; have GE209 := gz hg; replace HB := bp hb; have NB208_209 := Aside0.mk ((by rw [hg]; exact Nat.ne_of_lt (bl BK208) : gb208 ≠ gb209)); have NB209_208 := Aside0.mk ((by rw [hg]; exact Nat.ne_of_gt (bl BK208) : gb209 ≠ gb208)); replace BK208 := kb BK208 hb; clear hb hbox hg) | ((with_reducible refine gate_dst (N := 4) rfl ?_); refine zB 4 95 #[.bool false, .slice none 0 0, .slice none 0 0] ?_; intro gb210 hg w60 hbox hb; have BK210 := Aside0.mk hbox; have GW210 := gz hg; have GE210 := gz hg; replace HB := bp hb; have NB208_210 := Aside0.mk ((by rw [hg]; exact Nat.ne_of_lt (bl BK208) : gb208 ≠ gb210)); have NB210_208 := Aside0.mk ((by rw [hg]; exact Nat.ne_of_gt (bl BK208) : gb210 ≠ gb208)); replace BK208 := kb BK208 hb; have NB209_210 := Aside0.mk ((by rw [hg]; exact Nat.ne_of_lt (bl BK209) : gb209 ≠ gb210)); have NB210_209 := Aside0.mk ((by rw [hg]; exact Nat.ne_of_gt (bl BK209) : gb210 ≠ gb209)); replace BK209 := kb BK209 hb; clear hb hbox hg))
   replace BK208 := Aside0.mk (blk_drew BK208.out); replace BK209 := Aside0.mk (blk_drew BK209.out); replace BK210 := Aside0.mk (blk_drew BK210.out); replace HB := Aside0.mk (below_drew1 HB.out); refine start_ (n := 12) (S := fun w' => w'.cell? ⟨gb208, 0, none⟩ = some (.bool a0_0) ∧ w'.cell? ⟨gb208, 1, none⟩ = some (.slice A0_1 l0_1.length c0_1) ∧ w'.cell? ⟨gb208, 2, none⟩ = some (.slice A0_2 l0_2.length c0_2) ∧ w'.cell? ⟨gb209, 0, none⟩ = some (.bool a1_0) ∧ w'.cell? ⟨gb209, 1, none⟩ = some (.slice A1_1 l1_1.length c1_1) ∧ w'.cell? ⟨gb209, 2, none⟩ = some (.slice A1_2 l1_2.length c1_2)) (ds := []) (bs 12 0) (by kernel_rfl) rfl rfl ⟨ct BK208 0, ct BK208 1, ct BK208 2, ct BK209 0, ct BK209 1, ct BK209 2⟩ (fun hHeld => ?_)
   generalize w60.drew = w61 at BK208 BK209 BK210 HB hHeld ⊢; refine zP 0 8 12 1 ?_; refine zP 2 10 12 5 ?_; refine zP 5 13 12 37 ?_; refine zP 7 15 12 165 ?_; refine zT 1 9 12 167 hHeld ?_; refine zT 3 11 12 175 hHeld ?_; refine zT 6 14 12 239 hHeld ?_; refine zT 8 16 12 495 hHeld ?_; refine zN 4 (some 12) 12 511 (fun K hK => ?_); refine zG Try.func124 #[.slice A0_1 l0_1.length c0_1, .slice A1_2 l1_2.length c1_2] ?_
   with_reducible refine (dioramaref02_Times.calls k _ _ l0_1 _ _ l1_2 t211 _ ?side1 ?side2 ?side3 ?side4 A3.out).mono ?_
   (case side1 => exact cz HR0_1)
   (case side2 => exact HC0_1.out)
   (case side3 => exact cz HR1_2)
   (case side4 => exact HC1_2.out)
   rintro e w62 ⟨v212, rfl, ho0, hb⟩; refine ⟨_, rfl, ?_⟩; have HO213 := Aside0.mk (Kd.R_lower ho0 sz); replace BK208 := kb BK208 hb; replace BK209 := kb BK209 hb; replace BK210 := kb BK210 hb; replace HB := bp hb; clear hb ho0; refine hK.out _ _ ⟨ct BK208 0, ct BK208 1, ct BK208 2, ct BK209 0, ct BK209 1, ct BK209 2⟩ (fun hHeld => ?_); clear hK K; refine zM 12 ?_; refine zN 9 (some 17) 12 1023 (fun K hK => ?_); refine zG Try.func124 #[.slice A1_1 l1_1.length c1_1, .slice A0_2 l0_2.length c0_2] ?_
   with_reducible refine (dioramaref02_Times.calls k _ _ l1_1 _ _ l0_2 t214 _ ?side1 ?side2 ?side3 ?side4 A4.out).mono ?_
   (case side1 => exact cz HR1_1)
   (case side2 => exact HC1_1.out)
   (case side3 => exact cz HR0_2)
   (case side4 => exact HC0_2.out)
   rintro e w63 ⟨v215, rfl, ho0, hb⟩; refine ⟨_, rfl, ?_⟩; have HO216 := Aside0.mk (Kd.R_lower (Kd.R_new' ho0 (Kd.R_lt (rz HO213))) sz); replace HO213 := Aside0.mk (Kd.R_elder' (rz HO213) (Kd.R_base ho0) hb); replace BK208 := kb BK208 hb; replace BK209 := kb BK209 hb; replace BK210 := kb BK210 hb; replace HB := bp hb; clear hb ho0; refine hK.out _ _ ⟨ct BK208 0, ct BK208 1, ct BK208 2, ct BK209 0, ct BK209 1, ct BK209 2⟩ (fun hHeld => ?_); clear hK K; refine zM 17 ?_; refine zP 10 5 12 2047 ?_; refine zP 11 6 12 4095 ?_; refine done_ (by kernel_rfl) ?_; have hnb64 := NB208_209.out; have hnc64 := NB209_208.out; have hnb65 := NB208_210.out; have hnc65 := NB210_208.out; obtain ⟨hcz66_0, hcz66_1, hcz66_2, hfz66_0, hfz66_1, hfz66_2⟩ := xc3 BK208; have hnb67 := NB209_210.out; have hnc67 := NB210_209.out; obtain ⟨hcz68_0, hcz68_1, hcz68_2, hfz68_0, hfz68_1, hfz68_2⟩ := xc3 BK209
   try go_wp2_with (first | ((with_reducible refine gate_callee (f := 124) rfl ?_); refine zC 22 Try.func124 #[.slice A0_2 l0_2.length c0_2, .slice A1_2 l1_2.length c1_2] ?_; (with_reducible refine (dioramaref02_Times.calls k _ _ l0_2 _ _ l1_2 t217 _ ?side1 ?side2 ?side3 ?side4 A5.out).mono ?_); (case side1 => exact cz HR0_2); (case side2 => exact HC0_2.out); (case side3 => exact cz HR1_2); (case side4 => exact HC1_2.out); rintro e w69 ⟨v218, rfl, ho0, hb⟩; refine ⟨_, rfl, ?_⟩; have HO219 := Aside0.mk (Kd.R_lower (Kd.R_new' (Kd.R_new' ho0 (Kd.R_lt (rz HO213))) (Kd.R_lt (rz HO216))) sz); replace HO213 := Aside0.mk (Kd.R_elder' (rz HO213) (Kd.R_base ho0) hb); replace HO216 := Aside0.mk (Kd.R_elder' (rz HO216) (Kd.R_base ho0) hb); replace BK208 := kb BK208 hb; replace BK209 := kb BK209 hb; replace BK210 := kb BK210 hb; replace HB := bp hb; clear hb ho0; obtain ⟨hcz70_0, hcz70_1, hcz70_2, hfz70_0, hfz70_1, hfz70_2⟩ := xc3 BK208; obtain ⟨hcz71_0, hcz71_1, hcz71_2, hfz71_0, hfz71_1, hfz71_2⟩ := xc3 BK209; obtain ⟨Ao72, co72, eo72⟩ := Kd.R_slice HO213.out; subst eo72; obtain ⟨Ao73, co73, eo73⟩ := Kd.R_slice HO216.out; subst eo73) | ((with_reducible refine gate_callee (f := 122) rfl ?_); refine zC 37 Try.func122 #[.slice Ao72 t211.length co72, .slice Ao73 t214.length co73] ?_; (with_reducible refine (dioramaref02_Compare.calls k _ _ t211 _ _ t214 t223 _ ?side1 ?side2 ?side3 ?side4 A31.out).mono ?_); (case side1 => exact cr HO213); (case side2 => exact (Kd.R_reads' HO213.out).2.1); (case side3 => exact cr HO216); (case side4 => exact (Kd.R_reads' HO216.out).2.1); rintro e w' ⟨rfl, ⟨nd, rfl⟩⟩; refine ⟨_, rfl, ?_⟩; (try (rw [drewN_self w69]; generalize hq_ : World.drewN w69 _ = w69; have n0_ : Aside0 (Kd.R (Kd.int .i64) 3 w69 w.heap.size (fun k_ => some k_ ≠ (.slice Ao73 t214.length co73 : Value).ownBlock ∧ some k_ ≠ (v218 : Value).ownBlock) (.slice Ao72 t211.length co72) t211) := ⟨by rw [← hq_]; exact (by (with_reducible repeat (first | apply Kd.R_alloc | apply Kd.R_drewN | apply Kd.R_drew)); exact Kd.R_mono HO213.out (fun _ hk => ⟨hk.1.2, hk.2⟩))⟩; have n1_ : Aside0 (Kd.R (Kd.int .i64) 3 w69 w.heap.size (fun k_ => some k_ ≠ (.slice Ao72 t211.length co72 : Value).ownBlock ∧ some k_ ≠ (v218 : Value).ownBlock) (.slice Ao73 t214.length co73) t214) := ⟨by rw [← hq_]; exact (by (with_reducible repeat (first | apply Kd.R_alloc | apply Kd.R_drewN | apply Kd.R_drew)); exact Kd.R_mono HO216.out (fun _ hk => ⟨hk.1.2, hk.2⟩))⟩; have n2_ : Aside0 (Kd.R (Kd.int .i64) 3 w69 w.heap.size (fun k_ => some k_ ≠ (.slice Ao72 t211.length co72 : Value).ownBlock ∧ some k_ ≠ (.slice Ao73 t214.length co73 : Value).ownBlock) v218 t217) := ⟨by rw [← hq_]; exact (by (with_reducible repeat (first | apply Kd.R_alloc | apply Kd.R_drewN | apply Kd.R_drew)); exact Kd.R_mono HO219.out (fun _ hk => ⟨hk.1.2, hk.2⟩))⟩; have n3_ : Aside0 (w69.heap[gb208]? = some (.cells #[.bool a0_0, .slice A0_1 l0_1.length c0_1, .slice A0_2 l0_2.length c0_2] 95 (0, 0))) := ⟨by rw [← hq_]; exact kz⟩; have n4_ : Aside0 (w69.heap[gb209]? = some (.cells #[.bool a1_0, .slice A1_1 l1_1.length c1_1, .slice A1_2 l1_2.length c1_2] 95 (0, 0))) := ⟨by rw [← hq_]; exact kz⟩; have n5_ : Aside0 (w69.heap[gb210]? = some (.cells #[.bool false, .slice none 0 0, .slice none 0 0] 95 (0, 0))) := ⟨by rw [← hq_]; exact kz⟩; have n6_ : Aside0 (Below w.heap.size w w69) := ⟨by rw [← hq_]; exact bz⟩; clear HO213 HO216 HO219 BK208 BK209 BK210 HB hq_; have HO213 := n0_; have HO216 := n1_; have HO219 := n2_; have BK208 := n3_; have BK209 := n4_; have BK210 := n5_; have HB := n6_; clear n0_ n1_ n2_ n3_ n4_ n5_ n6_))))
   replace HO213 := Aside0.mk (Kd.R_drew HO213.out); replace HO216 := Aside0.mk (Kd.R_drew HO216.out); replace HO219 := Aside0.mk (Kd.R_drew HO219.out); replace BK208 := Aside0.mk (blk_drew BK208.out); replace BK209 := Aside0.mk (blk_drew BK209.out); replace BK210 := Aside0.mk (blk_drew BK210.out); replace HB := Aside0.mk (below_drew1 HB.out); refine start_ (n := 8) (S := fun w' => w'.cell? ⟨gb209, 0, none⟩ = some (.bool a1_0) ∧ w'.cell? ⟨gb209, 1, none⟩ = some (.slice A1_1 l1_1.length c1_1) ∧ w'.cell? ⟨gb209, 2, none⟩ = some (.slice A1_2 l1_2.length c1_2)) (ds := []) (bs 8 0) (by kernel_rfl) rfl rfl ⟨ct BK209 0, ct BK209 1, ct BK209 2⟩ (fun hHeld => ?_)
   generalize w69.drew = w74 at HO213 HO216 HO219 BK208 BK209 BK210 HB hHeld ⊢; refine zP 0 46 8 1 ?_; refine zP 2 48 8 5 ?_; refine zP 3 49 8 13 ?_; refine zP 5 51 8 45 ?_; refine zT 1 47 8 47 hHeld ?_; refine zN 4 (some 50) 8 63 (fun K hK => ?_); refine zG Try.func138 #[.slice Ao73 t214.length co73, .slice Ao72 t211.length co72] ?_
   with_reducible refine (dioramaref02_Minus.calls k _ _ t214 _ _ t211 t227 _ ?side1 ?side2 ?side3 ?side4 A57.out).mono ?_
   (case side1 => exact cr HO216)
   (case side2 => exact (Kd.R_reads' HO216.out).2.1)
   (case side3 => exact cr HO213)
   (case side4 => exact (Kd.R_reads' HO213.out).2.1)
   rintro e w75 ⟨v228, rfl, ho0, hb⟩; refine ⟨_, rfl, ?_⟩; have HO229 := Aside0.mk (Kd.R_lower (Kd.R_new' (Kd.R_new' (Kd.R_new' ho0 (Kd.R_lt (rz HO213))) (Kd.R_lt (rz HO216))) (Kd.R_lt (rz HO219))) sz); replace HO213 := Aside0.mk (Kd.R_elder' (rz HO213) (Kd.R_base ho0) hb); replace HO216 := Aside0.mk (Kd.R_elder' (rz HO216) (Kd.R_base ho0) hb); replace HO219 := Aside0.mk (Kd.R_elder' (rz HO219) (Kd.R_base ho0) hb); replace BK208 := kb BK208 hb; replace BK209 := kb BK209 hb; replace BK210 := kb BK210 hb; replace HB := bp hb; clear hb ho0; obtain ⟨Ao76, co76, eo76⟩ := Kd.R_slice HO219.out
   (first | subst eo76 | (injection eo76 with f1_ f2_ f3_; have f4_ := f1_.symm; have f5_ := f3_.symm; clear f1_ f2_ f3_; subst f4_; subst f5_))
   obtain ⟨Ao77, co77, eo77⟩ := Kd.R_slice HO229.out
   (first | subst eo77 | (injection eo77 with f1_ f2_ f3_; have f4_ := f1_.symm; have f5_ := f3_.symm; clear f1_ f2_ f3_; subst f4_; subst f5_))
   refine hK.out _ _ ⟨ct BK209 0, ct BK209 1, ct BK209 2⟩ (fun hHeld => ?_); clear hK K; refine zM 50 ?_; refine zP 6 52 8 127 ?_; refine zN 7 none 8 255 (fun K hK => ?_); have hs78 : w75.cell? ⟨gb210, 0, none⟩ = some (.bool false) := ct BK210 0; have hfs78 := blk_frozen BK210.out 0; have hns78_0 := NB208_210.out; have hns78_1 := NB209_210.out; have hms78_0 := NB210_208.out; have hms78_1 := NB210_209.out; have hs79 : w75.cell? ⟨gb210, 1, none⟩ = some (.slice none 0 0) := ct BK210 1; have hfs79 := blk_frozen BK210.out 1; have hns79_0 := NB208_210.out; have hns79_1 := NB209_210.out; have hms79_0 := NB210_208.out; have hms79_1 := NB210_209.out; have hs80 : w75.cell? ⟨gb210, 2, none⟩ = some (.slice none 0 0) := ct BK210 2; have hfs80 := blk_frozen BK210.out 2; have hns80_0 := NB208_210.out; have hns80_1 := NB209_210.out; have hms80_0 := NB210_208.out; have hms80_1 := NB210_209.out; refine skip_ (w1 := ?_) (by rfl) rfl ?_ ?_
   rotate_left
   ·go_simp
    rfl
   refine hK.out _ _ ⟨((cell_far (p := ⟨gb210, _, none⟩) NB209_210.out _).trans (((cell_far (p := ⟨gb210, _, none⟩) NB209_210.out _).trans (((cell_far (p := ⟨gb210, _, none⟩) NB209_210.out _).trans (hHeld.1)))))), ((cell_far (p := ⟨gb210, _, none⟩) NB209_210.out _).trans (((cell_far (p := ⟨gb210, _, none⟩) NB209_210.out _).trans (((cell_far (p := ⟨gb210, _, none⟩) NB209_210.out _).trans (hHeld.2.1)))))), ((cell_far (p := ⟨gb210, _, none⟩) NB209_210.out _).trans (((cell_far (p := ⟨gb210, _, none⟩) NB209_210.out _).trans (((cell_far (p := ⟨gb210, _, none⟩) NB209_210.out _).trans (hHeld.2.2))))))⟩ (fun hHeld => ?_); clear hK K; refine done_ (by kernel_rfl) ?_
   try go_wp2
   refine bodyPost_ret (results_cell_row rfl _ _ gb210 95 #[.bool a1_0, .slice Ao77 t227.length co77, .slice Ao76 t217.length co76] (0, 0) _ rfl (by (with_reducible repeat (first | refine blk_drewN ?_ _ | refine blk_drew ?_ | refine blk_alloc ?_ _)); refine blk_put (cs := #[.bool a1_0, .slice Ao77 t227.length co77, .slice none 0 0]) ?_ 2 _ rfl; (with_reducible repeat (first | refine blk_drewN ?_ _ | refine blk_drew ?_ | refine blk_alloc ?_ _)); refine blk_put (cs := #[.bool a1_0, .slice none 0 0, .slice none 0 0]) ?_ 1 _ rfl; (with_reducible repeat (first | refine blk_drewN ?_ _ | refine blk_drew ?_ | refine blk_alloc ?_ _)); refine blk_put (cs := #[.bool false, .slice none 0 0, .slice none 0 0]) ?_ 0 _ rfl; (with_reducible repeat (first | refine blk_drewN ?_ _ | refine blk_drew ?_ | refine blk_alloc ?_ _)); exact BK210.out) Try.underlying95 rfl (by kernel_rfl)) rfl ?_
   exact ⟨_, _, ez, by (with_reducible repeat (first | apply Kd.R_alloc | apply Kd.R_drewN | apply Kd.R_drew)); exact Kd.R_mono (Kd.R_far (p := ⟨gb210, 2, none⟩) (Kd.R_far (p := ⟨gb210, 1, none⟩) (Kd.R_far (p := ⟨gb210, 0, none⟩) (Kd.R_types HO229.out BK210.out (by decide)) (fun _ hk => hk.2) (.bool a1_0)) (fun _ hk => hk.2) (.slice Ao77 t227.length co77)) (fun _ hk => hk.2) (.slice Ao76 t217.length co76)) (fun _ hk => hk.1.2), by (with_reducible repeat (first | apply Kd.R_alloc | apply Kd.R_drewN | apply Kd.R_drew)); exact Kd.R_mono (Kd.R_far (p := ⟨gb210, 2, none⟩) (Kd.R_far (p := ⟨gb210, 1, none⟩) (Kd.R_far (p := ⟨gb210, 0, none⟩) (Kd.R_types HO219.out BK210.out (by decide)) (fun _ hk => hk.2) (.bool a1_0)) (fun _ hk => hk.2) (.slice Ao77 t227.length co77)) (fun _ hk => hk.2) (.slice Ao76 t217.length co76)) (fun _ hk => hk.1.2), bz⟩
def dioramaref10_plus.f (k : Nat) (a0_0 : Bool) (l0_1 : List Int) (l0_2 : List Int) (a1_0 : Bool) (l1_1 : List Int) (l1_2 : List Int) : Option (Bool × List Int × List Int) := (dioramaref02_Sum.f k a0_0 l0_1 l0_2 a1_0 l1_1 l1_2).bind fun bt233 => (some (bt233.1, bt233.2.1, bt233.2.2))
theorem dioramaref10_plus.mono : ∀ a0 a1 a2 a3 a4 a5 k, LeO (dioramaref10_plus.f k a0 a1 a2 a3 a4 a5) (dioramaref10_plus.f (k + 1) a0 a1 a2 a3 a4 a5) := by
  intro a0 a1 a2 a3 a4 a5 k
  unfold dioramaref10_plus.f
  repeat' first
      | (with_reducible exact dioramaref02_Sum.mono _ _ _ _ _ _ _)
      | (with_reducible exact LeO.refl _)
      | (with_reducible exact LeO.none _)
      | (with_reducible refine LeO.ite ?_ ?_)
      | (with_reducible refine LeO.bind ?_ (fun _ => ?_))
      | exact dioramaref02_Sum.mono _ _ _ _ _ _ _
      | exact LeO.none _
      | refine LeO.ite ?_ ?_
      | refine LeO.bind ?_ (fun _ => ?_)
set_option maxHeartbeats 8000000 in
set_option maxRecDepth 100000 in
theorem dioramaref10_plus.calls (k : Nat) (a0_0 : Bool) (A0_1 : Option Addr) (c0_1 : Nat) (l0_1 : List Int) (A0_2 : Option Addr) (c0_2 : Nat) (l0_2 : List Int) (a1_0 : Bool) (A1_1 : Option Addr) (c1_1 : Nat) (l1_1 : List Int) (A1_2 : Option Addr) (c1_2 : Nat) (l1_2 : List Int) (r1 : Bool) (r2 : List Int) (r3 : List Int) (w : World) (hr0_1 : Kd.C (Kd.int .i64) w A0_1 l0_1.length l0_1) (hc0_1 : l0_1.length ≤ c0_1) (hr0_2 : Kd.C (Kd.int .i64) w A0_2 l0_2.length l0_2) (hc0_2 : l0_2.length ≤ c0_2) (hr1_1 : Kd.C (Kd.int .i64) w A1_1 l1_1.length l1_1) (hc1_1 : l1_1.length ≤ c1_1) (hr1_2 : Kd.C (Kd.int .i64) w A1_2 l1_2.length l1_2) (hc1_2 : l1_2.length ≤ c1_2) (h : dioramaref10_plus.f k a0_0 l0_1 l0_2 a1_0 l1_1 l1_2 = some (r1, r2, r3)) :
  Calls Try.prog 69 #[.agg #[.bool a0_0, .slice A0_1 l0_1.length c0_1, .slice A0_2 l0_2.length c0_2], .agg #[.bool a1_0, .slice A1_1 l1_1.length c1_1, .slice A1_2 l1_2.length c1_2]] w fun e w' => ∃ v1_ v2_ : Value, e = .returned (.agg #[.bool r1, v1_, v2_]) ∧ Kd.R (Kd.int .i64) 3 w' w.heap.size (fun k_ => some k_ ≠ (v2_ : Value).ownBlock) v1_ r2 ∧ Kd.R (Kd.int .i64) 3 w' w.heap.size (fun k_ => some k_ ≠ (v1_ : Value).ownBlock) v2_ r3 ∧ Below w.heap.size w w' := by
 have hu95 := Try.underlying95; have HR0_1 := Aside0.mk hr0_1; have HC0_1 := Aside0.mk hc0_1; clear hr0_1 hc0_1; have HR0_2 := Aside0.mk hr0_2; have HC0_2 := Aside0.mk hc0_2; clear hr0_2 hc0_2; have HR1_1 := Aside0.mk hr1_1; have HC1_1 := Aside0.mk hc1_1; clear hr1_1 hc1_1; have HR1_2 := Aside0.mk hr1_2; have HC1_2 := Aside0.mk hc1_2; clear hr1_2 hc1_2; have HB := Aside0.mk (Below.refl w.heap.size w); have H : ((dioramaref02_Sum.f k a0_0 l0_1 l0_2 a1_0 l1_1 l1_2).bind fun bt233 => (some (bt233.1, bt233.2.1, bt233.2.2))) = some (r1, r2, r3) := h
 clear h; obtain ⟨⟨t233, t234, t237⟩, A3, H⟩ := ob H
 (try dsimp only at H)
 simp only [Option.some.injEq, Prod.mk.injEq] at H; obtain ⟨rfl, rfl, rfl⟩ := H
 go_enter Try.func69, Try.ntmps69
 go_wp2_with (first | ((with_reducible refine gate_dst (N := 2) rfl ?_); refine zB 2 95 #[.bool a0_0, .slice A0_1 l0_1.length c0_1, .slice A0_2 l0_2.length c0_2] ?_; intro gb230 hg w4 hbox hb; have BK230 := Aside0.mk hbox; have GW230 := gz hg; have GE230 := gz hg; replace HB := bp hb; clear hb hbox hg) | ((with_reducible refine gate_dst (N := 3) rfl ?_); refine zB 3 95 #[.bool a1_0, .slice A1_1 l1_1.length c1_1, .slice A1_2 l1_2.length c1_2] ?_; intro gb231 hg w5 hbox hb; have BK231 := Aside0.mk hbox; have GW231 := gz hg; have GE231 := gz hg; replace HB := bp hb; have NB230_231 := Aside0.mk ((by rw [hg]; exact Nat.ne_of_lt (bl BK230) : gb230 ≠ gb231)); have NB231_230 := Aside0.mk ((by rw [hg]; exact Nat.ne_of_gt (bl BK230) : gb231 ≠ gb230)); replace BK230 := kb BK230 hb; clear hb hbox hg) | ((with_reducible refine gate_dst (N := 4) rfl ?_); refine zB 4 95 #[.bool false, .slice none 0 0, .slice none 0 0] ?_; intro gb232 hg w6 hbox hb; have BK232 := Aside0.mk hbox; have GW232 := gz hg; have GE232 := gz hg; replace HB := bp hb; have NB230_232 := Aside0.mk ((by rw [hg]; exact Nat.ne_of_lt (bl BK230) : gb230 ≠ gb232)); have NB232_230 := Aside0.mk ((by rw [hg]; exact Nat.ne_of_gt (bl BK230) : gb232 ≠ gb230)); replace BK230 := kb BK230 hb; have NB231_232 := Aside0.mk ((by rw [hg]; exact Nat.ne_of_lt (bl BK231) : gb231 ≠ gb232)); have NB232_231 := Aside0.mk ((by rw [hg]; exact Nat.ne_of_gt (bl BK231) : gb232 ≠ gb231)); replace BK231 := kb BK231 hb; clear hb hbox hg; have hnb7 := NB230_231.out; have hnc7 := NB231_230.out; have hnb8 := NB230_232.out; have hnc8 := NB232_230.out; obtain ⟨hcz9_0, hcz9_1, hcz9_2, hfz9_0, hfz9_1, hfz9_2⟩ := xc3 BK230; have hnb10 := NB231_232.out; have hnc10 := NB232_231.out; obtain ⟨hcz11_0, hcz11_1, hcz11_2, hfz11_0, hfz11_1, hfz11_2⟩ := xc3 BK231) | ((with_reducible refine gate_callee (f := 98) rfl ?_); refine zC 7 Try.func98 #[.agg #[.bool a0_0, .slice A0_1 l0_1.length c0_1, .slice A0_2 l0_2.length c0_2], .agg #[.bool a1_0, .slice A1_1 l1_1.length c1_1, .slice A1_2 l1_2.length c1_2]] ?_; (with_reducible refine (dioramaref02_Sum.calls k a0_0 _ _ l0_1 _ _ l0_2 a1_0 _ _ l1_1 _ _ l1_2 t233 t234 t237 _ ?side1 ?side2 ?side3 ?side4 ?side5 ?side6 ?side7 ?side8 A3.out).mono ?_); (case side1 => exact cz HR0_1); (case side2 => exact HC0_1.out); (case side3 => exact cz HR0_2); (case side4 => exact HC0_2.out); (case side5 => exact cz HR1_1); (case side6 => exact HC1_1.out); (case side7 => exact cz HR1_2); (case side8 => exact HC1_2.out); rintro e w12 ⟨v235, v238, rfl, ho0, ho1, hb⟩; refine ⟨_, rfl, ?_⟩; have HO236 := Aside0.mk (Kd.R_lower ho0 sz); have HO239 := Aside0.mk (Kd.R_lower ho1 sz); replace BK230 := kb BK230 hb; replace BK231 := kb BK231 hb; replace BK232 := kb BK232 hb; replace HB := bp hb; clear hb ho0 ho1; obtain ⟨hcz13_0, hcz13_1, hcz13_2, hfz13_0, hfz13_1, hfz13_2⟩ := xc3 BK232; obtain ⟨Ao14, co14, eo14⟩ := Kd.R_slice HO236.out; subst eo14; obtain ⟨Ao15, co15, eo15⟩ := Kd.R_slice HO239.out; subst eo15))
 refine bodyPost_ret (results_cell_row rfl _ _ gb232 95 #[.bool t233, .slice Ao14 t234.length co14, .slice Ao15 t237.length co15] (0, 0) _ rfl (by (with_reducible repeat (first | refine blk_drewN ?_ _ | refine blk_drew ?_ | refine blk_alloc ?_ _)); refine blk_put (cs := #[.bool t233, .slice Ao14 t234.length co14, .slice none 0 0]) ?_ 2 _ rfl; (with_reducible repeat (first | refine blk_drewN ?_ _ | refine blk_drew ?_ | refine blk_alloc ?_ _)); refine blk_put (cs := #[.bool t233, .slice none 0 0, .slice none 0 0]) ?_ 1 _ rfl; (with_reducible repeat (first | refine blk_drewN ?_ _ | refine blk_drew ?_ | refine blk_alloc ?_ _)); refine blk_put (cs := #[.bool false, .slice none 0 0, .slice none 0 0]) ?_ 0 _ rfl; (with_reducible repeat (first | refine blk_drewN ?_ _ | refine blk_drew ?_ | refine blk_alloc ?_ _)); exact BK232.out) Try.underlying95 rfl (by kernel_rfl)) rfl ?_
 exact ⟨_, _, ez, by (with_reducible repeat (first | apply Kd.R_alloc | apply Kd.R_drewN | apply Kd.R_drew)); exact Kd.R_mono (Kd.R_far (p := ⟨gb232, 2, none⟩) (Kd.R_far (p := ⟨gb232, 1, none⟩) (Kd.R_far (p := ⟨gb232, 0, none⟩) (Kd.R_types HO236.out BK232.out (by decide)) (fun _ hk => hk.2) (.bool t233)) (fun _ hk => hk.2) (.slice Ao14 t234.length co14)) (fun _ hk => hk.2) (.slice Ao15 t237.length co15)) (fun _ hk => hk.1), by (with_reducible repeat (first | apply Kd.R_alloc | apply Kd.R_drewN | apply Kd.R_drew)); exact Kd.R_mono (Kd.R_far (p := ⟨gb232, 2, none⟩) (Kd.R_far (p := ⟨gb232, 1, none⟩) (Kd.R_far (p := ⟨gb232, 0, none⟩) (Kd.R_types HO239.out BK232.out (by decide)) (fun _ hk => hk.2) (.bool t233)) (fun _ hk => hk.2) (.slice Ao14 t234.length co14)) (fun _ hk => hk.2) (.slice Ao15 t237.length co15)) (fun _ hk => hk.1), bz⟩
def dioramaref02_Small.l0 : Nat → List Int → Int → Int → Option (Int × Bool)
  | 0, _, _, _ => none
  | k + 1, x0, x6, x7 => if x7 ≥ 0 then (if 0 ≤ x7 then (if x7 < (x0.length : Int) then (dioramaref02_Small.l0 k x0 (wrap64 ((wrap64 (x6 * 1000000000)) + (rd x0 x7))) (wrap64 (x7 - 1))) else (none)) else (none)) else (some (x6, true))
def dioramaref02_Small.f (k : Nat) (l0 : List Int) (a1 : Int) : Option (Int × Bool) := (dioramaref02_Of.f k a1).bind fun t240 => ((dioramaref02_Compare.f k l0 t240).bind fun t243 => (if t243 > 0 then (some (0, false)) else (dioramaref02_Small.l0 k l0 0 (wrap64 ((l0.length : Int) - 1)))))
theorem dioramaref02_Small.mono_l : ∀ k, (∀ y0 y1 y2, LeO (dioramaref02_Small.l0 k y0 y1 y2) (dioramaref02_Small.l0 (k + 1) y0 y1 y2))
  | 0 => fun _ _ _ r h => by simp [dioramaref02_Small.l0] at h
  | k + 1 => by
    have ih0 := dioramaref02_Small.mono_l k
    · intro y0 y1 y2
      unfold dioramaref02_Small.l0
      repeat' first
      | (with_reducible exact ih0 _ _ _)
      | (with_reducible exact dioramaref02_Compare.mono _ _ _)
      | (with_reducible exact dioramaref02_Of.mono _ _)
      | (with_reducible exact LeO.refl _)
      | (with_reducible exact LeO.none _)
      | (with_reducible refine LeO.ite ?_ ?_)
      | (with_reducible refine LeO.bind ?_ (fun _ => ?_))
      | exact ih0 _ _ _
      | exact dioramaref02_Compare.mono _ _ _
      | exact dioramaref02_Of.mono _ _
      | exact LeO.none _
      | refine LeO.ite ?_ ?_
      | refine LeO.bind ?_ (fun _ => ?_)
theorem dioramaref02_Small.mono : ∀ a0 a1 k, LeO (dioramaref02_Small.f k a0 a1) (dioramaref02_Small.f (k + 1) a0 a1) := by
  intro a0 a1 k
  have ih0 := dioramaref02_Small.mono_l k
  unfold dioramaref02_Small.f
  repeat' first
      | (with_reducible exact ih0 _ _ _)
      | (with_reducible exact dioramaref02_Compare.mono _ _ _)
      | (with_reducible exact dioramaref02_Of.mono _ _)
      | (with_reducible exact LeO.refl _)
      | (with_reducible exact LeO.none _)
      | (with_reducible refine LeO.ite ?_ ?_)
      | (with_reducible refine LeO.bind ?_ (fun _ => ?_))
      | exact ih0 _ _ _
      | exact dioramaref02_Compare.mono _ _ _
      | exact dioramaref02_Of.mono _ _
      | exact LeO.none _
      | refine LeO.ite ?_ ?_
      | refine LeO.bind ?_ (fun _ => ?_)
set_option maxHeartbeats 8000000 in
set_option maxRecDepth 100000 in
theorem dioramaref02_Small.calls (k : Nat) (A0 : Option Addr) (c0 : Nat) (l0 : List Int) (a1 : Int) (r1 : Int) (r2 : Bool) (w : World) (hr0 : Kd.C (Kd.int .i64) w A0 l0.length l0) (hc0 : l0.length ≤ c0) (h : dioramaref02_Small.f k l0 a1 = some (r1, r2)) :
  Calls Try.prog 70 #[.slice A0 l0.length c0, .int .i64 a1] w fun e w' => e = .returned (.tuple #[.int .i64 r1, .bool r2]) ∧ Below w.heap.size w w' := by
 have HR0 := Aside0.mk hr0; have HC0 := Aside0.mk hc0; clear hr0 hc0; have HB := Aside0.mk (Below.refl w.heap.size w); have H : ((dioramaref02_Of.f k a1).bind fun t240 => ((dioramaref02_Compare.f k l0 t240).bind fun t243 => (if t243 > 0 then (some (0, false)) else (dioramaref02_Small.l0 k l0 0 (wrap64 ((l0.length : Int) - 1)))))) = some (r1, r2) := h
 clear h; obtain ⟨t240, A3, H⟩ := ob H; obtain ⟨t243, A4, H⟩ := ob H
 by_cases c5 : t243 > 0
 ·rw [if_pos c5] at H; have c5b0 : decide (0 < t243) = true := decide_eq_true c5; clear c5; simp only [Option.some.injEq, Prod.mk.injEq] at H; obtain ⟨rfl, rfl⟩ := H
  go_enter Try.func70, Try.ntmps70
  go_wp2_with (first | ((with_reducible refine gate_callee (f := 121) rfl ?_); refine zC 10 Try.func121 #[.int .i64 a1] ?_; (with_reducible refine (dioramaref02_Of.calls k a1 t240 _ A3.out).mono ?_); rintro e w6 ⟨v241, rfl, ho0, hb⟩; refine ⟨_, rfl, ?_⟩; have HO242 := Aside0.mk (Kd.R_lower ho0 sz); replace HB := bp hb; clear hb ho0; obtain ⟨Ao7, co7, eo7⟩ := Kd.R_slice HO242.out; subst eo7) | ((with_reducible refine gate_callee (f := 122) rfl ?_); refine zC 11 Try.func122 #[.slice A0 l0.length c0, .slice Ao7 t240.length co7] ?_; (with_reducible refine (dioramaref02_Compare.calls k _ _ l0 _ _ t240 t243 _ ?side1 ?side2 ?side3 ?side4 A4.out).mono ?_); (case side1 => exact cz HR0); (case side2 => exact HC0.out); (case side3 => exact cr HO242); (case side4 => exact (Kd.R_reads' HO242.out).2.1); rintro e w' ⟨rfl, ⟨nd, rfl⟩⟩; refine ⟨_, rfl, ?_⟩))
  go_ret2
  exact ⟨ez, bz⟩
 ·rw [if_neg c5] at H; have c5b0 : decide (0 < t243) = false := decide_eq_false c5; clear c5; have H' := Aside0.mk H; clear H
  go_enter Try.func70, Try.ntmps70
  go_wp2_with (first | ((with_reducible refine gate_callee (f := 121) rfl ?_); refine zC 10 Try.func121 #[.int .i64 a1] ?_; (with_reducible refine (dioramaref02_Of.calls k a1 t240 _ A3.out).mono ?_); rintro e w8 ⟨v241, rfl, ho0, hb⟩; refine ⟨_, rfl, ?_⟩; have HO242 := Aside0.mk (Kd.R_lower ho0 sz); replace HB := bp hb; clear hb ho0; obtain ⟨Ao9, co9, eo9⟩ := Kd.R_slice HO242.out; subst eo9) | ((with_reducible refine gate_callee (f := 122) rfl ?_); refine zC 11 Try.func122 #[.slice A0 l0.length c0, .slice Ao9 t240.length co9] ?_; (with_reducible refine (dioramaref02_Compare.calls k _ _ l0 _ _ t240 t243 _ ?side1 ?side2 ?side3 ?side4 A4.out).mono ?_); (case side1 => exact cz HR0); (case side2 => exact HC0.out); (case side3 => exact cr HO242); (case side4 => exact (Kd.R_reads' HO242.out).2.1); rintro e w' ⟨rfl, ⟨nd, rfl⟩⟩; refine ⟨_, rfl, ?_⟩))
  go_loopg [6, 7] k (fun kq v6 v7 w' => ∃ (x6_1 : Int) (x7_1 : Int), v6 = .int .i64 x6_1 ∧ v7 = .int .i64 x7_1 ∧ Aside0 (dioramaref02_Small.l0 kq l0 x6_1 x7_1 = some (r1, r2)) ∧ Aside0 (kq ≤ k) ∧ Aside0 (Below w.heap.size w w'))
  case atStart => exact ⟨(0), (wrap64 ((l0.length : Int) - 1)), jz, jz, H', ⟨Nat.le_refl _⟩, ⟨bz⟩⟩
  case round =>
   clear H'
   try clear c1
   try clear p2
   try clear c5
   try clear c5b0
   try clear p6
   try clear c7
   obtain ⟨x6_1, x7_1, rfl, rfl, HA, HK1, HB⟩ := hrel
   cases gk with
   | zero => exact absurd HA.out (by simp [dioramaref02_Small.l0])
   | succ k1 =>
    have H := HA.out; clear HA; simp only [dioramaref02_Small.l0] at H
    by_cases c10 : x7_1 ≥ 0
    ·rw [if_pos c10] at H; have c10b0 : decide (0 ≤ x7_1) = true := decide_eq_true c10; clear c10
     by_cases c11 : 0 ≤ x7_1
     ·rw [if_pos c11] at H; have c11b0 : decide (0 ≤ x7_1) = true := decide_eq_true c11; clear c11
      by_cases c12 : x7_1 < (l0.length : Int)
      ·rw [if_pos c12] at H; have c12b0 : decide (x7_1 < (l0.length : Int)) = true := decide_eq_true c12; clear c12; have H' := Aside0.mk H; clear H; have p244 : 0 ≤ (x7_1 : Int) := od; have q244 : x7_1 < (l0.length : Int) := od; obtain ⟨ad244, e244, hx244_0⟩ := Kd.at_int HR0.out x7_1 p244 q244
       cases e244
       replace hx244_0 := cl HB hx244_0; replace p244 := eq_true p244; replace q244 := eq_true q244
       go_wp2
       go_roundg k1
       case measure => have := HK1.out; omega
       case rel => exact ⟨(wrap64 ((wrap64 (x6_1 * 1000000000)) + (rd l0 x7_1))), (wrap64 (x7_1 - 1)), jz, jz, H', ⟨by have := HK1.out; omega⟩, ⟨bz⟩⟩
      ·rw [if_neg c12] at H
       exact absurd H (by simp)
     ·rw [if_neg c11] at H
      exact absurd H (by simp)
    ·rw [if_neg c10] at H; have c10b0 : decide (0 ≤ x7_1) = false := decide_eq_false c10; clear c10; simp only [Option.some.injEq, Prod.mk.injEq] at H; obtain ⟨rfl, rfl⟩ := H
     go_wp2
     go_ret2
     exact ⟨ez, bz⟩
def dioramaref10_times.f (k : Nat) (a0_0 : Bool) (l0_1 : List Int) (l0_2 : List Int) (a1_0 : Bool) (l1_1 : List Int) (l1_2 : List Int) : Option (Bool × List Int × List Int) := (dioramaref02_Times.f k l0_1 l1_1).bind fun t250 => ((dioramaref02_Times.f k l0_2 l1_2).bind fun t253 => (some ((a0_0 != a1_0), t250, t253)))
theorem dioramaref10_times.mono : ∀ a0 a1 a2 a3 a4 a5 k, LeO (dioramaref10_times.f k a0 a1 a2 a3 a4 a5) (dioramaref10_times.f (k + 1) a0 a1 a2 a3 a4 a5) := by
  intro a0 a1 a2 a3 a4 a5 k
  unfold dioramaref10_times.f
  repeat' first
      | (with_reducible exact dioramaref02_Times.mono _ _ _)
      | (with_reducible exact LeO.refl _)
      | (with_reducible exact LeO.none _)
      | (with_reducible refine LeO.ite ?_ ?_)
      | (with_reducible refine LeO.bind ?_ (fun _ => ?_))
      | exact dioramaref02_Times.mono _ _ _
      | exact LeO.none _
      | refine LeO.ite ?_ ?_
      | refine LeO.bind ?_ (fun _ => ?_)
set_option maxHeartbeats 8000000 in
set_option maxRecDepth 100000 in
theorem dioramaref10_times.calls (k : Nat) (a0_0 : Bool) (A0_1 : Option Addr) (c0_1 : Nat) (l0_1 : List Int) (A0_2 : Option Addr) (c0_2 : Nat) (l0_2 : List Int) (a1_0 : Bool) (A1_1 : Option Addr) (c1_1 : Nat) (l1_1 : List Int) (A1_2 : Option Addr) (c1_2 : Nat) (l1_2 : List Int) (r1 : Bool) (r2 : List Int) (r3 : List Int) (w : World) (hr0_1 : Kd.C (Kd.int .i64) w A0_1 l0_1.length l0_1) (hc0_1 : l0_1.length ≤ c0_1) (hr0_2 : Kd.C (Kd.int .i64) w A0_2 l0_2.length l0_2) (hc0_2 : l0_2.length ≤ c0_2) (hr1_1 : Kd.C (Kd.int .i64) w A1_1 l1_1.length l1_1) (hc1_1 : l1_1.length ≤ c1_1) (hr1_2 : Kd.C (Kd.int .i64) w A1_2 l1_2.length l1_2) (hc1_2 : l1_2.length ≤ c1_2) (h : dioramaref10_times.f k a0_0 l0_1 l0_2 a1_0 l1_1 l1_2 = some (r1, r2, r3)) :
  Calls Try.prog 73 #[.agg #[.bool a0_0, .slice A0_1 l0_1.length c0_1, .slice A0_2 l0_2.length c0_2], .agg #[.bool a1_0, .slice A1_1 l1_1.length c1_1, .slice A1_2 l1_2.length c1_2]] w fun e w' => ∃ v1_ v2_ : Value, e = .returned (.agg #[.bool r1, v1_, v2_]) ∧ Kd.R (Kd.int .i64) 3 w' w.heap.size (fun k_ => some k_ ≠ (v2_ : Value).ownBlock) v1_ r2 ∧ Kd.R (Kd.int .i64) 3 w' w.heap.size (fun k_ => some k_ ≠ (v1_ : Value).ownBlock) v2_ r3 ∧ Below w.heap.size w w' := by
 have hu95 := Try.underlying95; have HR0_1 := Aside0.mk hr0_1; have HC0_1 := Aside0.mk hc0_1; clear hr0_1 hc0_1; have HR0_2 := Aside0.mk hr0_2; have HC0_2 := Aside0.mk hc0_2; clear hr0_2 hc0_2; have HR1_1 := Aside0.mk hr1_1; have HC1_1 := Aside0.mk hc1_1; clear hr1_1 hc1_1; have HR1_2 := Aside0.mk hr1_2; have HC1_2 := Aside0.mk hc1_2; clear hr1_2 hc1_2; have HB := Aside0.mk (Below.refl w.heap.size w); have H : ((dioramaref02_Times.f k l0_1 l1_1).bind fun t250 => ((dioramaref02_Times.f k l0_2 l1_2).bind fun t253 => (some ((a0_0 != a1_0), t250, t253)))) = some (r1, r2, r3) := h
 clear h; obtain ⟨t250, A3, H⟩ := ob H; obtain ⟨t253, A4, H⟩ := ob H; simp only [Option.some.injEq, Prod.mk.injEq] at H; obtain ⟨rfl, rfl, rfl⟩ := H
 go_enter Try.func73, Try.ntmps73
 try go_wp2_with (first | ((with_reducible refine gate_dst (N := 2) rfl ?_); refine zB 2 95 #[.bool a0_0, .slice A0_1 l0_1.length c0_1, .slice A0_2 l0_2.length c0_2] ?_; intro gb247 hg w5 hbox hb; have BK247 := Aside0.mk hbox; have GW247 := gz hg; have GE247 := gz hg; replace HB := bp hb; clear hb hbox hg) | ((with_reducible refine gate_dst (N := 3) rfl ?_); refine zB 3 95 #[.bool a1_0, .slice A1_1 l1_1.length c1_1, .slice A1_2 l1_2.length c1_2] ?_; intro gb248 hg w6 hbox hb; have BK248 := Aside0.mk hbox; have GW248 := gz hg; have GE248 := gz hg; replace HB := bp hb; have NB247_248 := Aside0.mk ((by rw [hg]; exact Nat.ne_of_lt (bl BK247) : gb247 ≠ gb248)); have NB248_247 := Aside0.mk ((by rw [hg]; exact Nat.ne_of_gt (bl BK247) : gb248 ≠ gb247)); replace BK247 := kb BK247 hb; clear hb hbox hg) | ((with_reducible refine gate_dst (N := 4) rfl ?_); refine zB 4 95 #[.bool false, .slice none 0 0, .slice none 0 0] ?_; intro gb249 hg w7 hbox hb; have BK249 := Aside0.mk hbox; have GW249 := gz hg; have GE249 := gz hg; replace HB := bp hb; have NB247_249 := Aside0.mk ((by rw [hg]; exact Nat.ne_of_lt (bl BK247) : gb247 ≠ gb249)); have NB249_247 := Aside0.mk ((by rw [hg]; exact Nat.ne_of_gt (bl BK247) : gb249 ≠ gb247)); replace BK247 := kb BK247 hb; have NB248_249 := Aside0.mk ((by rw [hg]; exact Nat.ne_of_lt (bl BK248) : gb248 ≠ gb249)); have NB249_248 := Aside0.mk ((by rw [hg]; exact Nat.ne_of_gt (bl BK248) : gb249 ≠ gb248)); replace BK248 := kb BK248 hb; clear hb hbox hg))
 replace BK247 := Aside0.mk (blk_drew BK247.out); replace BK248 := Aside0.mk (blk_drew BK248.out); replace BK249 := Aside0.mk (blk_drew BK249.out); replace HB := Aside0.mk (below_drew1 HB.out); refine start_ (n := 17) (S := fun w' => w'.cell? ⟨gb247, 0, none⟩ = some (.bool a0_0) ∧ w'.cell? ⟨gb247, 1, none⟩ = some (.slice A0_1 l0_1.length c0_1) ∧ w'.cell? ⟨gb247, 2, none⟩ = some (.slice A0_2 l0_2.length c0_2) ∧ w'.cell? ⟨gb248, 0, none⟩ = some (.bool a1_0) ∧ w'.cell? ⟨gb248, 1, none⟩ = some (.slice A1_1 l1_1.length c1_1) ∧ w'.cell? ⟨gb248, 2, none⟩ = some (.slice A1_2 l1_2.length c1_2)) (ds := []) (bs 17 0) (by kernel_rfl) rfl rfl ⟨ct BK247 0, ct BK247 1, ct BK247 2, ct BK248 0, ct BK248 1, ct BK248 2⟩ (fun hHeld => ?_)
 generalize w7.drew = w8 at BK247 BK248 BK249 HB hHeld ⊢; refine zP 0 5 17 1 ?_; refine zP 2 7 17 5 ?_; refine zP 5 10 17 37 ?_; refine zP 7 12 17 165 ?_; refine zP 10 15 17 1189 ?_; refine zP 12 17 17 5285 ?_; refine zT 1 6 17 5287 hHeld ?_; refine zT 3 8 17 5295 hHeld ?_; refine zP 4 9 17 5311 ?_; refine zT 6 11 17 5375 hHeld ?_; refine zT 8 13 17 5631 hHeld ?_; refine zT 11 16 17 7679 hHeld ?_; refine zT 13 18 17 15871 hHeld ?_; refine zN 9 (some 14) 17 16383 (fun K hK => ?_); refine zG Try.func124 #[.slice A0_1 l0_1.length c0_1, .slice A1_1 l1_1.length c1_1] ?_
 with_reducible refine (dioramaref02_Times.calls k _ _ l0_1 _ _ l1_1 t250 _ ?side1 ?side2 ?side3 ?side4 A3.out).mono ?_
 (case side1 => exact cz HR0_1)
 (case side2 => exact HC0_1.out)
 (case side3 => exact cz HR1_1)
 (case side4 => exact HC1_1.out)
 rintro e w9 ⟨v251, rfl, ho0, hb⟩; refine ⟨_, rfl, ?_⟩; have HO252 := Aside0.mk (Kd.R_lower ho0 sz); replace BK247 := kb BK247 hb; replace BK248 := kb BK248 hb; replace BK249 := kb BK249 hb; replace HB := bp hb; clear hb ho0; refine hK.out _ _ ⟨ct BK247 0, ct BK247 1, ct BK247 2, ct BK248 0, ct BK248 1, ct BK248 2⟩ (fun hHeld => ?_); clear hK K; refine zM 14 ?_; refine zN 14 (some 19) 17 32767 (fun K hK => ?_); refine zG Try.func124 #[.slice A0_2 l0_2.length c0_2, .slice A1_2 l1_2.length c1_2] ?_
 with_reducible refine (dioramaref02_Times.calls k _ _ l0_2 _ _ l1_2 t253 _ ?side1 ?side2 ?side3 ?side4 A4.out).mono ?_
 (case side1 => exact cz HR0_2)
 (case side2 => exact HC0_2.out)
 (case side3 => exact cz HR1_2)
 (case side4 => exact HC1_2.out)
 rintro e w10 ⟨v254, rfl, ho0, hb⟩; refine ⟨_, rfl, ?_⟩; have HO255 := Aside0.mk (Kd.R_lower (Kd.R_new' ho0 (Kd.R_lt (rz HO252))) sz); replace HO252 := Aside0.mk (Kd.R_elder' (rz HO252) (Kd.R_base ho0) hb); replace BK247 := kb BK247 hb; replace BK248 := kb BK248 hb; replace BK249 := kb BK249 hb; replace HB := bp hb; clear hb ho0; obtain ⟨Ao11, co11, eo11⟩ := Kd.R_slice HO255.out
 (first | subst eo11 | (injection eo11 with f1_ f2_ f3_; have f4_ := f1_.symm; have f5_ := f3_.symm; clear f1_ f2_ f3_; subst f4_; subst f5_))
 obtain ⟨Ao12, co12, eo12⟩ := Kd.R_slice HO252.out
 (first | subst eo12 | (injection eo12 with f1_ f2_ f3_; have f4_ := f1_.symm; have f5_ := f3_.symm; clear f1_ f2_ f3_; subst f4_; subst f5_))
 refine hK.out _ _ ⟨ct BK247 0, ct BK247 1, ct BK247 2, ct BK248 0, ct BK248 1, ct BK248 2⟩ (fun hHeld => ?_); clear hK K; refine zM 19 ?_; refine zP 15 20 17 65535 ?_; refine zN 16 none 17 131071 (fun K hK => ?_); have hs13 : w10.cell? ⟨gb249, 0, none⟩ = some (.bool false) := ct BK249 0; have hfs13 := blk_frozen BK249.out 0; have hns13_0 := NB247_249.out; have hns13_1 := NB248_249.out; have hms13_0 := NB249_247.out; have hms13_1 := NB249_248.out; have hs14 : w10.cell? ⟨gb249, 1, none⟩ = some (.slice none 0 0) := ct BK249 1; have hfs14 := blk_frozen BK249.out 1; have hns14_0 := NB247_249.out; have hns14_1 := NB248_249.out; have hms14_0 := NB249_247.out; have hms14_1 := NB249_248.out; have hs15 : w10.cell? ⟨gb249, 2, none⟩ = some (.slice none 0 0) := ct BK249 2; have hfs15 := blk_frozen BK249.out 2; have hns15_0 := NB247_249.out; have hns15_1 := NB248_249.out; have hms15_0 := NB249_247.out; have hms15_1 := NB249_248.out; refine skip_ (w1 := ?_) (by rfl) rfl ?_ ?_
 rotate_left
 ·go_simp
  rfl
 refine hK.out _ _ ⟨((cell_far (p := ⟨gb249, _, none⟩) NB247_249.out _).trans (((cell_far (p := ⟨gb249, _, none⟩) NB247_249.out _).trans (((cell_far (p := ⟨gb249, _, none⟩) NB247_249.out _).trans (hHeld.1)))))), ((cell_far (p := ⟨gb249, _, none⟩) NB247_249.out _).trans (((cell_far (p := ⟨gb249, _, none⟩) NB247_249.out _).trans (((cell_far (p := ⟨gb249, _, none⟩) NB247_249.out _).trans (hHeld.2.1)))))), ((cell_far (p := ⟨gb249, _, none⟩) NB247_249.out _).trans (((cell_far (p := ⟨gb249, _, none⟩) NB247_249.out _).trans (((cell_far (p := ⟨gb249, _, none⟩) NB247_249.out _).trans (hHeld.2.2.1)))))), ((cell_far (p := ⟨gb249, _, none⟩) NB248_249.out _).trans (((cell_far (p := ⟨gb249, _, none⟩) NB248_249.out _).trans (((cell_far (p := ⟨gb249, _, none⟩) NB248_249.out _).trans (hHeld.2.2.2.1)))))), ((cell_far (p := ⟨gb249, _, none⟩) NB248_249.out _).trans (((cell_far (p := ⟨gb249, _, none⟩) NB248_249.out _).trans (((cell_far (p := ⟨gb249, _, none⟩) NB248_249.out _).trans (hHeld.2.2.2.2.1)))))), ((cell_far (p := ⟨gb249, _, none⟩) NB248_249.out _).trans (((cell_far (p := ⟨gb249, _, none⟩) NB248_249.out _).trans (((cell_far (p := ⟨gb249, _, none⟩) NB248_249.out _).trans (hHeld.2.2.2.2.2))))))⟩ (fun hHeld => ?_); clear hK K; refine done_ (by kernel_rfl) ?_
 try go_wp2
 refine bodyPost_ret (results_cell_row rfl _ _ gb249 95 #[.bool (a0_0 != a1_0), .slice Ao12 t250.length co12, .slice Ao11 t253.length co11] (0, 0) _ rfl (by (with_reducible repeat (first | refine blk_drewN ?_ _ | refine blk_drew ?_ | refine blk_alloc ?_ _)); refine blk_put (cs := #[.bool (a0_0 != a1_0), .slice Ao12 t250.length co12, .slice none 0 0]) ?_ 2 _ rfl; (with_reducible repeat (first | refine blk_drewN ?_ _ | refine blk_drew ?_ | refine blk_alloc ?_ _)); refine blk_put (cs := #[.bool (a0_0 != a1_0), .slice none 0 0, .slice none 0 0]) ?_ 1 _ rfl; (with_reducible repeat (first | refine blk_drewN ?_ _ | refine blk_drew ?_ | refine blk_alloc ?_ _)); refine blk_put (cs := #[.bool false, .slice none 0 0, .slice none 0 0]) ?_ 0 _ rfl; (with_reducible repeat (first | refine blk_drewN ?_ _ | refine blk_drew ?_ | refine blk_alloc ?_ _)); exact BK249.out) Try.underlying95 rfl (by kernel_rfl)) rfl ?_
 exact ⟨_, _, ez, by (with_reducible repeat (first | apply Kd.R_alloc | apply Kd.R_drewN | apply Kd.R_drew)); exact Kd.R_mono (Kd.R_far (p := ⟨gb249, 2, none⟩) (Kd.R_far (p := ⟨gb249, 1, none⟩) (Kd.R_far (p := ⟨gb249, 0, none⟩) (Kd.R_types HO252.out BK249.out (by decide)) (fun _ hk => hk.2) (.bool (a0_0 != a1_0))) (fun _ hk => hk.2) (.slice Ao12 t250.length co12)) (fun _ hk => hk.2) (.slice Ao11 t253.length co11)) (fun _ hk => hk.1.2), by (with_reducible repeat (first | apply Kd.R_alloc | apply Kd.R_drewN | apply Kd.R_drew)); exact Kd.R_mono (Kd.R_far (p := ⟨gb249, 2, none⟩) (Kd.R_far (p := ⟨gb249, 1, none⟩) (Kd.R_far (p := ⟨gb249, 0, none⟩) (Kd.R_types HO255.out BK249.out (by decide)) (fun _ hk => hk.2) (.bool (a0_0 != a1_0))) (fun _ hk => hk.2) (.slice Ao12 t250.length co12)) (fun _ hk => hk.2) (.slice Ao11 t253.length co11)) (fun _ hk => hk.1.2), bz⟩
def dioramaref10_rate.f (k : Nat) (a0_0 : Int) (a0_1 : Int) (a0_2 : Int) (a0_3 : Int) : Option (Bool × List Int × List Int) := (dioramaref10_ratio.f k a0_2 a0_3).bind fun bt258 => (some (bt258.1, bt258.2.1, bt258.2.2))
theorem dioramaref10_rate.mono : ∀ a0 a1 a2 a3 k, LeO (dioramaref10_rate.f k a0 a1 a2 a3) (dioramaref10_rate.f (k + 1) a0 a1 a2 a3) := by
  intro a0 a1 a2 a3 k
  unfold dioramaref10_rate.f
  repeat' first
      | (with_reducible exact dioramaref10_ratio.mono _ _ _)
      | (with_reducible exact LeO.refl _)
      | (with_reducible exact LeO.none _)
      | (with_reducible refine LeO.ite ?_ ?_)
      | (with_reducible refine LeO.bind ?_ (fun _ => ?_))
      | exact dioramaref10_ratio.mono _ _ _
      | exact LeO.none _
      | refine LeO.ite ?_ ?_
      | refine LeO.bind ?_ (fun _ => ?_)
set_option maxHeartbeats 8000000 in
set_option maxRecDepth 100000 in
theorem dioramaref10_rate.calls (k : Nat) (a0_0 : Int) (a0_1 : Int) (a0_2 : Int) (a0_3 : Int) (r1 : Bool) (r2 : List Int) (r3 : List Int) (w : World) (h : dioramaref10_rate.f k a0_0 a0_1 a0_2 a0_3 = some (r1, r2, r3)) :
  Calls Try.prog 134 #[.agg #[.int .i64 a0_0, .int .i64 a0_1, .int .i64 a0_2, .int .i64 a0_3]] w fun e w' => ∃ v1_ v2_ : Value, e = .returned (.agg #[.bool r1, v1_, v2_]) ∧ Kd.R (Kd.int .i64) 3 w' w.heap.size (fun k_ => some k_ ≠ (v2_ : Value).ownBlock) v1_ r2 ∧ Kd.R (Kd.int .i64) 3 w' w.heap.size (fun k_ => some k_ ≠ (v1_ : Value).ownBlock) v2_ r3 ∧ Below w.heap.size w w' := by
 have hu77 := Try.underlying77; have hu95 := Try.underlying95; have HB := Aside0.mk (Below.refl w.heap.size w); have H : ((dioramaref10_ratio.f k a0_2 a0_3).bind fun bt258 => (some (bt258.1, bt258.2.1, bt258.2.2))) = some (r1, r2, r3) := h
 clear h; obtain ⟨⟨t258, t259, t262⟩, A2, H⟩ := ob H
 (try dsimp only at H)
 simp only [Option.some.injEq, Prod.mk.injEq] at H; obtain ⟨rfl, rfl, rfl⟩ := H
 go_enter Try.func134, Try.ntmps134
 go_wp2_with (first | ((with_reducible refine gate_dst (N := 1) rfl ?_); refine zB 1 77 #[.int .i64 a0_0, .int .i64 a0_1, .int .i64 a0_2, .int .i64 a0_3] ?_; intro gb256 hg w3 hbox hb; have BK256 := Aside0.mk hbox; have GW256 := gz hg; have GE256 := gz hg; replace HB := bp hb; clear hb hbox hg) | ((with_reducible refine gate_dst (N := 2) rfl ?_); refine zB 2 95 #[.bool false, .slice none 0 0, .slice none 0 0] ?_; intro gb257 hg w4 hbox hb; have BK257 := Aside0.mk hbox; have GW257 := gz hg; have GE257 := gz hg; replace HB := bp hb; have NB256_257 := Aside0.mk ((by rw [hg]; exact Nat.ne_of_lt (bl BK256) : gb256 ≠ gb257)); have NB257_256 := Aside0.mk ((by rw [hg]; exact Nat.ne_of_gt (bl BK256) : gb257 ≠ gb256)); replace BK256 := kb BK256 hb; clear hb hbox hg; have hnb5 := NB256_257.out; have hnc5 := NB257_256.out; obtain ⟨hcz6_0, hcz6_1, hcz6_2, hcz6_3, hfz6_0, hfz6_1, hfz6_2, hfz6_3⟩ := xc4 BK256) | ((with_reducible refine gate_callee (f := 68) rfl ?_); refine zC 7 Try.func68 #[.int .i64 a0_2, .int .i64 a0_3] ?_; (with_reducible refine (dioramaref10_ratio.calls k a0_2 a0_3 t258 t259 t262 _ A2.out).mono ?_); rintro e w7 ⟨v260, v263, rfl, ho0, ho1, hb⟩; refine ⟨_, rfl, ?_⟩; have HO261 := Aside0.mk (Kd.R_lower ho0 sz); have HO264 := Aside0.mk (Kd.R_lower ho1 sz); replace BK256 := kb BK256 hb; replace BK257 := kb BK257 hb; replace HB := bp hb; clear hb ho0 ho1; obtain ⟨hcz8_0, hcz8_1, hcz8_2, hfz8_0, hfz8_1, hfz8_2⟩ := xc3 BK257; obtain ⟨Ao9, co9, eo9⟩ := Kd.R_slice HO261.out; subst eo9; obtain ⟨Ao10, co10, eo10⟩ := Kd.R_slice HO264.out; subst eo10))
 refine bodyPost_ret (results_cell_row rfl _ _ gb257 95 #[.bool t258, .slice Ao9 t259.length co9, .slice Ao10 t262.length co10] (0, 0) _ rfl (by (with_reducible repeat (first | refine blk_drewN ?_ _ | refine blk_drew ?_ | refine blk_alloc ?_ _)); refine blk_put (cs := #[.bool t258, .slice Ao9 t259.length co9, .slice none 0 0]) ?_ 2 _ rfl; (with_reducible repeat (first | refine blk_drewN ?_ _ | refine blk_drew ?_ | refine blk_alloc ?_ _)); refine blk_put (cs := #[.bool t258, .slice none 0 0, .slice none 0 0]) ?_ 1 _ rfl; (with_reducible repeat (first | refine blk_drewN ?_ _ | refine blk_drew ?_ | refine blk_alloc ?_ _)); refine blk_put (cs := #[.bool false, .slice none 0 0, .slice none 0 0]) ?_ 0 _ rfl; (with_reducible repeat (first | refine blk_drewN ?_ _ | refine blk_drew ?_ | refine blk_alloc ?_ _)); exact BK257.out) Try.underlying95 rfl (by kernel_rfl)) rfl ?_
 exact ⟨_, _, ez, by (with_reducible repeat (first | apply Kd.R_alloc | apply Kd.R_drewN | apply Kd.R_drew)); exact Kd.R_mono (Kd.R_far (p := ⟨gb257, 2, none⟩) (Kd.R_far (p := ⟨gb257, 1, none⟩) (Kd.R_far (p := ⟨gb257, 0, none⟩) (Kd.R_types HO261.out BK257.out (by decide)) (fun _ hk => hk.2) (.bool t258)) (fun _ hk => hk.2) (.slice Ao9 t259.length co9)) (fun _ hk => hk.2) (.slice Ao10 t262.length co10)) (fun _ hk => hk.1), by (with_reducible repeat (first | apply Kd.R_alloc | apply Kd.R_drewN | apply Kd.R_drew)); exact Kd.R_mono (Kd.R_far (p := ⟨gb257, 2, none⟩) (Kd.R_far (p := ⟨gb257, 1, none⟩) (Kd.R_far (p := ⟨gb257, 0, none⟩) (Kd.R_types HO264.out BK257.out (by decide)) (fun _ hk => hk.2) (.bool t258)) (fun _ hk => hk.2) (.slice Ao9 t259.length co9)) (fun _ hk => hk.2) (.slice Ao10 t262.length co10)) (fun _ hk => hk.1), bz⟩
def dioramaref10_media.f (k : Nat) (a0_0 : Int) (a0_1 : Int) (a0_2 : Int) (a0_3 : Int) (a1 : Int) (a2_0 : Bool) (l2_1 : List Int) (l2_2 : List Int) : Option (Bool × List Int × List Int) := (dioramaref10_ratio.f k a0_1 a1).bind fun bt268 => ((dioramaref10_rate.f k a0_0 a0_1 a0_2 a0_3).bind fun bt275 => ((dioramaref10_times.f k a2_0 l2_1 l2_2 bt275.1 bt275.2.1 bt275.2.2).bind fun bt282 => ((dioramaref10_plus.f k bt268.1 bt268.2.1 bt268.2.2 bt282.1 bt282.2.1 bt282.2.2).bind fun bt289 => (some (bt289.1, bt289.2.1, bt289.2.2)))))
theorem dioramaref10_media.mono : ∀ a0 a1 a2 a3 a4 a5 a6 a7 k, LeO (dioramaref10_media.f k a0 a1 a2 a3 a4 a5 a6 a7) (dioramaref10_media.f (k + 1) a0 a1 a2 a3 a4 a5 a6 a7) := by
  intro a0 a1 a2 a3 a4 a5 a6 a7 k
  unfold dioramaref10_media.f
  repeat' first
      | (with_reducible exact dioramaref10_plus.mono _ _ _ _ _ _ _)
      | (with_reducible exact dioramaref10_rate.mono _ _ _ _ _)
      | (with_reducible exact dioramaref10_ratio.mono _ _ _)
      | (with_reducible exact dioramaref10_times.mono _ _ _ _ _ _ _)
      | (with_reducible exact LeO.refl _)
      | (with_reducible exact LeO.none _)
      | (with_reducible refine LeO.ite ?_ ?_)
      | (with_reducible refine LeO.bind ?_ (fun _ => ?_))
      | exact dioramaref10_plus.mono _ _ _ _ _ _ _
      | exact dioramaref10_rate.mono _ _ _ _ _
      | exact dioramaref10_ratio.mono _ _ _
      | exact dioramaref10_times.mono _ _ _ _ _ _ _
      | exact LeO.none _
      | refine LeO.ite ?_ ?_
      | refine LeO.bind ?_ (fun _ => ?_)
set_option maxHeartbeats 8000000 in
set_option maxRecDepth 100000 in
theorem dioramaref10_media.calls (k : Nat) (a0_0 : Int) (a0_1 : Int) (a0_2 : Int) (a0_3 : Int) (a1 : Int) (a2_0 : Bool) (A2_1 : Option Addr) (c2_1 : Nat) (l2_1 : List Int) (A2_2 : Option Addr) (c2_2 : Nat) (l2_2 : List Int) (r1 : Bool) (r2 : List Int) (r3 : List Int) (w : World) (hr2_1 : Kd.C (Kd.int .i64) w A2_1 l2_1.length l2_1) (hc2_1 : l2_1.length ≤ c2_1) (hr2_2 : Kd.C (Kd.int .i64) w A2_2 l2_2.length l2_2) (hc2_2 : l2_2.length ≤ c2_2) (h : dioramaref10_media.f k a0_0 a0_1 a0_2 a0_3 a1 a2_0 l2_1 l2_2 = some (r1, r2, r3)) :
  Calls Try.prog 88 #[.agg #[.int .i64 a0_0, .int .i64 a0_1, .int .i64 a0_2, .int .i64 a0_3], .int .i64 a1, .agg #[.bool a2_0, .slice A2_1 l2_1.length c2_1, .slice A2_2 l2_2.length c2_2]] w fun e w' => ∃ v1_ v2_ : Value, e = .returned (.agg #[.bool r1, v1_, v2_]) ∧ Kd.R (Kd.int .i64) 3 w' w.heap.size (fun k_ => some k_ ≠ (v2_ : Value).ownBlock) v1_ r2 ∧ Kd.R (Kd.int .i64) 3 w' w.heap.size (fun k_ => some k_ ≠ (v1_ : Value).ownBlock) v2_ r3 ∧ Below w.heap.size w w' := by
 have hu77 := Try.underlying77; have hu95 := Try.underlying95; have HR2_1 := Aside0.mk hr2_1; have HC2_1 := Aside0.mk hc2_1; clear hr2_1 hc2_1; have HR2_2 := Aside0.mk hr2_2; have HC2_2 := Aside0.mk hc2_2; clear hr2_2 hc2_2; have HB := Aside0.mk (Below.refl w.heap.size w); have H : ((dioramaref10_ratio.f k a0_1 a1).bind fun bt268 => ((dioramaref10_rate.f k a0_0 a0_1 a0_2 a0_3).bind fun bt275 => ((dioramaref10_times.f k a2_0 l2_1 l2_2 bt275.1 bt275.2.1 bt275.2.2).bind fun bt282 => ((dioramaref10_plus.f k bt268.1 bt268.2.1 bt268.2.2 bt282.1 bt282.2.1 bt282.2.2).bind fun bt289 => (some (bt289.1, bt289.2.1, bt289.2.2)))))) = some (r1, r2, r3) := h
 clear h; obtain ⟨⟨t268, t269, t272⟩, A4, H⟩ := ob H
 (try dsimp only at H)
 obtain ⟨⟨t275, t276, t279⟩, A5, H⟩ := ob H
 (try dsimp only at H)
 obtain ⟨⟨t282, t283, t286⟩, A6, H⟩ := ob H
 (try dsimp only at H)
 obtain ⟨⟨t289, t290, t293⟩, A7, H⟩ := ob H
 (try dsimp only at H)
 simp only [Option.some.injEq, Prod.mk.injEq] at H; obtain ⟨rfl, rfl, rfl⟩ := H
 go_enter Try.func88, Try.ntmps88
 try go_wp2_with (first | ((with_reducible refine gate_dst (N := 3) rfl ?_); refine zB 3 77 #[.int .i64 a0_0, .int .i64 a0_1, .int .i64 a0_2, .int .i64 a0_3] ?_; intro gb265 hg w8 hbox hb; have BK265 := Aside0.mk hbox; have GW265 := gz hg; have GE265 := gz hg; replace HB := bp hb; clear hb hbox hg) | ((with_reducible refine gate_dst (N := 5) rfl ?_); refine zB 5 95 #[.bool a2_0, .slice A2_1 l2_1.length c2_1, .slice A2_2 l2_2.length c2_2] ?_; intro gb266 hg w9 hbox hb; have BK266 := Aside0.mk hbox; have GW266 := gz hg; have GE266 := gz hg; replace HB := bp hb; have NB265_266 := Aside0.mk ((by rw [hg]; exact Nat.ne_of_lt (bl BK265) : gb265 ≠ gb266)); have NB266_265 := Aside0.mk ((by rw [hg]; exact Nat.ne_of_gt (bl BK265) : gb266 ≠ gb265)); replace BK265 := kb BK265 hb; clear hb hbox hg) | ((with_reducible refine gate_dst (N := 6) rfl ?_); refine zB 6 95 #[.bool false, .slice none 0 0, .slice none 0 0] ?_; intro gb267 hg w10 hbox hb; have BK267 := Aside0.mk hbox; have GW267 := gz hg; have GE267 := gz hg; replace HB := bp hb; have NB265_267 := Aside0.mk ((by rw [hg]; exact Nat.ne_of_lt (bl BK265) : gb265 ≠ gb267)); have NB267_265 := Aside0.mk ((by rw [hg]; exact Nat.ne_of_gt (bl BK265) : gb267 ≠ gb265)); replace BK265 := kb BK265 hb; have NB266_267 := Aside0.mk ((by rw [hg]; exact Nat.ne_of_lt (bl BK266) : gb266 ≠ gb267)); have NB267_266 := Aside0.mk ((by rw [hg]; exact Nat.ne_of_gt (bl BK266) : gb267 ≠ gb266)); replace BK266 := kb BK266 hb; clear hb hbox hg))
 replace BK265 := Aside0.mk (blk_drew BK265.out); replace BK266 := Aside0.mk (blk_drew BK266.out); replace BK267 := Aside0.mk (blk_drew BK267.out); replace HB := Aside0.mk (below_drew1 HB.out); refine start_ (n := 10) (S := fun w' => w'.cell? ⟨gb265, 0, none⟩ = some (.int .i64 a0_0) ∧ w'.cell? ⟨gb265, 1, none⟩ = some (.int .i64 a0_1) ∧ w'.cell? ⟨gb265, 2, none⟩ = some (.int .i64 a0_2) ∧ w'.cell? ⟨gb265, 3, none⟩ = some (.int .i64 a0_3) ∧ w'.cell? ⟨gb266, 0, none⟩ = some (.bool a2_0) ∧ w'.cell? ⟨gb266, 1, none⟩ = some (.slice A2_1 l2_1.length c2_1) ∧ w'.cell? ⟨gb266, 2, none⟩ = some (.slice A2_2 l2_2.length c2_2)) (ds := []) (bs 10 0) (by kernel_rfl) rfl rfl ⟨ct BK265 0, ct BK265 1, ct BK265 2, ct BK265 3, ct BK266 0, ct BK266 1, ct BK266 2⟩ (fun hHeld => ?_)
 generalize w10.drew = w11 at BK265 BK266 BK267 HB hHeld ⊢; refine zP 0 7 10 1 ?_; refine zP 2 9 10 5 ?_; refine zT 1 8 10 7 hHeld ?_; refine zT 4 11 10 23 hHeld ?_; refine zT 5 12 10 55 hHeld ?_; refine zN 3 (some 10) 10 63 (fun K hK => ?_); refine zG Try.func68 #[.int .i64 a0_1, .int .i64 a1] ?_
 with_reducible refine (dioramaref10_ratio.calls k a0_1 a1 t268 t269 t272 _ A4.out).mono ?_
 rintro e w12 ⟨v270, v273, rfl, ho0, ho1, hb⟩; refine ⟨_, rfl, ?_⟩; have HO271 := Aside0.mk (Kd.R_lower ho0 sz); have HO274 := Aside0.mk (Kd.R_lower ho1 sz); replace BK265 := kb BK265 hb; replace BK266 := kb BK266 hb; replace BK267 := kb BK267 hb; replace HB := bp hb; clear hb ho0 ho1; refine hK.out _ _ ⟨ct BK265 0, ct BK265 1, ct BK265 2, ct BK265 3, ct BK266 0, ct BK266 1, ct BK266 2⟩ (fun hHeld => ?_); clear hK K; refine zM 10 ?_; refine zN 6 (some 13) 10 127 (fun K hK => ?_); refine zG Try.func134 #[.agg #[.int .i64 a0_0, .int .i64 a0_1, .int .i64 a0_2, .int .i64 a0_3]] ?_
 with_reducible refine (dioramaref10_rate.calls k a0_0 a0_1 a0_2 a0_3 t275 t276 t279 _ A5.out).mono ?_
 rintro e w13 ⟨v277, v280, rfl, ho0, ho1, hb⟩; refine ⟨_, rfl, ?_⟩; have HO278 := Aside0.mk (Kd.R_lower (Kd.R_new' (Kd.R_new' ho0 (Kd.R_lt (rz HO271))) (Kd.R_lt (rz HO274))) sz); have HO281 := Aside0.mk (Kd.R_lower (Kd.R_new' (Kd.R_new' ho1 (Kd.R_lt (rz HO271))) (Kd.R_lt (rz HO274))) sz); replace HO271 := Aside0.mk (Kd.R_mono (Kd.R_told (Kd.R_told (Kd.R_old (rz HO271) hb) (Kd.R_base ho0)) (Kd.R_base ho1)) (fun _ h_ => h_.1)); replace HO274 := Aside0.mk (Kd.R_mono (Kd.R_told (Kd.R_told (Kd.R_old (rz HO274) hb) (Kd.R_base ho0)) (Kd.R_base ho1)) (fun _ h_ => h_.1)); replace BK265 := kb BK265 hb; replace BK266 := kb BK266 hb; replace BK267 := kb BK267 hb; replace HB := bp hb; clear hb ho0 ho1; obtain ⟨Ao14, co14, eo14⟩ := Kd.R_slice HO278.out
 (first | subst eo14 | (injection eo14 with f1_ f2_ f3_; have f4_ := f1_.symm; have f5_ := f3_.symm; clear f1_ f2_ f3_; subst f4_; subst f5_))
 obtain ⟨Ao15, co15, eo15⟩ := Kd.R_slice HO281.out
 (first | subst eo15 | (injection eo15 with f1_ f2_ f3_; have f4_ := f1_.symm; have f5_ := f3_.symm; clear f1_ f2_ f3_; subst f4_; subst f5_))
 refine hK.out _ _ ⟨ct BK265 0, ct BK265 1, ct BK265 2, ct BK265 3, ct BK266 0, ct BK266 1, ct BK266 2⟩ (fun hHeld => ?_); clear hK K; refine zM 13 ?_; refine zN 7 (some 14) 10 255 (fun K hK => ?_); refine zG Try.func73 #[.agg #[.bool a2_0, .slice A2_1 l2_1.length c2_1, .slice A2_2 l2_2.length c2_2], .agg #[.bool t275, .slice Ao14 t276.length co14, .slice Ao15 t279.length co15]] ?_
 with_reducible refine (dioramaref10_times.calls k a2_0 _ _ l2_1 _ _ l2_2 t275 _ _ t276 _ _ t279 t282 t283 t286 _ ?side1 ?side2 ?side3 ?side4 ?side5 ?side6 ?side7 ?side8 A6.out).mono ?_
 (case side1 => exact cz HR2_1)
 (case side2 => exact HC2_1.out)
 (case side3 => exact cz HR2_2)
 (case side4 => exact HC2_2.out)
 (case side5 => exact cr HO278)
 (case side6 => exact (Kd.R_reads' HO278.out).2.1)
 (case side7 => exact cr HO281)
 (case side8 => exact (Kd.R_reads' HO281.out).2.1)
 rintro e w16 ⟨v284, v287, rfl, ho0, ho1, hb⟩; refine ⟨_, rfl, ?_⟩; have HO285 := Aside0.mk (Kd.R_lower (Kd.R_new' (Kd.R_new' (Kd.R_new' (Kd.R_new' ho0 (Kd.R_lt (rz HO271))) (Kd.R_lt (rz HO274))) (Kd.R_lt (rz HO278))) (Kd.R_lt (rz HO281))) sz); have HO288 := Aside0.mk (Kd.R_lower (Kd.R_new' (Kd.R_new' (Kd.R_new' (Kd.R_new' ho1 (Kd.R_lt (rz HO271))) (Kd.R_lt (rz HO274))) (Kd.R_lt (rz HO278))) (Kd.R_lt (rz HO281))) sz); replace HO271 := Aside0.mk (Kd.R_mono (Kd.R_told (Kd.R_told (Kd.R_old (rz HO271) hb) (Kd.R_base ho0)) (Kd.R_base ho1)) (fun _ h_ => h_.1)); replace HO274 := Aside0.mk (Kd.R_mono (Kd.R_told (Kd.R_told (Kd.R_old (rz HO274) hb) (Kd.R_base ho0)) (Kd.R_base ho1)) (fun _ h_ => h_.1)); replace HO278 := Aside0.mk (Kd.R_mono (Kd.R_told (Kd.R_told (Kd.R_old (rz HO278) hb) (Kd.R_base ho0)) (Kd.R_base ho1)) (fun _ h_ => h_.1)); replace HO281 := Aside0.mk (Kd.R_mono (Kd.R_told (Kd.R_told (Kd.R_old (rz HO281) hb) (Kd.R_base ho0)) (Kd.R_base ho1)) (fun _ h_ => h_.1)); replace BK265 := kb BK265 hb; replace BK266 := kb BK266 hb; replace BK267 := kb BK267 hb; replace HB := bp hb; clear hb ho0 ho1; obtain ⟨Ao17, co17, eo17⟩ := Kd.R_slice HO271.out
 (first | subst eo17 | (injection eo17 with f1_ f2_ f3_; have f4_ := f1_.symm; have f5_ := f3_.symm; clear f1_ f2_ f3_; subst f4_; subst f5_))
 obtain ⟨Ao18, co18, eo18⟩ := Kd.R_slice HO274.out
 (first | subst eo18 | (injection eo18 with f1_ f2_ f3_; have f4_ := f1_.symm; have f5_ := f3_.symm; clear f1_ f2_ f3_; subst f4_; subst f5_))
 obtain ⟨Ao19, co19, eo19⟩ := Kd.R_slice HO285.out
 (first | subst eo19 | (injection eo19 with f1_ f2_ f3_; have f4_ := f1_.symm; have f5_ := f3_.symm; clear f1_ f2_ f3_; subst f4_; subst f5_))
 obtain ⟨Ao20, co20, eo20⟩ := Kd.R_slice HO288.out
 (first | subst eo20 | (injection eo20 with f1_ f2_ f3_; have f4_ := f1_.symm; have f5_ := f3_.symm; clear f1_ f2_ f3_; subst f4_; subst f5_))
 refine hK.out _ _ ⟨ct BK265 0, ct BK265 1, ct BK265 2, ct BK265 3, ct BK266 0, ct BK266 1, ct BK266 2⟩ (fun hHeld => ?_); clear hK K; refine zM 14 ?_; refine zN 8 (some 15) 10 511 (fun K hK => ?_); refine zG Try.func69 #[.agg #[.bool t268, .slice Ao17 t269.length co17, .slice Ao18 t272.length co18], .agg #[.bool t282, .slice Ao19 t283.length co19, .slice Ao20 t286.length co20]] ?_
 with_reducible refine (dioramaref10_plus.calls k t268 _ _ t269 _ _ t272 t282 _ _ t283 _ _ t286 t289 t290 t293 _ ?side1 ?side2 ?side3 ?side4 ?side5 ?side6 ?side7 ?side8 A7.out).mono ?_
 (case side1 => exact cr HO271)
 (case side2 => exact (Kd.R_reads' HO271.out).2.1)
 (case side3 => exact cr HO274)
 (case side4 => exact (Kd.R_reads' HO274.out).2.1)
 (case side5 => exact cr HO285)
 (case side6 => exact (Kd.R_reads' HO285.out).2.1)
 (case side7 => exact cr HO288)
 (case side8 => exact (Kd.R_reads' HO288.out).2.1)
 rintro e w21 ⟨v291, v294, rfl, ho0, ho1, hb⟩; refine ⟨_, rfl, ?_⟩; have HO292 := Aside0.mk (Kd.R_lower (Kd.R_new' (Kd.R_new' (Kd.R_new' (Kd.R_new' (Kd.R_new' (Kd.R_new' ho0 (Kd.R_lt (rz HO271))) (Kd.R_lt (rz HO274))) (Kd.R_lt (rz HO278))) (Kd.R_lt (rz HO281))) (Kd.R_lt (rz HO285))) (Kd.R_lt (rz HO288))) sz); have HO295 := Aside0.mk (Kd.R_lower (Kd.R_new' (Kd.R_new' (Kd.R_new' (Kd.R_new' (Kd.R_new' (Kd.R_new' ho1 (Kd.R_lt (rz HO271))) (Kd.R_lt (rz HO274))) (Kd.R_lt (rz HO278))) (Kd.R_lt (rz HO281))) (Kd.R_lt (rz HO285))) (Kd.R_lt (rz HO288))) sz); replace HO271 := Aside0.mk (Kd.R_mono (Kd.R_told (Kd.R_told (Kd.R_old (rz HO271) hb) (Kd.R_base ho0)) (Kd.R_base ho1)) (fun _ h_ => h_.1)); replace HO274 := Aside0.mk (Kd.R_mono (Kd.R_told (Kd.R_told (Kd.R_old (rz HO274) hb) (Kd.R_base ho0)) (Kd.R_base ho1)) (fun _ h_ => h_.1)); replace HO278 := Aside0.mk (Kd.R_mono (Kd.R_told (Kd.R_told (Kd.R_old (rz HO278) hb) (Kd.R_base ho0)) (Kd.R_base ho1)) (fun _ h_ => h_.1)); replace HO281 := Aside0.mk (Kd.R_mono (Kd.R_told (Kd.R_told (Kd.R_old (rz HO281) hb) (Kd.R_base ho0)) (Kd.R_base ho1)) (fun _ h_ => h_.1)); replace HO285 := Aside0.mk (Kd.R_mono (Kd.R_told (Kd.R_told (Kd.R_old (rz HO285) hb) (Kd.R_base ho0)) (Kd.R_base ho1)) (fun _ h_ => h_.1)); replace HO288 := Aside0.mk (Kd.R_mono (Kd.R_told (Kd.R_told (Kd.R_old (rz HO288) hb) (Kd.R_base ho0)) (Kd.R_base ho1)) (fun _ h_ => h_.1)); replace BK265 := kb BK265 hb; replace BK266 := kb BK266 hb; replace BK267 := kb BK267 hb; replace HB := bp hb; clear hb ho0 ho1; obtain ⟨Ao23, co23, eo23⟩ := Kd.R_slice HO292.out
 (first | subst eo23 | (injection eo23 with f1_ f2_ f3_; have f4_ := f1_.symm; have f5_ := f3_.symm; clear f1_ f2_ f3_; subst f4_; subst f5_))
 obtain ⟨Ao25, co25, eo25⟩ := Kd.R_slice HO295.out
 (first | subst eo25 | (injection eo25 with f1_ f2_ f3_; have f4_ := f1_.symm; have f5_ := f3_.symm; clear f1_ f2_ f3_; subst f4_; subst f5_))
 refine hK.out _ _ ⟨ct BK265 0, ct BK265 1, ct BK265 2, ct BK265 3, ct BK266 0, ct BK266 1, ct BK266 2⟩ (fun hHeld => ?_); clear hK K; refine zM 15 ?_; refine zN 9 none 10 1023 (fun K hK => ?_); have hs22 : w21.cell? ⟨gb267, 0, none⟩ = some (.bool false) := ct BK267 0; have hfs22 := blk_frozen BK267.out 0; have hns22_0 := NB265_267.out; have hns22_1 := NB266_267.out; have hms22_0 := NB267_265.out; have hms22_1 := NB267_266.out; have hs24 : w21.cell? ⟨gb267, 1, none⟩ = some (.slice none 0 0) := ct BK267 1; have hfs24 := blk_frozen BK267.out 1; have hns24_0 := NB265_267.out; have hns24_1 := NB266_267.out; have hms24_0 := NB267_265.out; have hms24_1 := NB267_266.out; have hs26 : w21.cell? ⟨gb267, 2, none⟩ = some (.slice none 0 0) := ct BK267 2; have hfs26 := blk_frozen BK267.out 2; have hns26_0 := NB265_267.out; have hns26_1 := NB266_267.out; have hms26_0 := NB267_265.out; have hms26_1 := NB267_266.out; refine skip_ (w1 := ?_) (by rfl) rfl ?_ ?_
 rotate_left
 ·go_simp
  rfl
 refine hK.out _ _ ⟨((cell_far (p := ⟨gb267, _, none⟩) NB265_267.out _).trans (((cell_far (p := ⟨gb267, _, none⟩) NB265_267.out _).trans (((cell_far (p := ⟨gb267, _, none⟩) NB265_267.out _).trans (hHeld.1)))))), ((cell_far (p := ⟨gb267, _, none⟩) NB265_267.out _).trans (((cell_far (p := ⟨gb267, _, none⟩) NB265_267.out _).trans (((cell_far (p := ⟨gb267, _, none⟩) NB265_267.out _).trans (hHeld.2.1)))))), ((cell_far (p := ⟨gb267, _, none⟩) NB265_267.out _).trans (((cell_far (p := ⟨gb267, _, none⟩) NB265_267.out _).trans (((cell_far (p := ⟨gb267, _, none⟩) NB265_267.out _).trans (hHeld.2.2.1)))))), ((cell_far (p := ⟨gb267, _, none⟩) NB265_267.out _).trans (((cell_far (p := ⟨gb267, _, none⟩) NB265_267.out _).trans (((cell_far (p := ⟨gb267, _, none⟩) NB265_267.out _).trans (hHeld.2.2.2.1)))))), ((cell_far (p := ⟨gb267, _, none⟩) NB266_267.out _).trans (((cell_far (p := ⟨gb267, _, none⟩) NB266_267.out _).trans (((cell_far (p := ⟨gb267, _, none⟩) NB266_267.out _).trans (hHeld.2.2.2.2.1)))))), ((cell_far (p := ⟨gb267, _, none⟩) NB266_267.out _).trans (((cell_far (p := ⟨gb267, _, none⟩) NB266_267.out _).trans (((cell_far (p := ⟨gb267, _, none⟩) NB266_267.out _).trans (hHeld.2.2.2.2.2.1)))))), ((cell_far (p := ⟨gb267, _, none⟩) NB266_267.out _).trans (((cell_far (p := ⟨gb267, _, none⟩) NB266_267.out _).trans (((cell_far (p := ⟨gb267, _, none⟩) NB266_267.out _).trans (hHeld.2.2.2.2.2.2))))))⟩ (fun hHeld => ?_); clear hK K; refine done_ (by kernel_rfl) ?_
 try go_wp2
 refine bodyPost_ret (results_cell_row rfl _ _ gb267 95 #[.bool t289, .slice Ao23 t290.length co23, .slice Ao25 t293.length co25] (0, 0) _ rfl (by (with_reducible repeat (first | refine blk_drewN ?_ _ | refine blk_drew ?_ | refine blk_alloc ?_ _)); refine blk_put (cs := #[.bool t289, .slice Ao23 t290.length co23, .slice none 0 0]) ?_ 2 _ rfl; (with_reducible repeat (first | refine blk_drewN ?_ _ | refine blk_drew ?_ | refine blk_alloc ?_ _)); refine blk_put (cs := #[.bool t289, .slice none 0 0, .slice none 0 0]) ?_ 1 _ rfl; (with_reducible repeat (first | refine blk_drewN ?_ _ | refine blk_drew ?_ | refine blk_alloc ?_ _)); refine blk_put (cs := #[.bool false, .slice none 0 0, .slice none 0 0]) ?_ 0 _ rfl; (with_reducible repeat (first | refine blk_drewN ?_ _ | refine blk_drew ?_ | refine blk_alloc ?_ _)); exact BK267.out) Try.underlying95 rfl (by kernel_rfl)) rfl ?_
 exact ⟨_, _, ez, by (with_reducible repeat (first | apply Kd.R_alloc | apply Kd.R_drewN | apply Kd.R_drew)); exact Kd.R_mono (Kd.R_far (p := ⟨gb267, 2, none⟩) (Kd.R_far (p := ⟨gb267, 1, none⟩) (Kd.R_far (p := ⟨gb267, 0, none⟩) (Kd.R_types HO292.out BK267.out (by decide)) (fun _ hk => hk.2) (.bool t289)) (fun _ hk => hk.2) (.slice Ao23 t290.length co23)) (fun _ hk => hk.2) (.slice Ao25 t293.length co25)) (fun _ hk => hk.1.1.1.1.1.1.1), by (with_reducible repeat (first | apply Kd.R_alloc | apply Kd.R_drewN | apply Kd.R_drew)); exact Kd.R_mono (Kd.R_far (p := ⟨gb267, 2, none⟩) (Kd.R_far (p := ⟨gb267, 1, none⟩) (Kd.R_far (p := ⟨gb267, 0, none⟩) (Kd.R_types HO295.out BK267.out (by decide)) (fun _ hk => hk.2) (.bool t289)) (fun _ hk => hk.2) (.slice Ao23 t290.length co23)) (fun _ hk => hk.2) (.slice Ao25 t293.length co25)) (fun _ hk => hk.1.1.1.1.1.1.1), bz⟩
def dioramaref02_Less.f (k : Nat) (a0_0 : Bool) (l0_1 : List Int) (l0_2 : List Int) (a1_0 : Bool) (l1_1 : List Int) (l1_2 : List Int) : Option (Bool) := (dioramaref02_Sum.f k a0_0 l0_1 l0_2 (!a1_0) l1_1 l1_2).bind fun bt298 => (if bt298.1 = true then (some (decide ((bt298.2.1.length : Int) > 0))) else (some false))
theorem dioramaref02_Less.mono : ∀ a0 a1 a2 a3 a4 a5 k, LeO (dioramaref02_Less.f k a0 a1 a2 a3 a4 a5) (dioramaref02_Less.f (k + 1) a0 a1 a2 a3 a4 a5) := by
  intro a0 a1 a2 a3 a4 a5 k
  unfold dioramaref02_Less.f
  repeat' first
      | (with_reducible exact dioramaref02_Sum.mono _ _ _ _ _ _ _)
      | (with_reducible exact LeO.refl _)
      | (with_reducible exact LeO.none _)
      | (with_reducible refine LeO.ite ?_ ?_)
      | (with_reducible refine LeO.bind ?_ (fun _ => ?_))
      | exact dioramaref02_Sum.mono _ _ _ _ _ _ _
      | exact LeO.none _
      | refine LeO.ite ?_ ?_
      | refine LeO.bind ?_ (fun _ => ?_)
set_option maxHeartbeats 8000000 in
set_option maxRecDepth 100000 in
theorem dioramaref02_Less.calls (k : Nat) (a0_0 : Bool) (A0_1 : Option Addr) (c0_1 : Nat) (l0_1 : List Int) (A0_2 : Option Addr) (c0_2 : Nat) (l0_2 : List Int) (a1_0 : Bool) (A1_1 : Option Addr) (c1_1 : Nat) (l1_1 : List Int) (A1_2 : Option Addr) (c1_2 : Nat) (l1_2 : List Int) (r : Bool) (w : World) (hr0_1 : Kd.C (Kd.int .i64) w A0_1 l0_1.length l0_1) (hc0_1 : l0_1.length ≤ c0_1) (hr0_2 : Kd.C (Kd.int .i64) w A0_2 l0_2.length l0_2) (hc0_2 : l0_2.length ≤ c0_2) (hr1_1 : Kd.C (Kd.int .i64) w A1_1 l1_1.length l1_1) (hc1_1 : l1_1.length ≤ c1_1) (hr1_2 : Kd.C (Kd.int .i64) w A1_2 l1_2.length l1_2) (hc1_2 : l1_2.length ≤ c1_2) (h : dioramaref02_Less.f k a0_0 l0_1 l0_2 a1_0 l1_1 l1_2 = some r) :
  Calls Try.prog 86 #[.agg #[.bool a0_0, .slice A0_1 l0_1.length c0_1, .slice A0_2 l0_2.length c0_2], .agg #[.bool a1_0, .slice A1_1 l1_1.length c1_1, .slice A1_2 l1_2.length c1_2]] w fun e w' => e = .returned (.bool r) ∧ Below w.heap.size w w' := by
 have hu95 := Try.underlying95; have HR0_1 := Aside0.mk hr0_1; have HC0_1 := Aside0.mk hc0_1; clear hr0_1 hc0_1; have HR0_2 := Aside0.mk hr0_2; have HC0_2 := Aside0.mk hc0_2; clear hr0_2 hc0_2; have HR1_1 := Aside0.mk hr1_1; have HC1_1 := Aside0.mk hc1_1; clear hr1_1 hc1_1; have HR1_2 := Aside0.mk hr1_2; have HC1_2 := Aside0.mk hc1_2; clear hr1_2 hc1_2; have HB := Aside0.mk (Below.refl w.heap.size w); have H : ((dioramaref02_Sum.f k a0_0 l0_1 l0_2 (!a1_0) l1_1 l1_2).bind fun bt298 => (if bt298.1 = true then (some (decide ((bt298.2.1.length : Int) > 0))) else (some false))) = some r := h
 clear h; obtain ⟨⟨t298, t299, t302⟩, A3, H⟩ := ob H
 (try dsimp only at H)
 by_cases c4 : t298 = true
 ·subst c4; rw [if_pos rfl] at H; obtain rfl := Option.some.inj H
  go_enter Try.func86, Try.ntmps86
  go_wp2_with (first | ((with_reducible refine gate_dst (N := 2) rfl ?_); refine zB 2 95 #[.bool a0_0, .slice A0_1 l0_1.length c0_1, .slice A0_2 l0_2.length c0_2] ?_; intro gb296 hg w5 hbox hb; have BK296 := Aside0.mk hbox; have GW296 := gz hg; have GE296 := gz hg; replace HB := bp hb; clear hb hbox hg) | ((with_reducible refine gate_dst (N := 3) rfl ?_); refine zB 3 95 #[.bool a1_0, .slice A1_1 l1_1.length c1_1, .slice A1_2 l1_2.length c1_2] ?_; intro gb297 hg w6 hbox hb; have BK297 := Aside0.mk hbox; have GW297 := gz hg; have GE297 := gz hg; replace HB := bp hb; have NB296_297 := Aside0.mk ((by rw [hg]; exact Nat.ne_of_lt (bl BK296) : gb296 ≠ gb297)); have NB297_296 := Aside0.mk ((by rw [hg]; exact Nat.ne_of_gt (bl BK296) : gb297 ≠ gb296)); replace BK296 := kb BK296 hb; clear hb hbox hg; have hnb7 := NB296_297.out; have hnc7 := NB297_296.out; obtain ⟨hcz8_0, hcz8_1, hcz8_2, hfz8_0, hfz8_1, hfz8_2⟩ := xc3 BK296; obtain ⟨hcz9_0, hcz9_1, hcz9_2, hfz9_0, hfz9_1, hfz9_2⟩ := xc3 BK297) | ((with_reducible refine gate_callee (f := 98) rfl ?_); refine zC 15 Try.func98 #[.agg #[.bool a0_0, .slice A0_1 l0_1.length c0_1, .slice A0_2 l0_2.length c0_2], .agg #[.bool (!a1_0), .slice A1_1 l1_1.length c1_1, .slice A1_2 l1_2.length c1_2]] ?_; (with_reducible refine (dioramaref02_Sum.calls k a0_0 _ _ l0_1 _ _ l0_2 (!a1_0) _ _ l1_1 _ _ l1_2 true t299 t302 _ ?side1 ?side2 ?side3 ?side4 ?side5 ?side6 ?side7 ?side8 A3.out).mono ?_); (case side1 => exact cz HR0_1); (case side2 => exact HC0_1.out); (case side3 => exact cz HR0_2); (case side4 => exact HC0_2.out); (case side5 => exact cz HR1_1); (case side6 => exact HC1_1.out); (case side7 => exact cz HR1_2); (case side8 => exact HC1_2.out); rintro e w10 ⟨v300, v303, rfl, ho0, ho1, hb⟩; refine ⟨_, rfl, ?_⟩; have HO301 := Aside0.mk (Kd.R_lower ho0 sz); have HO304 := Aside0.mk (Kd.R_lower ho1 sz); replace BK296 := kb BK296 hb; replace BK297 := kb BK297 hb; replace HB := bp hb; clear hb ho0 ho1) | ((with_reducible refine gate_dst (N := 5) rfl ?_); refine zB 5 95 #[.bool false, .slice none 0 0, .slice none 0 0] ?_; intro gb305 hg w11 hbox hb; replace HO301 := Aside0.mk (Kd.R_below (rz HO301) hb); replace HO304 := Aside0.mk (Kd.R_below (rz HO304) hb); have BK305 := Aside0.mk hbox; have GW305 := gz hg; have GE305 := gz hg; replace HB := bp hb; have NB296_305 := Aside0.mk ((by rw [hg]; exact Nat.ne_of_lt (bl BK296) : gb296 ≠ gb305)); have NB305_296 := Aside0.mk ((by rw [hg]; exact Nat.ne_of_gt (bl BK296) : gb305 ≠ gb296)); replace BK296 := kb BK296 hb; have NB297_305 := Aside0.mk ((by rw [hg]; exact Nat.ne_of_lt (bl BK297) : gb297 ≠ gb305)); have NB305_297 := Aside0.mk ((by rw [hg]; exact Nat.ne_of_gt (bl BK297) : gb305 ≠ gb297)); replace BK297 := kb BK297 hb; clear hb hbox hg; have hnb12 := NB305_296.out; have hnc12 := NB296_305.out; have hnb13 := NB305_297.out; have hnc13 := NB297_305.out; obtain ⟨hcz14_0, hcz14_1, hcz14_2, hfz14_0, hfz14_1, hfz14_2⟩ := xc3 BK305; obtain ⟨Ao15, co15, eo15⟩ := Kd.R_slice HO301.out; subst eo15; obtain ⟨Ao16, co16, eo16⟩ := Kd.R_slice HO304.out; subst eo16))
  go_ret
  exact ⟨ez, bz⟩
 ·obtain rfl := bf c4; rw [if_neg (show ¬ (false = true) by decide)] at H; obtain rfl := Option.some.inj H
  go_enter Try.func86, Try.ntmps86
  go_wp2_with (first | ((with_reducible refine gate_dst (N := 2) rfl ?_); refine zB 2 95 #[.bool a0_0, .slice A0_1 l0_1.length c0_1, .slice A0_2 l0_2.length c0_2] ?_; intro gb296 hg w17 hbox hb; have BK296 := Aside0.mk hbox; have GW296 := gz hg; have GE296 := gz hg; replace HB := bp hb; clear hb hbox hg) | ((with_reducible refine gate_dst (N := 3) rfl ?_); refine zB 3 95 #[.bool a1_0, .slice A1_1 l1_1.length c1_1, .slice A1_2 l1_2.length c1_2] ?_; intro gb297 hg w18 hbox hb; have BK297 := Aside0.mk hbox; have GW297 := gz hg; have GE297 := gz hg; replace HB := bp hb; have NB296_297 := Aside0.mk ((by rw [hg]; exact Nat.ne_of_lt (bl BK296) : gb296 ≠ gb297)); have NB297_296 := Aside0.mk ((by rw [hg]; exact Nat.ne_of_gt (bl BK296) : gb297 ≠ gb296)); replace BK296 := kb BK296 hb; clear hb hbox hg; have hnb19 := NB296_297.out; have hnc19 := NB297_296.out; obtain ⟨hcz20_0, hcz20_1, hcz20_2, hfz20_0, hfz20_1, hfz20_2⟩ := xc3 BK296; obtain ⟨hcz21_0, hcz21_1, hcz21_2, hfz21_0, hfz21_1, hfz21_2⟩ := xc3 BK297) | ((with_reducible refine gate_callee (f := 98) rfl ?_); refine zC 15 Try.func98 #[.agg #[.bool a0_0, .slice A0_1 l0_1.length c0_1, .slice A0_2 l0_2.length c0_2], .agg #[.bool (!a1_0), .slice A1_1 l1_1.length c1_1, .slice A1_2 l1_2.length c1_2]] ?_; (with_reducible refine (dioramaref02_Sum.calls k a0_0 _ _ l0_1 _ _ l0_2 (!a1_0) _ _ l1_1 _ _ l1_2 false t299 t302 _ ?side1 ?side2 ?side3 ?side4 ?side5 ?side6 ?side7 ?side8 A3.out).mono ?_); (case side1 => exact cz HR0_1); (case side2 => exact HC0_1.out); (case side3 => exact cz HR0_2); (case side4 => exact HC0_2.out); (case side5 => exact cz HR1_1); (case side6 => exact HC1_1.out); (case side7 => exact cz HR1_2); (case side8 => exact HC1_2.out); rintro e w22 ⟨v300, v303, rfl, ho0, ho1, hb⟩; refine ⟨_, rfl, ?_⟩; have HO301 := Aside0.mk (Kd.R_lower ho0 sz); have HO304 := Aside0.mk (Kd.R_lower ho1 sz); replace BK296 := kb BK296 hb; replace BK297 := kb BK297 hb; replace HB := bp hb; clear hb ho0 ho1) | ((with_reducible refine gate_dst (N := 5) rfl ?_); refine zB 5 95 #[.bool false, .slice none 0 0, .slice none 0 0] ?_; intro gb305 hg w23 hbox hb; replace HO301 := Aside0.mk (Kd.R_below (rz HO301) hb); replace HO304 := Aside0.mk (Kd.R_below (rz HO304) hb); have BK305 := Aside0.mk hbox; have GW305 := gz hg; have GE305 := gz hg; replace HB := bp hb; have NB296_305 := Aside0.mk ((by rw [hg]; exact Nat.ne_of_lt (bl BK296) : gb296 ≠ gb305)); have NB305_296 := Aside0.mk ((by rw [hg]; exact Nat.ne_of_gt (bl BK296) : gb305 ≠ gb296)); replace BK296 := kb BK296 hb; have NB297_305 := Aside0.mk ((by rw [hg]; exact Nat.ne_of_lt (bl BK297) : gb297 ≠ gb305)); have NB305_297 := Aside0.mk ((by rw [hg]; exact Nat.ne_of_gt (bl BK297) : gb305 ≠ gb297)); replace BK297 := kb BK297 hb; clear hb hbox hg; have hnb24 := NB305_296.out; have hnc24 := NB296_305.out; have hnb25 := NB305_297.out; have hnc25 := NB297_305.out; obtain ⟨hcz26_0, hcz26_1, hcz26_2, hfz26_0, hfz26_1, hfz26_2⟩ := xc3 BK305; obtain ⟨Ao27, co27, eo27⟩ := Kd.R_slice HO301.out; subst eo27; obtain ⟨Ao28, co28, eo28⟩ := Kd.R_slice HO304.out; subst eo28))
  go_ret
  exact ⟨ez, bz⟩
def dioramaref10_equal.f (k : Nat) (a0_0 : Bool) (l0_1 : List Int) (l0_2 : List Int) (a1_0 : Bool) (l1_1 : List Int) (l1_2 : List Int) : Option (Bool) := (dioramaref02_Less.f k a0_0 l0_1 l0_2 a1_0 l1_1 l1_2).bind fun t308 => (if t308 = true then (some false) else ((dioramaref02_Less.f k a1_0 l1_1 l1_2 a0_0 l0_1 l0_2).bind fun t309 => (some (!t309))))
theorem dioramaref10_equal.mono : ∀ a0 a1 a2 a3 a4 a5 k, LeO (dioramaref10_equal.f k a0 a1 a2 a3 a4 a5) (dioramaref10_equal.f (k + 1) a0 a1 a2 a3 a4 a5) := by
  intro a0 a1 a2 a3 a4 a5 k
  unfold dioramaref10_equal.f
  repeat' first
      | (with_reducible exact dioramaref02_Less.mono _ _ _ _ _ _ _)
      | (with_reducible exact LeO.refl _)
      | (with_reducible exact LeO.none _)
      | (with_reducible refine LeO.ite ?_ ?_)
      | (with_reducible refine LeO.bind ?_ (fun _ => ?_))
      | exact dioramaref02_Less.mono _ _ _ _ _ _ _
      | exact LeO.none _
      | refine LeO.ite ?_ ?_
      | refine LeO.bind ?_ (fun _ => ?_)
set_option maxHeartbeats 8000000 in
set_option maxRecDepth 100000 in
theorem dioramaref10_equal.calls (k : Nat) (a0_0 : Bool) (A0_1 : Option Addr) (c0_1 : Nat) (l0_1 : List Int) (A0_2 : Option Addr) (c0_2 : Nat) (l0_2 : List Int) (a1_0 : Bool) (A1_1 : Option Addr) (c1_1 : Nat) (l1_1 : List Int) (A1_2 : Option Addr) (c1_2 : Nat) (l1_2 : List Int) (r : Bool) (w : World) (hr0_1 : Kd.C (Kd.int .i64) w A0_1 l0_1.length l0_1) (hc0_1 : l0_1.length ≤ c0_1) (hr0_2 : Kd.C (Kd.int .i64) w A0_2 l0_2.length l0_2) (hc0_2 : l0_2.length ≤ c0_2) (hr1_1 : Kd.C (Kd.int .i64) w A1_1 l1_1.length l1_1) (hc1_1 : l1_1.length ≤ c1_1) (hr1_2 : Kd.C (Kd.int .i64) w A1_2 l1_2.length l1_2) (hc1_2 : l1_2.length ≤ c1_2) (h : dioramaref10_equal.f k a0_0 l0_1 l0_2 a1_0 l1_1 l1_2 = some r) :
  Calls Try.prog 160 #[.agg #[.bool a0_0, .slice A0_1 l0_1.length c0_1, .slice A0_2 l0_2.length c0_2], .agg #[.bool a1_0, .slice A1_1 l1_1.length c1_1, .slice A1_2 l1_2.length c1_2]] w fun e w' => e = .returned (.bool r) ∧ Below w.heap.size w w' := by
 have hu95 := Try.underlying95; have HR0_1 := Aside0.mk hr0_1; have HC0_1 := Aside0.mk hc0_1; clear hr0_1 hc0_1; have HR0_2 := Aside0.mk hr0_2; have HC0_2 := Aside0.mk hc0_2; clear hr0_2 hc0_2; have HR1_1 := Aside0.mk hr1_1; have HC1_1 := Aside0.mk hc1_1; clear hr1_1 hc1_1; have HR1_2 := Aside0.mk hr1_2; have HC1_2 := Aside0.mk hc1_2; clear hr1_2 hc1_2; have HB := Aside0.mk (Below.refl w.heap.size w); have H : ((dioramaref02_Less.f k a0_0 l0_1 l0_2 a1_0 l1_1 l1_2).bind fun t308 => (if t308 = true then (some false) else ((dioramaref02_Less.f k a1_0 l1_1 l1_2 a0_0 l0_1 l0_2).bind fun t309 => (some (!t309))))) = some r := h
 clear h; obtain ⟨t308, A3, H⟩ := ob H
 by_cases c4 : t308 = true
 ·subst c4; rw [if_pos rfl] at H; obtain rfl := Option.some.inj H
  go_enter Try.func160, Try.ntmps160
  go_wp2_with (first | ((with_reducible refine gate_dst (N := 2) rfl ?_); refine zB 2 95 #[.bool a0_0, .slice A0_1 l0_1.length c0_1, .slice A0_2 l0_2.length c0_2] ?_; intro gb306 hg w5 hbox hb; have BK306 := Aside0.mk hbox; have GW306 := gz hg; have GE306 := gz hg; replace HB := bp hb; clear hb hbox hg) | ((with_reducible refine gate_dst (N := 3) rfl ?_); refine zB 3 95 #[.bool a1_0, .slice A1_1 l1_1.length c1_1, .slice A1_2 l1_2.length c1_2] ?_; intro gb307 hg w6 hbox hb; have BK307 := Aside0.mk hbox; have GW307 := gz hg; have GE307 := gz hg; replace HB := bp hb; have NB306_307 := Aside0.mk ((by rw [hg]; exact Nat.ne_of_lt (bl BK306) : gb306 ≠ gb307)); have NB307_306 := Aside0.mk ((by rw [hg]; exact Nat.ne_of_gt (bl BK306) : gb307 ≠ gb306)); replace BK306 := kb BK306 hb; clear hb hbox hg; have hnb7 := NB306_307.out; have hnc7 := NB307_306.out; obtain ⟨hcz8_0, hcz8_1, hcz8_2, hfz8_0, hfz8_1, hfz8_2⟩ := xc3 BK306; obtain ⟨hcz9_0, hcz9_1, hcz9_2, hfz9_0, hfz9_1, hfz9_2⟩ := xc3 BK307) | ((with_reducible refine gate_callee (f := 86) rfl ?_); refine zC 7 Try.func86 #[.agg #[.bool a0_0, .slice A0_1 l0_1.length c0_1, .slice A0_2 l0_2.length c0_2], .agg #[.bool a1_0, .slice A1_1 l1_1.length c1_1, .slice A1_2 l1_2.length c1_2]] ?_; (with_reducible refine (dioramaref02_Less.calls k a0_0 _ _ l0_1 _ _ l0_2 a1_0 _ _ l1_1 _ _ l1_2 true _ ?side1 ?side2 ?side3 ?side4 ?side5 ?side6 ?side7 ?side8 A3.out).mono ?_); (case side1 => exact cz HR0_1); (case side2 => exact HC0_1.out); (case side3 => exact cz HR0_2); (case side4 => exact HC0_2.out); (case side5 => exact cz HR1_1); (case side6 => exact HC1_1.out); (case side7 => exact cz HR1_2); (case side8 => exact HC1_2.out); rintro e w10 ⟨rfl, hb⟩; refine ⟨_, rfl, ?_⟩; replace BK306 := kb BK306 hb; replace BK307 := kb BK307 hb; replace HB := bp hb; clear hb))
  go_ret
  exact ⟨ez, bz⟩
 ·obtain rfl := bf c4; rw [if_neg (show ¬ (false = true) by decide)] at H; obtain ⟨t309, A11, H⟩ := ob H; obtain rfl := Option.some.inj H
  go_enter Try.func160, Try.ntmps160
  go_wp2_with (first | ((with_reducible refine gate_dst (N := 2) rfl ?_); refine zB 2 95 #[.bool a0_0, .slice A0_1 l0_1.length c0_1, .slice A0_2 l0_2.length c0_2] ?_; intro gb306 hg w12 hbox hb; have BK306 := Aside0.mk hbox; have GW306 := gz hg; have GE306 := gz hg; replace HB := bp hb; clear hb hbox hg) | ((with_reducible refine gate_dst (N := 3) rfl ?_); refine zB 3 95 #[.bool a1_0, .slice A1_1 l1_1.length c1_1, .slice A1_2 l1_2.length c1_2] ?_; intro gb307 hg w13 hbox hb; have BK307 := Aside0.mk hbox; have GW307 := gz hg; have GE307 := gz hg; replace HB := bp hb; have NB306_307 := Aside0.mk ((by rw [hg]; exact Nat.ne_of_lt (bl BK306) : gb306 ≠ gb307)); have NB307_306 := Aside0.mk ((by rw [hg]; exact Nat.ne_of_gt (bl BK306) : gb307 ≠ gb306)); replace BK306 := kb BK306 hb; clear hb hbox hg; have hnb14 := NB306_307.out; have hnc14 := NB307_306.out; obtain ⟨hcz15_0, hcz15_1, hcz15_2, hfz15_0, hfz15_1, hfz15_2⟩ := xc3 BK306; obtain ⟨hcz16_0, hcz16_1, hcz16_2, hfz16_0, hfz16_1, hfz16_2⟩ := xc3 BK307) | ((with_reducible refine gate_callee (f := 86) rfl ?_); refine zC 7 Try.func86 #[.agg #[.bool a0_0, .slice A0_1 l0_1.length c0_1, .slice A0_2 l0_2.length c0_2], .agg #[.bool a1_0, .slice A1_1 l1_1.length c1_1, .slice A1_2 l1_2.length c1_2]] ?_; (with_reducible refine (dioramaref02_Less.calls k a0_0 _ _ l0_1 _ _ l0_2 a1_0 _ _ l1_1 _ _ l1_2 false _ ?side1 ?side2 ?side3 ?side4 ?side5 ?side6 ?side7 ?side8 A3.out).mono ?_); (case side1 => exact cz HR0_1); (case side2 => exact HC0_1.out); (case side3 => exact cz HR0_2); (case side4 => exact HC0_2.out); (case side5 => exact cz HR1_1); (case side6 => exact HC1_1.out); (case side7 => exact cz HR1_2); (case side8 => exact HC1_2.out); rintro e w17 ⟨rfl, hb⟩; refine ⟨_, rfl, ?_⟩; replace BK306 := kb BK306 hb; replace BK307 := kb BK307 hb; replace HB := bp hb; clear hb; obtain ⟨hcz18_0, hcz18_1, hcz18_2, hfz18_0, hfz18_1, hfz18_2⟩ := xc3 BK307; obtain ⟨hcz19_0, hcz19_1, hcz19_2, hfz19_0, hfz19_1, hfz19_2⟩ := xc3 BK306) | (go_at_call 86; (with_reducible refine (dioramaref02_Less.calls k a1_0 _ _ l1_1 _ _ l1_2 a0_0 _ _ l0_1 _ _ l0_2 t309 _ ?side1 ?side2 ?side3 ?side4 ?side5 ?side6 ?side7 ?side8 A11.out).mono ?_); (case side1 => exact cz HR1_1); (case side2 => exact HC1_1.out); (case side3 => exact cz HR1_2); (case side4 => exact HC1_2.out); (case side5 => exact cz HR0_1); (case side6 => exact HC0_1.out); (case side7 => exact cz HR0_2); (case side8 => exact HC0_2.out); rintro e w20 ⟨rfl, hb⟩; replace BK306 := kb BK306 hb; replace BK307 := kb BK307 hb; replace HB := bp hb; clear hb))
  go_ret
  exact ⟨ez, bz⟩
mutual
def dioramaref10_over.j0 : Nat → Int → Int → Bool → Int → Int → Int → Int → Int → Int → Int → Int → Option (Bool)
  | 0, _, _, _, _, _, _, _, _, _, _, _ => none
  | k + 1, x2, x3, x14, x311000, x311001, x311002, x311003, x312000, x312001, x312002, x312003 => if x14 = true then ((dioramaref10_isEmpty.f x311000 x311001 x311002 x311003).bind fun t314 => (if t314 = true then ((dioramaref10_isEmpty.f x312000 x312001 x312002 x312003).bind fun t315 => (some t315)) else (some false))) else (if x311002 = 0 then (dioramaref10_over.j1 k x2 x3 true x311000 x311001 x311002 x311003 x312000 x312001 x312002 x312003) else (dioramaref10_over.j1 k x2 x3 (x312002 == 0) x311000 x311001 x311002 x311003 x312000 x312001 x312002 x312003))
def dioramaref10_over.j1 : Nat → Int → Int → Bool → Int → Int → Int → Int → Int → Int → Int → Int → Option (Bool)
  | 0, _, _, _, _, _, _, _, _, _, _, _ => none
  | k + 1, x2, x3, x28, x311000, x311001, x311002, x311003, x312000, x312001, x312002, x312003 => if x28 = true then (if x311002 = 0 then (if x312002 = 0 then (some (x311001 == x312001)) else (some false)) else (some false)) else (if (wrap64 (x311002 * x312003)) = (wrap64 (x312002 * x311003)) then ((dioramaref10_ratio.f k x311000 x2).bind fun bt316 => ((dioramaref10_media.f k x311000 x311001 x311002 x311003 x3 bt316.1 bt316.2.1 bt316.2.2).bind fun bt323 => ((dioramaref10_ratio.f k x312001 x3).bind fun bt330 => ((dioramaref10_equal.f k bt323.1 bt323.2.1 bt323.2.2 bt330.1 bt330.2.1 bt330.2.2).bind fun t337 => (some t337))))) else (some false))
end
def dioramaref10_over.f (k : Nat) (a0_0 : Int) (a0_1 : Int) (a0_2 : Int) (a0_3 : Int) (a1_0 : Int) (a1_1 : Int) (a1_2 : Int) (a1_3 : Int) (a2 : Int) (a3 : Int) : Option (Bool) := (dioramaref10_isEmpty.f a0_0 a0_1 a0_2 a0_3).bind fun t312 => (if t312 = true then (dioramaref10_over.j0 k a2 a3 true a0_0 a0_1 a0_2 a0_3 a1_0 a1_1 a1_2 a1_3) else ((dioramaref10_isEmpty.f a1_0 a1_1 a1_2 a1_3).bind fun t313 => (dioramaref10_over.j0 k a2 a3 t313 a0_0 a0_1 a0_2 a0_3 a1_0 a1_1 a1_2 a1_3)))
theorem dioramaref10_over.mono_l : ∀ k, (∀ y0 y1 y2 y3 y4 y5 y6 y7 y8 y9 y10, LeO (dioramaref10_over.j0 k y0 y1 y2 y3 y4 y5 y6 y7 y8 y9 y10) (dioramaref10_over.j0 (k + 1) y0 y1 y2 y3 y4 y5 y6 y7 y8 y9 y10)) ∧ (∀ y0 y1 y2 y3 y4 y5 y6 y7 y8 y9 y10, LeO (dioramaref10_over.j1 k y0 y1 y2 y3 y4 y5 y6 y7 y8 y9 y10) (dioramaref10_over.j1 (k + 1) y0 y1 y2 y3 y4 y5 y6 y7 y8 y9 y10))
  | 0 => ⟨fun _ _ _ _ _ _ _ _ _ _ _ r h => by simp [dioramaref10_over.j0] at h, fun _ _ _ _ _ _ _ _ _ _ _ r h => by simp [dioramaref10_over.j1] at h⟩
  | k + 1 => by
    obtain ⟨ih0, ih1⟩ := dioramaref10_over.mono_l k
    refine ⟨?_, ?_⟩
    · intro y0 y1 y2 y3 y4 y5 y6 y7 y8 y9 y10
      unfold dioramaref10_over.j0
      repeat' first
      | (with_reducible exact ih0 _ _ _ _ _ _ _ _ _ _ _)
      | (with_reducible exact ih1 _ _ _ _ _ _ _ _ _ _ _)
      | (with_reducible exact dioramaref10_equal.mono _ _ _ _ _ _ _)
      | (with_reducible exact dioramaref10_media.mono _ _ _ _ _ _ _ _ _)
      | (with_reducible exact dioramaref10_ratio.mono _ _ _)
      | (with_reducible exact LeO.refl _)
      | (with_reducible exact LeO.none _)
      | (with_reducible refine LeO.ite ?_ ?_)
      | (with_reducible refine LeO.bind ?_ (fun _ => ?_))
      | exact ih0 _ _ _ _ _ _ _ _ _ _ _
      | exact ih1 _ _ _ _ _ _ _ _ _ _ _
      | exact dioramaref10_equal.mono _ _ _ _ _ _ _
      | exact dioramaref10_media.mono _ _ _ _ _ _ _ _ _
      | exact dioramaref10_ratio.mono _ _ _
      | exact LeO.none _
      | refine LeO.ite ?_ ?_
      | refine LeO.bind ?_ (fun _ => ?_)
    · intro y0 y1 y2 y3 y4 y5 y6 y7 y8 y9 y10
      unfold dioramaref10_over.j1
      repeat' first
      | (with_reducible exact ih0 _ _ _ _ _ _ _ _ _ _ _)
      | (with_reducible exact ih1 _ _ _ _ _ _ _ _ _ _ _)
      | (with_reducible exact dioramaref10_equal.mono _ _ _ _ _ _ _)
      | (with_reducible exact dioramaref10_media.mono _ _ _ _ _ _ _ _ _)
      | (with_reducible exact dioramaref10_ratio.mono _ _ _)
      | (with_reducible exact LeO.refl _)
      | (with_reducible exact LeO.none _)
      | (with_reducible refine LeO.ite ?_ ?_)
      | (with_reducible refine LeO.bind ?_ (fun _ => ?_))
      | exact ih0 _ _ _ _ _ _ _ _ _ _ _
      | exact ih1 _ _ _ _ _ _ _ _ _ _ _
      | exact dioramaref10_equal.mono _ _ _ _ _ _ _
      | exact dioramaref10_media.mono _ _ _ _ _ _ _ _ _
      | exact dioramaref10_ratio.mono _ _ _
      | exact LeO.none _
      | refine LeO.ite ?_ ?_
      | refine LeO.bind ?_ (fun _ => ?_)
theorem dioramaref10_over.mono : ∀ a0 a1 a2 a3 a4 a5 a6 a7 a8 a9 k, LeO (dioramaref10_over.f k a0 a1 a2 a3 a4 a5 a6 a7 a8 a9) (dioramaref10_over.f (k + 1) a0 a1 a2 a3 a4 a5 a6 a7 a8 a9) := by
  intro a0 a1 a2 a3 a4 a5 a6 a7 a8 a9 k
  obtain ⟨ih0, ih1⟩ := dioramaref10_over.mono_l k
  unfold dioramaref10_over.f
  repeat' first
      | (with_reducible exact ih0 _ _ _ _ _ _ _ _ _ _ _)
      | (with_reducible exact ih1 _ _ _ _ _ _ _ _ _ _ _)
      | (with_reducible exact dioramaref10_equal.mono _ _ _ _ _ _ _)
      | (with_reducible exact dioramaref10_media.mono _ _ _ _ _ _ _ _ _)
      | (with_reducible exact dioramaref10_ratio.mono _ _ _)
      | (with_reducible exact LeO.refl _)
      | (with_reducible exact LeO.none _)
      | (with_reducible refine LeO.ite ?_ ?_)
      | (with_reducible refine LeO.bind ?_ (fun _ => ?_))
      | exact ih0 _ _ _ _ _ _ _ _ _ _ _
      | exact ih1 _ _ _ _ _ _ _ _ _ _ _
      | exact dioramaref10_equal.mono _ _ _ _ _ _ _
      | exact dioramaref10_media.mono _ _ _ _ _ _ _ _ _
      | exact dioramaref10_ratio.mono _ _ _
      | exact LeO.none _
      | refine LeO.ite ?_ ?_
      | refine LeO.bind ?_ (fun _ => ?_)
set_option maxHeartbeats 8000000 in
set_option maxRecDepth 100000 in
theorem dioramaref10_over.calls (k : Nat) (a0_0 : Int) (a0_1 : Int) (a0_2 : Int) (a0_3 : Int) (a1_0 : Int) (a1_1 : Int) (a1_2 : Int) (a1_3 : Int) (a2 : Int) (a3 : Int) (r : Bool) (w : World) (h : dioramaref10_over.f k a0_0 a0_1 a0_2 a0_3 a1_0 a1_1 a1_2 a1_3 a2 a3 = some r) :
  Calls Try.prog 140 #[.agg #[.int .i64 a0_0, .int .i64 a0_1, .int .i64 a0_2, .int .i64 a0_3], .agg #[.int .i64 a1_0, .int .i64 a1_1, .int .i64 a1_2, .int .i64 a1_3], .int .i64 a2, .int .i64 a3] w fun e w' => e = .returned (.bool r) ∧ Below w.heap.size w w' := by
 have hu77 := Try.underlying77; have HB := Aside0.mk (Below.refl w.heap.size w); have H : ((dioramaref10_isEmpty.f a0_0 a0_1 a0_2 a0_3).bind fun t312 => (if t312 = true then (dioramaref10_over.j0 k a2 a3 true a0_0 a0_1 a0_2 a0_3 a1_0 a1_1 a1_2 a1_3) else ((dioramaref10_isEmpty.f a1_0 a1_1 a1_2 a1_3).bind fun t313 => (dioramaref10_over.j0 k a2 a3 t313 a0_0 a0_1 a0_2 a0_3 a1_0 a1_1 a1_2 a1_3)))) = some r := h
 clear h; have HC5 := Aside0.mk H; clear H
 go_enter Try.func140, Try.ntmps140
 go_upto_region 1 with (first | ((with_reducible refine gate_dst (N := 4) rfl ?_); refine zB 4 77 #[.int .i64 a0_0, .int .i64 a0_1, .int .i64 a0_2, .int .i64 a0_3] ?_; intro gb310 hg w6 hbox hb; have BK310 := Aside0.mk hbox; have GW310 := gz hg; have GE310 := gz hg; replace HB := bp hb; clear hb hbox hg) | ((with_reducible refine gate_dst (N := 5) rfl ?_); refine zB 5 77 #[.int .i64 a1_0, .int .i64 a1_1, .int .i64 a1_2, .int .i64 a1_3] ?_; intro gb311 hg w7 hbox hb; have BK311 := Aside0.mk hbox; have GW311 := gz hg; have GE311 := gz hg; replace HB := bp hb; have NB310_311 := Aside0.mk ((by rw [hg]; exact Nat.ne_of_lt (bl BK310) : gb310 ≠ gb311)); have NB311_310 := Aside0.mk ((by rw [hg]; exact Nat.ne_of_gt (bl BK310) : gb311 ≠ gb310)); replace BK310 := kb BK310 hb; clear hb hbox hg))
 (try simp only [Act.put, List.setIfInBounds_toArray, List.set_cons_zero, List.set_cons_succ])
 go_cut [14] (fun v14 wc => ∃ (kq : Nat) (x14_4 : Bool), v14 = .bool x14_4 ∧ Aside0 (dioramaref10_over.j0 kq a2 a3 x14_4 a0_0 a0_1 a0_2 a0_3 a1_0 a1_1 a1_2 a1_3 = some r) ∧ Aside0 (kq ≤ k) ∧ Aside0 (wc.heap[gb310]? = some (.cells #[.int .i64 a0_0, .int .i64 a0_1, .int .i64 a0_2, .int .i64 a0_3] 77 (0, 0))) ∧ Aside0 (wc.heap[gb311]? = some (.cells #[.int .i64 a1_0, .int .i64 a1_1, .int .i64 a1_2, .int .i64 a1_3] 77 (0, 0))) ∧ Aside0 (Below w.heap.size w wc))
 case first =>
  have H := HC5.out; clear HC5; obtain ⟨t312, A8, H⟩ := ob H
  by_cases c9 : t312 = true
  ·subst c9; rw [if_pos rfl] at H; have H' := Aside0.mk H; clear H; have hnb10 := NB310_311.out; have hnc10 := NB311_310.out; obtain ⟨hcz11_0, hcz11_1, hcz11_2, hcz11_3, hfz11_0, hfz11_1, hfz11_2, hfz11_3⟩ := xc4 BK310
   go_wp2_with (first | ((with_reducible refine gate_callee (f := 74) rfl ?_); refine zC 10 Try.func74 #[.agg #[.int .i64 a0_0, .int .i64 a0_1, .int .i64 a0_2, .int .i64 a0_3]] ?_; (with_reducible refine (dioramaref10_isEmpty.calls a0_0 a0_1 a0_2 a0_3 true _ A8.out).mono ?_); rintro e w12 ⟨rfl, hb⟩; refine ⟨_, rfl, ?_⟩; replace BK310 := kb BK310 hb; replace BK311 := kb BK311 hb; replace HB := bp hb; clear hb))
   go_meet
   case rel => exact ⟨_, (true), jz, H', ⟨by first | omega | exact Nat.le_refl _⟩, ⟨kz⟩, ⟨kz⟩, ⟨bz⟩⟩
  ·obtain rfl := bf c9; rw [if_neg (show ¬ (false = true) by decide)] at H; obtain ⟨t313, A13, H⟩ := ob H; have H' := Aside0.mk H; clear H; have hnb14 := NB310_311.out; have hnc14 := NB311_310.out; obtain ⟨hcz15_0, hcz15_1, hcz15_2, hcz15_3, hfz15_0, hfz15_1, hfz15_2, hfz15_3⟩ := xc4 BK310
   go_wp2_with (first | ((with_reducible refine gate_callee (f := 74) rfl ?_); refine zC 10 Try.func74 #[.agg #[.int .i64 a0_0, .int .i64 a0_1, .int .i64 a0_2, .int .i64 a0_3]] ?_; (with_reducible refine (dioramaref10_isEmpty.calls a0_0 a0_1 a0_2 a0_3 false _ A8.out).mono ?_); rintro e w16 ⟨rfl, hb⟩; refine ⟨_, rfl, ?_⟩; replace BK310 := kb BK310 hb; replace BK311 := kb BK311 hb; replace HB := bp hb; clear hb; obtain ⟨hcz17_0, hcz17_1, hcz17_2, hcz17_3, hfz17_0, hfz17_1, hfz17_2, hfz17_3⟩ := xc4 BK311) | (go_at_call 74; (with_reducible refine (dioramaref10_isEmpty.calls a1_0 a1_1 a1_2 a1_3 t313 _ A13.out).mono ?_); rintro e w18 ⟨rfl, hb⟩; replace BK310 := kb BK310 hb; replace BK311 := kb BK311 hb; replace HB := bp hb; clear hb))
   go_meet
   case rel => exact ⟨_, (t313), jz, H', ⟨by first | omega | exact Nat.le_refl _⟩, ⟨kz⟩, ⟨kz⟩, ⟨bz⟩⟩
 case rest =>
  clear HC5
  try clear c1
  try clear p2
  try clear c7
  try clear c9
  try clear c10
  try clear c14
  try clear hcz11_0
  try clear hcz11_1
  try clear hcz11_2
  try clear hcz11_3
  try clear hcz15_0
  try clear hcz15_1
  try clear hcz15_2
  try clear hcz15_3
  try clear hcz17_0
  try clear hcz17_1
  try clear hcz17_2
  try clear hcz17_3
  try clear hfz11_0
  try clear hfz11_1
  try clear hfz11_2
  try clear hfz11_3
  try clear hfz15_0
  try clear hfz15_1
  try clear hfz15_2
  try clear hfz15_3
  try clear hfz17_0
  try clear hfz17_1
  try clear hfz17_2
  try clear hfz17_3
  obtain ⟨kq, x14_4, rfl, HA, HJ4, BK310, BK311, HB⟩ := hcut
  cases kq with
  | zero => exact absurd HA.out (by simp [dioramaref10_over.j0])
  | succ kj4 =>
   have H := HA.out; clear HA; simp only [dioramaref10_over.j0] at H
   by_cases c19 : x14_4 = true
   ·subst c19; rw [if_pos rfl] at H; obtain ⟨t314, A20, H⟩ := ob H
    by_cases c21 : t314 = true
    ·subst c21; rw [if_pos rfl] at H; obtain ⟨t315, A22, H⟩ := ob H; obtain rfl := Option.some.inj H; have hnb23 := NB310_311.out; have hnc23 := NB311_310.out; obtain ⟨hcz24_0, hcz24_1, hcz24_2, hcz24_3, hfz24_0, hfz24_1, hfz24_2, hfz24_3⟩ := xc4 BK310
     go_wp2_with (first | ((with_reducible refine gate_callee (f := 74) rfl ?_); refine zC 16 Try.func74 #[.agg #[.int .i64 a0_0, .int .i64 a0_1, .int .i64 a0_2, .int .i64 a0_3]] ?_; (with_reducible refine (dioramaref10_isEmpty.calls a0_0 a0_1 a0_2 a0_3 true _ A20.out).mono ?_); rintro e w25 ⟨rfl, hb⟩; refine ⟨_, rfl, ?_⟩; replace BK310 := kb BK310 hb; replace BK311 := kb BK311 hb; replace HB := bp hb; clear hb; obtain ⟨hcz26_0, hcz26_1, hcz26_2, hcz26_3, hfz26_0, hfz26_1, hfz26_2, hfz26_3⟩ := xc4 BK311) | (go_at_call 74; (with_reducible refine (dioramaref10_isEmpty.calls a1_0 a1_1 a1_2 a1_3 t315 _ A22.out).mono ?_); rintro e w27 ⟨rfl, hb⟩; replace BK310 := kb BK310 hb; replace BK311 := kb BK311 hb; replace HB := bp hb; clear hb))
     go_ret
     exact ⟨ez, bz⟩
    ·obtain rfl := bf c21; rw [if_neg (show ¬ (false = true) by decide)] at H; obtain rfl := Option.some.inj H; have hnb28 := NB310_311.out; have hnc28 := NB311_310.out; obtain ⟨hcz29_0, hcz29_1, hcz29_2, hcz29_3, hfz29_0, hfz29_1, hfz29_2, hfz29_3⟩ := xc4 BK310
     go_wp2_with (first | ((with_reducible refine gate_callee (f := 74) rfl ?_); refine zC 16 Try.func74 #[.agg #[.int .i64 a0_0, .int .i64 a0_1, .int .i64 a0_2, .int .i64 a0_3]] ?_; (with_reducible refine (dioramaref10_isEmpty.calls a0_0 a0_1 a0_2 a0_3 false _ A20.out).mono ?_); rintro e w30 ⟨rfl, hb⟩; refine ⟨_, rfl, ?_⟩; replace BK310 := kb BK310 hb; replace BK311 := kb BK311 hb; replace HB := bp hb; clear hb))
     go_ret
     exact ⟨ez, bz⟩
   ·obtain rfl := bf c19; rw [if_neg (show ¬ (false = true) by decide)] at H; have HC31 := Aside0.mk H; clear H
    go_upto_region 3 with (fail)
    go_cut [28] (fun v28 wc => ∃ (kq : Nat) (x28_30 : Bool), v28 = .bool x28_30 ∧ Aside0 (dioramaref10_over.j1 kq a2 a3 x28_30 a0_0 a0_1 a0_2 a0_3 a1_0 a1_1 a1_2 a1_3 = some r) ∧ Aside0 (kq ≤ kj4) ∧ Aside0 (wc.heap[gb310]? = some (.cells #[.int .i64 a0_0, .int .i64 a0_1, .int .i64 a0_2, .int .i64 a0_3] 77 (0, 0))) ∧ Aside0 (wc.heap[gb311]? = some (.cells #[.int .i64 a1_0, .int .i64 a1_1, .int .i64 a1_2, .int .i64 a1_3] 77 (0, 0))) ∧ Aside0 (Below w.heap.size w wc))
    case first =>
     have H := HC31.out; clear HC31
     by_cases c32 : a0_2 = 0
     ·rw [if_pos c32] at H; have c32b0 : (a0_2 == 0) = true := beq_iff_eq.mpr c32; have c32b1 : (a0_2 != 0) = false := bne_eq_false_iff_eq.mpr c32; clear c32
      (first | rw [c32b0] | (simp only [i64_w, i32_w]; rw [c32b0]) | skip)
      have H' := Aside0.mk H; clear H; have hnb33 := NB310_311.out; have hnc33 := NB311_310.out; obtain ⟨hcz34_0, hcz34_1, hcz34_2, hcz34_3, hfz34_0, hfz34_1, hfz34_2, hfz34_3⟩ := xc4 BK310
      go_wp2
      go_meet
      case rel => exact ⟨_, (true), jz, H', ⟨by have := HJ4.out; first | omega | exact Nat.le_refl _⟩, ⟨kz⟩, ⟨kz⟩, ⟨bz⟩⟩
     ·rw [if_neg c32] at H; have c32b0 : (a0_2 == 0) = false := beq_eq_false_iff_ne.mpr c32; have c32b1 : (a0_2 != 0) = true := bne_iff_ne.mpr c32
      (first | rw [c32b0] | (simp only [i64_w, i32_w]; rw [c32b0]) | skip)
      have H' := Aside0.mk H; clear H; have hnb35 := NB310_311.out; have hnc35 := NB311_310.out; obtain ⟨hcz36_0, hcz36_1, hcz36_2, hcz36_3, hfz36_0, hfz36_1, hfz36_2, hfz36_3⟩ := xc4 BK310; obtain ⟨hcz37_0, hcz37_1, hcz37_2, hcz37_3, hfz37_0, hfz37_1, hfz37_2, hfz37_3⟩ := xc4 BK311
      go_wp2
      go_meet
      case rel => exact ⟨_, ((a1_2 == 0)), jz, H', ⟨by have := HJ4.out; first | omega | exact Nat.le_refl _⟩, ⟨kz⟩, ⟨kz⟩, ⟨bz⟩⟩
    case rest =>
     clear HC31
     try clear c1
     try clear c2
     try clear p2
     try clear c3
     try clear c7
     try clear c9
     try clear c10
     try clear c14
     try clear c19
     try clear c21
     try clear c23
     try clear c28
     try clear c32
     try clear c32b0
     try clear c32b1
     try clear c33
     try clear c35
     try clear hcz11_0
     try clear hcz11_1
     try clear hcz11_2
     try clear hcz11_3
     try clear hcz15_0
     try clear hcz15_1
     try clear hcz15_2
     try clear hcz15_3
     try clear hcz17_0
     try clear hcz17_1
     try clear hcz17_2
     try clear hcz17_3
     try clear hcz24_0
     try clear hcz24_1
     try clear hcz24_2
     try clear hcz24_3
     try clear hcz26_0
     try clear hcz26_1
     try clear hcz26_2
     try clear hcz26_3
     try clear hcz29_0
     try clear hcz29_1
     try clear hcz29_2
     try clear hcz29_3
     try clear hcz34_0
     try clear hcz34_1
     try clear hcz34_2
     try clear hcz34_3
     try clear hcz36_0
     try clear hcz36_1
     try clear hcz36_2
     try clear hcz36_3
     try clear hcz37_0
     try clear hcz37_1
     try clear hcz37_2
     try clear hcz37_3
     try clear hfz11_0
     try clear hfz11_1
     try clear hfz11_2
     try clear hfz11_3
     try clear hfz15_0
     try clear hfz15_1
     try clear hfz15_2
     try clear hfz15_3
     try clear hfz17_0
     try clear hfz17_1
     try clear hfz17_2
     try clear hfz17_3
     try clear hfz24_0
     try clear hfz24_1
     try clear hfz24_2
     try clear hfz24_3
     try clear hfz26_0
     try clear hfz26_1
     try clear hfz26_2
     try clear hfz26_3
     try clear hfz29_0
     try clear hfz29_1
     try clear hfz29_2
     try clear hfz29_3
     try clear hfz34_0
     try clear hfz34_1
     try clear hfz34_2
     try clear hfz34_3
     try clear hfz36_0
     try clear hfz36_1
     try clear hfz36_2
     try clear hfz36_3
     try clear hfz37_0
     try clear hfz37_1
     try clear hfz37_2
     try clear hfz37_3
     try clear p2
     obtain ⟨kq, x28_30, rfl, HA, HJ30, BK310, BK311, HB⟩ := hcut
     cases kq with
     | zero => exact absurd HA.out (by simp [dioramaref10_over.j1])
     | succ kj30 =>
      have H := HA.out; clear HA; simp only [dioramaref10_over.j1] at H
      by_cases c38 : x28_30 = true
      ·subst c38; rw [if_pos rfl] at H
       by_cases c39 : a0_2 = 0
       ·rw [if_pos c39] at H; have c39b0 : (a0_2 == 0) = true := beq_iff_eq.mpr c39; have c39b1 : (a0_2 != 0) = false := bne_eq_false_iff_eq.mpr c39; clear c39
        by_cases c40 : a1_2 = 0
        ·rw [if_pos c40] at H; have c40b0 : (a1_2 == 0) = true := beq_iff_eq.mpr c40; have c40b1 : (a1_2 != 0) = false := bne_eq_false_iff_eq.mpr c40; clear c40; obtain rfl := Option.some.inj H; have hnb41 := NB310_311.out; have hnc41 := NB311_310.out; obtain ⟨hcz42_0, hcz42_1, hcz42_2, hcz42_3, hfz42_0, hfz42_1, hfz42_2, hfz42_3⟩ := xc4 BK310; obtain ⟨hcz43_0, hcz43_1, hcz43_2, hcz43_3, hfz43_0, hfz43_1, hfz43_2, hfz43_3⟩ := xc4 BK311
         go_wp2
         go_ret
         exact ⟨ez, bz⟩
        ·rw [if_neg c40] at H; have c40b0 : (a1_2 == 0) = false := beq_eq_false_iff_ne.mpr c40; have c40b1 : (a1_2 != 0) = true := bne_iff_ne.mpr c40; obtain rfl := Option.some.inj H; have hnb44 := NB310_311.out; have hnc44 := NB311_310.out; obtain ⟨hcz45_0, hcz45_1, hcz45_2, hcz45_3, hfz45_0, hfz45_1, hfz45_2, hfz45_3⟩ := xc4 BK310; obtain ⟨hcz46_0, hcz46_1, hcz46_2, hcz46_3, hfz46_0, hfz46_1, hfz46_2, hfz46_3⟩ := xc4 BK311
         go_wp2
         go_ret
         exact ⟨ez, bz⟩
       ·rw [if_neg c39] at H; have c39b0 : (a0_2 == 0) = false := beq_eq_false_iff_ne.mpr c39; have c39b1 : (a0_2 != 0) = true := bne_iff_ne.mpr c39; obtain rfl := Option.some.inj H; have hnb47 := NB310_311.out; have hnc47 := NB311_310.out; obtain ⟨hcz48_0, hcz48_1, hcz48_2, hcz48_3, hfz48_0, hfz48_1, hfz48_2, hfz48_3⟩ := xc4 BK310
        go_wp2
        go_ret
        exact ⟨ez, bz⟩
      ·obtain rfl := bf c38; rw [if_neg (show ¬ (false = true) by decide)] at H
       by_cases c49 : (wrap64 (a0_2 * a1_3)) = (wrap64 (a1_2 * a0_3))
       ·rw [if_pos c49] at H; have c49b0 : ((wrap64 (a0_2 * a1_3)) == (wrap64 (a1_2 * a0_3))) = true := beq_iff_eq.mpr c49; have c49b1 : ((wrap64 (a0_2 * a1_3)) != (wrap64 (a1_2 * a0_3))) = false := bne_eq_false_iff_eq.mpr c49; clear c49; obtain ⟨⟨t316, t317, t320⟩, A50, H⟩ := ob H
        (try dsimp only at H)
        obtain ⟨⟨t323, t324, t327⟩, A51, H⟩ := ob H
        (try dsimp only at H)
        obtain ⟨⟨t330, t331, t334⟩, A52, H⟩ := ob H
        (try dsimp only at H)
        obtain ⟨t337, A53, H⟩ := ob H; obtain rfl := Option.some.inj H
        try go_wp2
        replace BK310 := Aside0.mk (blk_drew BK310.out); replace BK311 := Aside0.mk (blk_drew BK311.out); replace HB := Aside0.mk (below_drew1 HB.out); refine start_ (n := 26) (S := fun w' => w'.cell? ⟨gb310, 0, none⟩ = some (.int .i64 a0_0) ∧ w'.cell? ⟨gb310, 1, none⟩ = some (.int .i64 a0_1) ∧ w'.cell? ⟨gb310, 2, none⟩ = some (.int .i64 a0_2) ∧ w'.cell? ⟨gb310, 3, none⟩ = some (.int .i64 a0_3) ∧ w'.cell? ⟨gb311, 0, none⟩ = some (.int .i64 a1_0) ∧ w'.cell? ⟨gb311, 1, none⟩ = some (.int .i64 a1_1) ∧ w'.cell? ⟨gb311, 2, none⟩ = some (.int .i64 a1_2) ∧ w'.cell? ⟨gb311, 3, none⟩ = some (.int .i64 a1_3)) (ds := []) (bs 26 0) (by kernel_rfl) rfl rfl ⟨ct BK310 0, ct BK310 1, ct BK310 2, ct BK310 3, ct BK311 0, ct BK311 1, ct BK311 2, ct BK311 3⟩ (fun hHeld => ?_)
        generalize wc.drew = w54 at BK310 BK311 HB hHeld ⊢; refine zP 0 44 26 1 ?_; refine zP 2 46 26 5 ?_; refine zP 5 49 26 37 ?_; refine zP 7 51 26 165 ?_; refine zT 1 45 26 167 hHeld ?_; refine zT 3 47 26 175 hHeld ?_; refine zP 4 48 26 191 ?_; refine zT 6 50 26 255 hHeld ?_; refine zT 8 52 26 511 hHeld ?_; refine zP 9 53 26 1023 ?_; refine zP 10 54 26 2047 ?_; refine zP 11 55 26 4095 ?_; refine zP 13 57 26 12287 ?_; refine zP 14 58 26 28671 ?_; refine zP 16 60 26 94207 ?_; refine zP 19 63 26 618495 ?_; refine zP 21 65 26 2715647 ?_; refine zT 12 56 26 2719743 hHeld ?_; refine zT 15 59 26 2752511 hHeld ?_; refine zT 20 64 26 3801087 hHeld ?_; refine zN 17 (some 61) 26 3932159 (fun K hK => ?_); refine zG Try.func68 #[.int .i64 a0_0, .int .i64 a2] ?_
        with_reducible refine (dioramaref10_ratio.calls kj30 a0_0 a2 t316 t317 t320 _ A50.out).mono ?_
        rintro e w55 ⟨v318, v321, rfl, ho0, ho1, hb⟩; refine ⟨_, rfl, ?_⟩; have HO319 := Aside0.mk (Kd.R_lower ho0 sz); have HO322 := Aside0.mk (Kd.R_lower ho1 sz); replace BK310 := kb BK310 hb; replace BK311 := kb BK311 hb; replace HB := bp hb; clear hb ho0 ho1; obtain ⟨Ao56, co56, eo56⟩ := Kd.R_slice HO319.out
        (first | subst eo56 | (injection eo56 with f1_ f2_ f3_; have f4_ := f1_.symm; have f5_ := f3_.symm; clear f1_ f2_ f3_; subst f4_; subst f5_))
        obtain ⟨Ao57, co57, eo57⟩ := Kd.R_slice HO322.out
        (first | subst eo57 | (injection eo57 with f1_ f2_ f3_; have f4_ := f1_.symm; have f5_ := f3_.symm; clear f1_ f2_ f3_; subst f4_; subst f5_))
        refine hK.out _ _ ⟨ct BK310 0, ct BK310 1, ct BK310 2, ct BK310 3, ct BK311 0, ct BK311 1, ct BK311 2, ct BK311 3⟩ (fun hHeld => ?_); clear hK K; refine zM 61 ?_; refine zN 18 (some 62) 26 4194303 (fun K hK => ?_); refine zG Try.func88 #[.agg #[.int .i64 a0_0, .int .i64 a0_1, .int .i64 a0_2, .int .i64 a0_3], .int .i64 a3, .agg #[.bool t316, .slice Ao56 t317.length co56, .slice Ao57 t320.length co57]] ?_
        with_reducible refine (dioramaref10_media.calls kj30 a0_0 a0_1 a0_2 a0_3 a3 t316 _ _ t317 _ _ t320 t323 t324 t327 _ ?side1 ?side2 ?side3 ?side4 A51.out).mono ?_
        (case side1 => exact cr HO319)
        (case side2 => exact (Kd.R_reads' HO319.out).2.1)
        (case side3 => exact cr HO322)
        (case side4 => exact (Kd.R_reads' HO322.out).2.1)
        rintro e w58 ⟨v325, v328, rfl, ho0, ho1, hb⟩; refine ⟨_, rfl, ?_⟩; have HO326 := Aside0.mk (Kd.R_lower (Kd.R_new' (Kd.R_new' ho0 (Kd.R_lt (rz HO319))) (Kd.R_lt (rz HO322))) sz); have HO329 := Aside0.mk (Kd.R_lower (Kd.R_new' (Kd.R_new' ho1 (Kd.R_lt (rz HO319))) (Kd.R_lt (rz HO322))) sz); replace HO319 := Aside0.mk (Kd.R_mono (Kd.R_told (Kd.R_told (Kd.R_old (rz HO319) hb) (Kd.R_base ho0)) (Kd.R_base ho1)) (fun _ h_ => h_.1)); replace HO322 := Aside0.mk (Kd.R_mono (Kd.R_told (Kd.R_told (Kd.R_old (rz HO322) hb) (Kd.R_base ho0)) (Kd.R_base ho1)) (fun _ h_ => h_.1)); replace BK310 := kb BK310 hb; replace BK311 := kb BK311 hb; replace HB := bp hb; clear hb ho0 ho1; refine hK.out _ _ ⟨ct BK310 0, ct BK310 1, ct BK310 2, ct BK310 3, ct BK311 0, ct BK311 1, ct BK311 2, ct BK311 3⟩ (fun hHeld => ?_); clear hK K; refine zM 62 ?_; refine zN 22 (some 66) 26 8388607 (fun K hK => ?_); refine zG Try.func68 #[.int .i64 a1_1, .int .i64 a3] ?_
        with_reducible refine (dioramaref10_ratio.calls kj30 a1_1 a3 t330 t331 t334 _ A52.out).mono ?_
        rintro e w59 ⟨v332, v335, rfl, ho0, ho1, hb⟩; refine ⟨_, rfl, ?_⟩; have HO333 := Aside0.mk (Kd.R_lower (Kd.R_new' (Kd.R_new' (Kd.R_new' (Kd.R_new' ho0 (Kd.R_lt (rz HO319))) (Kd.R_lt (rz HO322))) (Kd.R_lt (rz HO326))) (Kd.R_lt (rz HO329))) sz); have HO336 := Aside0.mk (Kd.R_lower (Kd.R_new' (Kd.R_new' (Kd.R_new' (Kd.R_new' ho1 (Kd.R_lt (rz HO319))) (Kd.R_lt (rz HO322))) (Kd.R_lt (rz HO326))) (Kd.R_lt (rz HO329))) sz); replace HO319 := Aside0.mk (Kd.R_mono (Kd.R_told (Kd.R_told (Kd.R_old (rz HO319) hb) (Kd.R_base ho0)) (Kd.R_base ho1)) (fun _ h_ => h_.1)); replace HO322 := Aside0.mk (Kd.R_mono (Kd.R_told (Kd.R_told (Kd.R_old (rz HO322) hb) (Kd.R_base ho0)) (Kd.R_base ho1)) (fun _ h_ => h_.1)); replace HO326 := Aside0.mk (Kd.R_mono (Kd.R_told (Kd.R_told (Kd.R_old (rz HO326) hb) (Kd.R_base ho0)) (Kd.R_base ho1)) (fun _ h_ => h_.1)); replace HO329 := Aside0.mk (Kd.R_mono (Kd.R_told (Kd.R_told (Kd.R_old (rz HO329) hb) (Kd.R_base ho0)) (Kd.R_base ho1)) (fun _ h_ => h_.1)); replace BK310 := kb BK310 hb; replace BK311 := kb BK311 hb; replace HB := bp hb; clear hb ho0 ho1; obtain ⟨Ao60, co60, eo60⟩ := Kd.R_slice HO326.out
        (first | subst eo60 | (injection eo60 with f1_ f2_ f3_; have f4_ := f1_.symm; have f5_ := f3_.symm; clear f1_ f2_ f3_; subst f4_; subst f5_))
        obtain ⟨Ao61, co61, eo61⟩ := Kd.R_slice HO329.out
        (first | subst eo61 | (injection eo61 with f1_ f2_ f3_; have f4_ := f1_.symm; have f5_ := f3_.symm; clear f1_ f2_ f3_; subst f4_; subst f5_))
        obtain ⟨Ao62, co62, eo62⟩ := Kd.R_slice HO333.out
        (first | subst eo62 | (injection eo62 with f1_ f2_ f3_; have f4_ := f1_.symm; have f5_ := f3_.symm; clear f1_ f2_ f3_; subst f4_; subst f5_))
        obtain ⟨Ao63, co63, eo63⟩ := Kd.R_slice HO336.out
        (first | subst eo63 | (injection eo63 with f1_ f2_ f3_; have f4_ := f1_.symm; have f5_ := f3_.symm; clear f1_ f2_ f3_; subst f4_; subst f5_))
        refine hK.out _ _ ⟨ct BK310 0, ct BK310 1, ct BK310 2, ct BK310 3, ct BK311 0, ct BK311 1, ct BK311 2, ct BK311 3⟩ (fun hHeld => ?_); clear hK K; refine zM 66 ?_; refine zN 23 (some 67) 26 16777215 (fun K hK => ?_); refine zG Try.func160 #[.agg #[.bool t323, .slice Ao60 t324.length co60, .slice Ao61 t327.length co61], .agg #[.bool t330, .slice Ao62 t331.length co62, .slice Ao63 t334.length co63]] ?_
        with_reducible refine (dioramaref10_equal.calls kj30 t323 _ _ t324 _ _ t327 t330 _ _ t331 _ _ t334 t337 _ ?side1 ?side2 ?side3 ?side4 ?side5 ?side6 ?side7 ?side8 A53.out).mono ?_
        (case side1 => exact cr HO326)
        (case side2 => exact (Kd.R_reads' HO326.out).2.1)
        (case side3 => exact cr HO329)
        (case side4 => exact (Kd.R_reads' HO329.out).2.1)
        (case side5 => exact cr HO333)
        (case side6 => exact (Kd.R_reads' HO333.out).2.1)
        (case side7 => exact cr HO336)
        (case side8 => exact (Kd.R_reads' HO336.out).2.1)
        rintro e w64 ⟨rfl, hb⟩; refine ⟨_, rfl, ?_⟩; replace HO319 := Aside0.mk (Kd.R_below (rz HO319) hb); replace HO322 := Aside0.mk (Kd.R_below (rz HO322) hb); replace HO326 := Aside0.mk (Kd.R_below (rz HO326) hb); replace HO329 := Aside0.mk (Kd.R_below (rz HO329) hb); replace HO333 := Aside0.mk (Kd.R_below (rz HO333) hb); replace HO336 := Aside0.mk (Kd.R_below (rz HO336) hb); replace BK310 := kb BK310 hb; replace BK311 := kb BK311 hb; replace HB := bp hb; clear hb; refine hK.out _ _ ⟨ct BK310 0, ct BK310 1, ct BK310 2, ct BK310 3, ct BK311 0, ct BK311 1, ct BK311 2, ct BK311 3⟩ (fun hHeld => ?_); clear hK K; refine zM 67 ?_; refine zP 24 68 26 33554431 ?_; refine zP 25 8 26 67108863 ?_; refine done_ (by kernel_rfl) ?_
        try go_wp2
        go_ret
        exact ⟨ez, bz⟩
       ·rw [if_neg c49] at H; have c49b0 : ((wrap64 (a0_2 * a1_3)) == (wrap64 (a1_2 * a0_3))) = false := beq_eq_false_iff_ne.mpr c49; have c49b1 : ((wrap64 (a0_2 * a1_3)) != (wrap64 (a1_2 * a0_3))) = true := bne_iff_ne.mpr c49; obtain rfl := Option.some.inj H
        try go_wp2
        replace BK310 := Aside0.mk (blk_drew BK310.out); replace BK311 := Aside0.mk (blk_drew BK311.out); replace HB := Aside0.mk (below_drew1 HB.out); refine start_ (n := 26) (S := fun w' => w'.cell? ⟨gb310, 0, none⟩ = some (.int .i64 a0_0) ∧ w'.cell? ⟨gb310, 1, none⟩ = some (.int .i64 a0_1) ∧ w'.cell? ⟨gb310, 2, none⟩ = some (.int .i64 a0_2) ∧ w'.cell? ⟨gb310, 3, none⟩ = some (.int .i64 a0_3) ∧ w'.cell? ⟨gb311, 0, none⟩ = some (.int .i64 a1_0) ∧ w'.cell? ⟨gb311, 1, none⟩ = some (.int .i64 a1_1) ∧ w'.cell? ⟨gb311, 2, none⟩ = some (.int .i64 a1_2) ∧ w'.cell? ⟨gb311, 3, none⟩ = some (.int .i64 a1_3)) (ds := []) (bs 26 0) (by kernel_rfl) rfl rfl ⟨ct BK310 0, ct BK310 1, ct BK310 2, ct BK310 3, ct BK311 0, ct BK311 1, ct BK311 2, ct BK311 3⟩ (fun hHeld => ?_)
        generalize wc.drew = w65 at BK310 BK311 HB hHeld ⊢; refine zP 0 44 26 1 ?_; refine zP 2 46 26 5 ?_; refine zP 5 49 26 37 ?_; refine zP 7 51 26 165 ?_; refine zT 1 45 26 167 hHeld ?_; refine zT 3 47 26 175 hHeld ?_; refine zP 4 48 26 191 ?_; refine zT 6 50 26 255 hHeld ?_; refine zT 8 52 26 511 hHeld ?_; refine zP 9 53 26 1023 ?_; refine zP 10 54 26 2047 ?_; refine zP 11 55 26 4095 ?_; refine zO 12 56 26 8191 ?_; refine zO 13 57 26 16383 ?_; refine zO 14 58 26 32767 ?_; refine zO 15 59 26 65535 ?_; refine zO 16 60 26 131071 ?_; refine zO 17 61 26 262143 ?_; refine zO 18 62 26 524287 ?_; refine zO 19 63 26 1048575 ?_; refine zO 20 64 26 2097151 ?_; refine zO 21 65 26 4194303 ?_; refine zO 22 66 26 8388607 ?_; refine zO 23 67 26 16777215 ?_; refine zP 24 68 26 33554431 ?_; refine zP 25 8 26 67108863 ?_; refine done_ (by kernel_rfl) ?_
        try go_wp2
        go_ret
        exact ⟨ez, bz⟩
def dioramaref10_normal.l0 : Nat → List (S77) → Int → Int → List (S77) → Int → Option ((List (S77)))
  | 0, _, _, _, _, _ => none
  | k + 1, x0, x1, x2, x7, x8 => if x8 < (x0.length : Int) then (if (x7.length : Int) > 0 then (if 0 ≤ (wrap64 ((x7.length : Int) - 1)) then (if (wrap64 ((x7.length : Int) - 1)) < (x7.length : Int) then (if 0 ≤ x8 then ((dioramaref10_over.f k ((rd_T77 x7 (wrap64 ((x7.length : Int) - 1))).f0) ((rd_T77 x7 (wrap64 ((x7.length : Int) - 1))).f1) ((rd_T77 x7 (wrap64 ((x7.length : Int) - 1))).f2) ((rd_T77 x7 (wrap64 ((x7.length : Int) - 1))).f3) ((rd_T77 x0 x8).f0) ((rd_T77 x0 x8).f1) ((rd_T77 x0 x8).f2) ((rd_T77 x0 x8).f3) x1 x2).bind fun t340 => (if t340 = true then (dioramaref10_normal.l0 k x0 x1 x2 (x7.set ((wrap64 ((x7.length : Int) - 1)) : Int).toNat (⟨wrap64 (((rd_T77 x7 (wrap64 ((x7.length : Int) - 1))).f0) + ((rd_T77 x0 x8).f0)), (rd_T77 x7 (wrap64 ((x7.length : Int) - 1))).f1, (rd_T77 x7 (wrap64 ((x7.length : Int) - 1))).f2, (rd_T77 x7 (wrap64 ((x7.length : Int) - 1))).f3⟩ : S77)) (wrap64 (x8 + 1))) else ((dioramaref10_lowest.f ((rd_T77 x0 x8).f0) ((rd_T77 x0 x8).f1) ((rd_T77 x0 x8).f2) ((rd_T77 x0 x8).f3)).bind fun bt345 => (if x7.length < 4398046511104 then (dioramaref10_normal.l0 k x0 x1 x2 (x7 ++ [(⟨bt345.1, bt345.2.1, bt345.2.2.1, bt345.2.2.2⟩ : S77)]) (wrap64 (x8 + 1))) else (none))))) else (none)) else (none)) else (none)) else (if 0 ≤ x8 then ((dioramaref10_lowest.f ((rd_T77 x0 x8).f0) ((rd_T77 x0 x8).f1) ((rd_T77 x0 x8).f2) ((rd_T77 x0 x8).f3)).bind fun bt353 => (if x7.length < 4398046511104 then (dioramaref10_normal.l0 k x0 x1 x2 (x7 ++ [(⟨bt353.1, bt353.2.1, bt353.2.2.1, bt353.2.2.2⟩ : S77)]) (wrap64 (x8 + 1))) else (none))) else (none))) else (some x7)
def dioramaref10_normal.f (k : Nat) (l0 : List (S77)) (a1 : Int) (a2 : Int) : Option ((List (S77))) := dioramaref10_normal.l0 k l0 a1 a2 ([] : List (S77)) 0
theorem dioramaref10_normal.mono_l : ∀ k, (∀ y0 y1 y2 y3 y4, LeO (dioramaref10_normal.l0 k y0 y1 y2 y3 y4) (dioramaref10_normal.l0 (k + 1) y0 y1 y2 y3 y4))
  | 0 => fun _ _ _ _ _ r h => by simp [dioramaref10_normal.l0] at h
  | k + 1 => by
    have ih0 := dioramaref10_normal.mono_l k
    · intro y0 y1 y2 y3 y4
      unfold dioramaref10_normal.l0
      repeat' first
      | (with_reducible exact ih0 _ _ _ _ _)
      | (with_reducible exact dioramaref10_over.mono _ _ _ _ _ _ _ _ _ _ _)
      | (with_reducible exact LeO.refl _)
      | (with_reducible exact LeO.none _)
      | (with_reducible refine LeO.ite ?_ ?_)
      | (with_reducible refine LeO.bind ?_ (fun _ => ?_))
      | exact ih0 _ _ _ _ _
      | exact dioramaref10_over.mono _ _ _ _ _ _ _ _ _ _ _
      | exact LeO.none _
      | refine LeO.ite ?_ ?_
      | refine LeO.bind ?_ (fun _ => ?_)
theorem dioramaref10_normal.mono : ∀ a0 a1 a2 k, LeO (dioramaref10_normal.f k a0 a1 a2) (dioramaref10_normal.f (k + 1) a0 a1 a2) := by
  intro a0 a1 a2 k
  have ih0 := dioramaref10_normal.mono_l k
  unfold dioramaref10_normal.f
  repeat' first
      | (with_reducible exact ih0 _ _ _ _ _)
      | (with_reducible exact dioramaref10_over.mono _ _ _ _ _ _ _ _ _ _ _)
      | (with_reducible exact LeO.refl _)
      | (with_reducible exact LeO.none _)
      | (with_reducible refine LeO.ite ?_ ?_)
      | (with_reducible refine LeO.bind ?_ (fun _ => ?_))
      | exact ih0 _ _ _ _ _
      | exact dioramaref10_over.mono _ _ _ _ _ _ _ _ _ _ _
      | exact LeO.none _
      | refine LeO.ite ?_ ?_
      | refine LeO.bind ?_ (fun _ => ?_)
set_option maxHeartbeats 8000000 in
set_option maxRecDepth 100000 in
theorem dioramaref10_normal.calls (k : Nat) (A0 : Option Addr) (c0 : Nat) (l0 : List (S77)) (a1 : Int) (a2 : Int) (r : List (S77)) (w : World) (hr0 : Kd.C k77 w A0 l0.length l0) (hc0 : l0.length ≤ c0) (h : dioramaref10_normal.f k l0 a1 a2 = some r) :
  Calls Try.prog 102 #[.slice A0 l0.length c0, .int .i64 a1, .int .i64 a2] w fun e w' => ∃ v0_ : Value, e = .returned (v0_) ∧ Kd.R k77 77 w' w.heap.size (fun _ => True) v0_ r ∧ Below w.heap.size w w' := by
 have hu77 := Try.underlying77; have HR0 := Aside0.mk hr0; have HC0 := Aside0.mk hc0; clear hr0 hc0; have HB := Aside0.mk (Below.refl w.heap.size w); have H : (dioramaref10_normal.l0 k l0 a1 a2 ([] : List (S77)) 0) = some r := h; clear h; have H' := Aside0.mk H; clear H
 go_enter Try.func102, Try.ntmps102
 go_wp2
 go_loopg [7, 8] k (fun kq v7 v8 w' => ∃ (x7_1 : List (S77)) (x8_1 : Int), v8 = .int .i64 x8_1 ∧ Aside0 (dioramaref10_normal.l0 kq l0 a1 a2 x7_1 x8_1 = some r) ∧ Aside0 (kq ≤ k) ∧ Aside0 (Kd.R k77 77 w' w.heap.size (fun _ => True) v7 x7_1) ∧ Aside0 (Below w.heap.size w w'))
 case atStart => exact ⟨(([] : List (S77))), (0), jz, H', ⟨Nat.le_refl _⟩, ⟨by first | exact Kd.R_nil _ _ _ _ _ | exact Kd.N_nil _ _ _ _ _ | exact Kd.V_nil _ _ _ _ _ | exact Kd.Q_nil _ _ _ _ _ | exact Kd.S_nil _ _ _ _ _⟩, ⟨bz⟩⟩
 case round =>
  clear H'
  try clear c1
  try clear p2
  obtain ⟨x7_1, x8_1, rfl, HA, HK1, HO_7, HB⟩ := hrel
  cases gk with
  | zero => exact absurd HA.out (by simp [dioramaref10_normal.l0])
  | succ k1 =>
   have H := HA.out; clear HA; simp only [dioramaref10_normal.l0] at H
   by_cases c4 : x8_1 < (l0.length : Int)
   ·rw [if_pos c4] at H; have c4b0 : decide (x8_1 < (l0.length : Int)) = true := decide_eq_true c4; clear c4
    by_cases c5 : (x7_1.length : Int) > 0
    ·rw [if_pos c5] at H; have c5b0 : decide (0 < (x7_1.length : Int)) = true := decide_eq_true c5; have c5b1 : decide (0 < x7_1.length) = true := decide_eq_true (by omega); clear c5; obtain ⟨ji6, hji6⟩ : ∃ j_ : Int, (wrap64 ((x7_1.length : Int) - 1)) = j_ := ⟨_, rfl⟩; replace H : (if 0 ≤ (ji6) then (if (ji6) < (x7_1.length : Int) then (if 0 ≤ x8_1 then ((dioramaref10_over.f k1 ((rd_T77 x7_1 (ji6)).f0) ((rd_T77 x7_1 (ji6)).f1) ((rd_T77 x7_1 (ji6)).f2) ((rd_T77 x7_1 (ji6)).f3) ((rd_T77 l0 x8_1).f0) ((rd_T77 l0 x8_1).f1) ((rd_T77 l0 x8_1).f2) ((rd_T77 l0 x8_1).f3) a1 a2).bind fun t340 => (if t340 = true then (dioramaref10_normal.l0 k1 l0 a1 a2 (x7_1.set ((ji6) : Int).toNat (⟨wrap64 (((rd_T77 x7_1 (ji6)).f0) + ((rd_T77 l0 x8_1).f0)), (rd_T77 x7_1 (ji6)).f1, (rd_T77 x7_1 (ji6)).f2, (rd_T77 x7_1 (ji6)).f3⟩ : S77)) (wrap64 (x8_1 + 1))) else ((dioramaref10_lowest.f ((rd_T77 l0 x8_1).f0) ((rd_T77 l0 x8_1).f1) ((rd_T77 l0 x8_1).f2) ((rd_T77 l0 x8_1).f3)).bind fun bt345 => (if x7_1.length < 4398046511104 then (dioramaref10_normal.l0 k1 l0 a1 a2 (x7_1 ++ [(⟨bt345.1, bt345.2.1, bt345.2.2.1, bt345.2.2.2⟩ : S77)]) (wrap64 (x8_1 + 1))) else (none))))) else (none)) else (none)) else (none)) = some r := by first | (rw [hji6] at H; exact H) | (simp only [hji6] at H ⊢; exact H)
     have hji6w : (IntKind.i64.wrap ((x7_1.length : Int) - 1)) = ji6 := (i64_w _).trans hji6
     by_cases c7 : 0 ≤ (ji6)
     ·rw [if_pos c7] at H; have c7b0 : decide (0 ≤ (ji6)) = true := decide_eq_true c7; clear c7
      by_cases c8 : (ji6) < (x7_1.length : Int)
      ·rw [if_pos c8] at H; have c8b0 : decide ((ji6) < (x7_1.length : Int)) = true := decide_eq_true c8; clear c8
       by_cases c9 : 0 ≤ x8_1
       ·rw [if_pos c9] at H; have c9b0 : decide (0 ≤ x8_1) = true := decide_eq_true c9; clear c9; obtain ⟨t340, A10, H⟩ := ob H
        by_cases c11 : t340 = true
        ·subst c11; rw [if_pos rfl] at H; obtain ⟨y343, hy343⟩ : ∃ y_ : List (S77), y_ = (x7_1.set ((ji6) : Int).toNat (⟨wrap64 (((rd_T77 x7_1 (ji6)).f0) + ((rd_T77 l0 x8_1).f0)), (rd_T77 x7_1 (ji6)).f1, (rd_T77 x7_1 (ji6)).f2, (rd_T77 x7_1 (ji6)).f3⟩ : S77)) := ⟨_, rfl⟩; replace H : (dioramaref10_normal.l0 k1 l0 a1 a2 y343 (wrap64 (x8_1 + 1))) = some r := by first | (rw [hy343]; with_reducible exact H) | (have H2_ := (Option.bind_some _ _).symm.trans H; rw [hy343]; with_reducible exact H2_) | (have H2_ := (Option.bind_some _ _).symm.trans H; with_reducible exact H2_) | with_reducible exact H | (rw [hy343]; exact H) | exact H
         have Ny343 := Aside0.mk hy343; clear hy343; have H' := Aside0.mk H; clear H; obtain ⟨Ao13, co13, eo13⟩ := Kd.R_slice HO_7.out; subst eo13
         try go_wp2
         replace HO_7 := Aside0.mk (Kd.R_drew HO_7.out); replace HB := Aside0.mk (below_drew1 HB.out); have p338 : 0 ≤ ((ji6) : Int) := od; have q338 : (ji6) < (x7_1.length : Int) := od; obtain ⟨ad338, e338, hx338_0, hx338_1, hx338_2, hx338_3⟩ := at_T77 (Kd.R_reads' HO_7.out).2.2 (ji6) p338 q338
         cases e338
         replace p338 := eq_true p338; replace q338 := eq_true q338; have p339 : 0 ≤ (x8_1 : Int) := od; have q339 : x8_1 < (l0.length : Int) := od; obtain ⟨ad339, e339, hx339_0, hx339_1, hx339_2, hx339_3⟩ := at_T77 HR0.out x8_1 p339 q339; have hw339_3 := hx339_3; have hw339_2 := hx339_2; have hw339_1 := hx339_1; have hw339_0 := hx339_0
         cases e339
         replace hx339_0 := cl HB hx339_0; replace hx339_1 := cl HB hx339_1; replace hx339_2 := cl HB hx339_2; replace hx339_3 := cl HB hx339_3; replace p339 := eq_true p339; replace q339 := eq_true q339; refine start_ (n := 16) (S := fun w' => w'.cell? (ad338.add (((ji6)).toNat * 4)) = some (.int .i64 ((rd_T77 x7_1 (ji6)).f0)) ∧ w'.cell? ⟨(ad338.add (((ji6)).toNat * 4)).block, (ad338.add (((ji6)).toNat * 4)).off + 1, none⟩ = some (.int .i64 ((rd_T77 x7_1 (ji6)).f1)) ∧ w'.cell? ⟨(ad338.add (((ji6)).toNat * 4)).block, (ad338.add (((ji6)).toNat * 4)).off + 2, none⟩ = some (.int .i64 ((rd_T77 x7_1 (ji6)).f2)) ∧ w'.cell? ⟨(ad338.add (((ji6)).toNat * 4)).block, (ad338.add (((ji6)).toNat * 4)).off + 3, none⟩ = some (.int .i64 ((rd_T77 x7_1 (ji6)).f3)) ∧ w'.cell? (ad339.add ((x8_1).toNat * 4)) = some (.int .i64 ((rd_T77 l0 x8_1).f0)) ∧ w'.cell? ⟨(ad339.add ((x8_1).toNat * 4)).block, (ad339.add ((x8_1).toNat * 4)).off + 1, none⟩ = some (.int .i64 ((rd_T77 l0 x8_1).f1)) ∧ w'.cell? ⟨(ad339.add ((x8_1).toNat * 4)).block, (ad339.add ((x8_1).toNat * 4)).off + 2, none⟩ = some (.int .i64 ((rd_T77 l0 x8_1).f2)) ∧ w'.cell? ⟨(ad339.add ((x8_1).toNat * 4)).block, (ad339.add ((x8_1).toNat * 4)).off + 3, none⟩ = some (.int .i64 ((rd_T77 l0 x8_1).f3))) (ds := []) (bs 16 0) (by kernel_rfl) rfl rfl ⟨hx338_0, hx338_1, hx338_2, hx338_3, (cl HB hw339_0), (cl HB hw339_1), (cl HB hw339_2), (cl HB hw339_3)⟩ (fun hHeld => ?_)
         generalize wr.drew = w14 at HO_7 HB hx338_0 hx338_1 hx338_2 hx338_3 hx339_0 hx339_1 hx339_2 hx339_3 hHeld ⊢; refine zP 0 18 16 1 ?_; refine zP 1 19 16 3 ?_; refine zP 2 20 16 7 ?_; refine zP 3 21 16 15 ?_; refine zP 4 22 16 31 ?_; refine zP 5 23 16 63 ?_; refine zP 6 24 16 127 ?_; refine zP 8 26 16 383 ?_; refine zP 9 27 16 895 ?_; refine zP 10 28 16 1919 ?_; refine zP 12 30 16 6015 ?_; refine zP 13 31 16 14207 ?_; refine zT 7 25 16 14335 hHeld ?_; refine zT 11 29 16 16383 hHeld ?_; refine zN 14 (some 32) 16 32767 (fun K hK => ?_); refine goes_ Try.func140 (by kernel_rfl) rfl #[.agg #[.int .i64 ((rd_T77 x7_1 (ji6)).f0), .int .i64 ((rd_T77 x7_1 (ji6)).f1), .int .i64 ((rd_T77 x7_1 (ji6)).f2), .int .i64 ((rd_T77 x7_1 (ji6)).f3)], .agg #[.int .i64 ((rd_T77 l0 x8_1).f0), .int .i64 ((rd_T77 l0 x8_1).f1), .int .i64 ((rd_T77 l0 x8_1).f2), .int .i64 ((rd_T77 l0 x8_1).f3)], .int .i64 a1, .int .i64 a2] (by rfl) rfl rfl (by (try simp only [List.map_toArray, List.map_cons, List.map_nil]); first | done | (simp only [hji6]; rfl) | rfl | (simp only [List.length_drop, List.length_take]; rfl)) ?_
         with_reducible refine (dioramaref10_over.calls k1 ((rd_T77 x7_1 (ji6)).f0) ((rd_T77 x7_1 (ji6)).f1) ((rd_T77 x7_1 (ji6)).f2) ((rd_T77 x7_1 (ji6)).f3) ((rd_T77 l0 x8_1).f0) ((rd_T77 l0 x8_1).f1) ((rd_T77 l0 x8_1).f2) ((rd_T77 l0 x8_1).f3) a1 a2 true _ A10.out).mono ?_
         rintro e w15 ⟨rfl, hb⟩; have HS0_ := (hb.cell (World.block_lt_of_cell? _ _ (hHeld.1))).trans (hHeld.1); have HS1_ := (hb.cell (World.block_lt_of_cell? _ _ (hHeld.2.1))).trans (hHeld.2.1); have HS2_ := (hb.cell (World.block_lt_of_cell? _ _ (hHeld.2.2.1))).trans (hHeld.2.2.1); have HS3_ := (hb.cell (World.block_lt_of_cell? _ _ (hHeld.2.2.2.1))).trans (hHeld.2.2.2.1); refine ⟨_, rfl, ?_⟩; replace HO_7 := Aside0.mk (Kd.R_below (rz HO_7) hb); replace HB := bp hb; clear hb; refine hK.out _ _ ⟨HS0_, HS1_, HS2_, HS3_, (cl HB hw339_0), (cl HB hw339_1), (cl HB hw339_2), (cl HB hw339_3)⟩ (fun hHeld => ?_); clear hK K; refine zM 32 ?_; refine zP 15 33 16 65535 ?_; refine done_ (by kernel_rfl) ?_
         try go_wp2
         replace HO_7 := Aside0.mk (Kd.R_drew HO_7.out); replace HB := Aside0.mk (below_drew1 HB.out); have p341 : 0 ≤ ((ji6) : Int) := od; have q341 : (ji6) < (x7_1.length : Int) := od; obtain ⟨ad341, e341, hx341_0, hx341_1, hx341_2, hx341_3⟩ := at_T77 (Kd.R_reads' HO_7.out).2.2 (ji6) p341 q341; obtain rfl : ad338 = ad341 := (by injection e341); replace p341 := eq_true p341; replace q341 := eq_true q341; have p342 : 0 ≤ (x8_1 : Int) := od; have q342 : x8_1 < (l0.length : Int) := od; obtain ⟨ad342, e342, hx342_0, hx342_1, hx342_2, hx342_3⟩ := at_T77 HR0.out x8_1 p342 q342; have hw342_3 := hx342_3; have hw342_2 := hx342_2; have hw342_1 := hx342_1; have hw342_0 := hx342_0; obtain rfl : ad339 = ad342 := (by injection e342); replace hx342_0 := cl HB hx342_0; replace hx342_1 := cl HB hx342_1; replace hx342_2 := cl HB hx342_2; replace hx342_3 := cl HB hx342_3; replace p342 := eq_true p342; replace q342 := eq_true q342; have p12 : 0 ≤ ((ji6) : Int) := od; have q12 : ((ji6) : Int) < ((x7_1.length : Int) : Int) := od; obtain ⟨go12, co12, eo12, gb12, gl12, cl12, HG12⟩ := Kd.R_form HO_7.out (by omega)
         (first | cases eo12 | (injection eo12 with ea_ en_ ec_; (first | subst ea_ | (injection ea_ with ea_; subst ea_)); subst ec_; clear en_))
         have GB12 := Aside0.mk gb12; have GG12 := Aside0.mk HG12; clear gb12 gl12 HG12
         (first | simp only [add_plain] at hx338_0 | skip)
         (first | simp only [add_plain] at hx338_1 | skip)
         (first | simp only [add_plain] at hx338_2 | skip)
         (first | simp only [add_plain] at hx338_3 | skip)
         (first | simp only [add_plain] at hx341_0 | skip)
         (first | simp only [add_plain] at hx341_1 | skip)
         (first | simp only [add_plain] at hx341_2 | skip)
         (first | simp only [add_plain] at hx341_3 | skip)
         obtain ⟨ce12, hcl12, hM12, hcc12, hfr12⟩ := Kd.R_elem HO_7.out z77 ((ji6) : Int) p12 q12; obtain rfl := k77_openM hM12; have hx12_0 : World.cell? _ ⟨go12, ((ji6) : Int).toNat * 4, none⟩ = some (.int .i64 ((rd_T77 x7_1 (ji6)).f0)) := hcc12 0 _ rfl; have hx12_1 : World.cell? _ ⟨go12, ((ji6) : Int).toNat * 4 + 1, none⟩ = some (.int .i64 ((rd_T77 x7_1 (ji6)).f1)) := hcc12 1 _ rfl; have hx12_2 : World.cell? _ ⟨go12, ((ji6) : Int).toNat * 4 + 2, none⟩ = some (.int .i64 ((rd_T77 x7_1 (ji6)).f2)) := hcc12 2 _ rfl; have hx12_3 : World.cell? _ ⟨go12, ((ji6) : Int).toNat * 4 + 3, none⟩ = some (.int .i64 ((rd_T77 x7_1 (ji6)).f3)) := hcc12 3 _ rfl; have hf12_0 : World.frozen? _ ⟨go12, ((ji6) : Int).toNat * 4, none⟩ = false := hfr12 0; have hf12_1 : World.frozen? _ ⟨go12, ((ji6) : Int).toNat * 4 + 1, none⟩ = false := hfr12 1; have hf12_2 : World.frozen? _ ⟨go12, ((ji6) : Int).toNat * 4 + 2, none⟩ = false := hfr12 2; have hf12_3 : World.frozen? _ ⟨go12, ((ji6) : Int).toNat * 4 + 3, none⟩ = false := hfr12 3; clear hcl12 hcc12 hfr12 hM12; replace p12 := eq_true p12; replace q12 := eq_true q12; obtain ⟨ce17, hcl17, hM17, hcc17, hfr17⟩ := Kd.R_elem HO_7.out z77 ((ji6) : Int) (od) (by have h_ : ((ji6) : Int) < ((x7_1.length : Int) : Int) := od; first | exact h_ | (have e_ := (Kd.R_reads' HO_7.out).1; omega) | simpa using h_); obtain rfl := k77_openM hM17; have HP17 := (Kd.R_seg HO_7.out ((ji6) : Int) (od) (by have h_ : ((ji6) : Int) < ((x7_1.length : Int) : Int) := od; first | exact h_ | (have e_ := (Kd.R_reads' HO_7.out).1; omega) | simpa using h_) (seg := [.int .i64 (wrap64 (((rd_T77 x7_1 (ji6)).f0) + ((rd_T77 l0 x8_1).f0)))]) (j := 0) hcl17 hcc17 (show 1 ≤ 4 from by decide) (x' := (⟨wrap64 (((rd_T77 x7_1 (ji6)).f0) + ((rd_T77 l0 x8_1).f0)), (rd_T77 x7_1 (ji6)).f1, (rd_T77 x7_1 (ji6)).f2, (rd_T77 x7_1 (ji6)).f3⟩ : S77)) (k77_mkM _ _ _ (⟨wrap64 (((rd_T77 x7_1 (ji6)).f0) + ((rd_T77 l0 x8_1).f0)), (rd_T77 x7_1 (ji6)).f1, (rd_T77 x7_1 (ji6)).f2, (rd_T77 x7_1 (ji6)).f3⟩ : S77) ) (fun _ hk => hk)).1; rw [← Ny343.out] at HP17; have HQ17 := Aside0.mk HP17; clear hcl17 hcc17 hfr17 hM17 HP17; refine start_ (n := 15) (S := fun w' => w'.cell? ⟨go12, (((ji6)) : Int).toNat * 4, none⟩ = some (.int .i64 ((rd_T77 x7_1 (ji6)).f0)) ∧ w'.cell? ⟨go12, (((ji6)) : Int).toNat * 4 + 1, none⟩ = some (.int .i64 ((rd_T77 x7_1 (ji6)).f1)) ∧ w'.cell? ⟨go12, (((ji6)) : Int).toNat * 4 + 2, none⟩ = some (.int .i64 ((rd_T77 x7_1 (ji6)).f2)) ∧ w'.cell? ⟨go12, (((ji6)) : Int).toNat * 4 + 3, none⟩ = some (.int .i64 ((rd_T77 x7_1 (ji6)).f3)) ∧ w'.cell? (ad339.add ((x8_1).toNat * 4)) = some (.int .i64 ((rd_T77 l0 x8_1).f0)) ∧ w'.cell? ⟨(ad339.add ((x8_1).toNat * 4)).block, (ad339.add ((x8_1).toNat * 4)).off + 1, none⟩ = some (.int .i64 ((rd_T77 l0 x8_1).f1)) ∧ w'.cell? ⟨(ad339.add ((x8_1).toNat * 4)).block, (ad339.add ((x8_1).toNat * 4)).off + 2, none⟩ = some (.int .i64 ((rd_T77 l0 x8_1).f2)) ∧ w'.cell? ⟨(ad339.add ((x8_1).toNat * 4)).block, (ad339.add ((x8_1).toNat * 4)).off + 3, none⟩ = some (.int .i64 ((rd_T77 l0 x8_1).f3))) (ds := [14]) (bs 15 0) (by kernel_rfl) rfl rfl ⟨hx341_0, hx341_1, hx341_2, hx341_3, (cl HB hw342_0), (cl HB hw342_1), (cl HB hw342_2), (cl HB hw342_3)⟩ (fun hHeld => ?_)
         generalize w15.drew = w16 at HO_7 HB GG12 HQ17 hf12_0 hf12_1 hf12_2 hf12_3 hx12_0 hx12_1 hx12_2 hx12_3 hx338_0 hx338_1 hx338_2 hx338_3 hx341_0 hx341_1 hx341_2 hx341_3 hx342_0 hx342_1 hx342_2 hx342_3 hHeld ⊢; refine zP 0 34 15 1 ?_; refine zP 1 35 15 3 ?_; refine zP 2 36 15 7 ?_; refine zP 3 37 15 15 ?_; refine zP 4 38 15 31 ?_; refine zP 6 40 15 95 ?_; refine zP 7 41 15 223 ?_; refine zP 8 42 15 479 ?_; refine zP 9 43 15 991 ?_; refine zT 5 39 15 1023 hHeld ?_; refine zT 10 44 15 2047 hHeld ?_; refine zP 11 45 15 4095 ?_; refine zP 12 46 15 8191 ?_; refine zP 13 47 15 16383 ?_; refine zL 14 none 15 32767 (fun K hK => ?_); refine skip_ (w1 := ?_) (by rfl) rfl ?_ ?_
         rotate_left
         ·go_simp
          rfl
         refine hK.out _ _ ?_; clear hK K; refine done_ (by kernel_rfl) ?_
         try go_wp2
         go_roundg k1
         case measure => have := HK1.out; omega
         case rel => exact ⟨(y343), (wrap64 (x8_1 + 1)), jz, H', ⟨by have := HK1.out; omega⟩, ⟨by (with_reducible repeat (first | apply Kd.R_alloc | apply Kd.R_drewN | apply Kd.R_drew)); exact HQ17.out⟩, ⟨by repeat (first | (with_reducible first | exact HB.out | apply below_alloc | apply pw_below_drewN | apply below_drew1 | refine below_set ?_ GB12.out) | exact HB.out)⟩⟩
        ·obtain rfl := bf c11; rw [if_neg (show ¬ (false = true) by decide)] at H; obtain ⟨⟨t345, t346, t347, t348⟩, A18, H⟩ := ob H
         (try dsimp only at H)
         by_cases c19 : x7_1.length < 4398046511104
         ·rw [if_pos c19] at H; have LMc19 := Aside0.mk c19; clear c19; obtain ⟨y349, hy349⟩ : ∃ y_ : List (S77), y_ = (x7_1 ++ [(⟨t345, t346, t347, t348⟩ : S77)]) := ⟨_, rfl⟩; replace H : (dioramaref10_normal.l0 k1 l0 a1 a2 y349 (wrap64 (x8_1 + 1))) = some r := by first | (rw [hy349]; with_reducible exact H) | (have H2_ := (Option.bind_some _ _).symm.trans H; rw [hy349]; with_reducible exact H2_) | (have H2_ := (Option.bind_some _ _).symm.trans H; with_reducible exact H2_) | with_reducible exact H | (rw [hy349]; exact H) | exact H
          have Ny349 := Aside0.mk hy349; clear hy349; have H' := Aside0.mk H; clear H; obtain ⟨Ao20, co20, eo20⟩ := Kd.R_slice HO_7.out; subst eo20
          try go_wp2
          replace HO_7 := Aside0.mk (Kd.R_drew HO_7.out); replace HB := Aside0.mk (below_drew1 HB.out); have p338 : 0 ≤ ((ji6) : Int) := od; have q338 : (ji6) < (x7_1.length : Int) := od; obtain ⟨ad338, e338, hx338_0, hx338_1, hx338_2, hx338_3⟩ := at_T77 (Kd.R_reads' HO_7.out).2.2 (ji6) p338 q338
          cases e338
          replace p338 := eq_true p338; replace q338 := eq_true q338; have p339 : 0 ≤ (x8_1 : Int) := od; have q339 : x8_1 < (l0.length : Int) := od; obtain ⟨ad339, e339, hx339_0, hx339_1, hx339_2, hx339_3⟩ := at_T77 HR0.out x8_1 p339 q339; have hw339_3 := hx339_3; have hw339_2 := hx339_2; have hw339_1 := hx339_1; have hw339_0 := hx339_0
          cases e339
          replace hx339_0 := cl HB hx339_0; replace hx339_1 := cl HB hx339_1; replace hx339_2 := cl HB hx339_2; replace hx339_3 := cl HB hx339_3; replace p339 := eq_true p339; replace q339 := eq_true q339; refine start_ (n := 16) (S := fun w' => w'.cell? (ad338.add (((ji6)).toNat * 4)) = some (.int .i64 ((rd_T77 x7_1 (ji6)).f0)) ∧ w'.cell? ⟨(ad338.add (((ji6)).toNat * 4)).block, (ad338.add (((ji6)).toNat * 4)).off + 1, none⟩ = some (.int .i64 ((rd_T77 x7_1 (ji6)).f1)) ∧ w'.cell? ⟨(ad338.add (((ji6)).toNat * 4)).block, (ad338.add (((ji6)).toNat * 4)).off + 2, none⟩ = some (.int .i64 ((rd_T77 x7_1 (ji6)).f2)) ∧ w'.cell? ⟨(ad338.add (((ji6)).toNat * 4)).block, (ad338.add (((ji6)).toNat * 4)).off + 3, none⟩ = some (.int .i64 ((rd_T77 x7_1 (ji6)).f3)) ∧ w'.cell? (ad339.add ((x8_1).toNat * 4)) = some (.int .i64 ((rd_T77 l0 x8_1).f0)) ∧ w'.cell? ⟨(ad339.add ((x8_1).toNat * 4)).block, (ad339.add ((x8_1).toNat * 4)).off + 1, none⟩ = some (.int .i64 ((rd_T77 l0 x8_1).f1)) ∧ w'.cell? ⟨(ad339.add ((x8_1).toNat * 4)).block, (ad339.add ((x8_1).toNat * 4)).off + 2, none⟩ = some (.int .i64 ((rd_T77 l0 x8_1).f2)) ∧ w'.cell? ⟨(ad339.add ((x8_1).toNat * 4)).block, (ad339.add ((x8_1).toNat * 4)).off + 3, none⟩ = some (.int .i64 ((rd_T77 l0 x8_1).f3))) (ds := []) (bs 16 0) (by kernel_rfl) rfl rfl ⟨hx338_0, hx338_1, hx338_2, hx338_3, (cl HB hw339_0), (cl HB hw339_1), (cl HB hw339_2), (cl HB hw339_3)⟩ (fun hHeld => ?_)
          generalize wr.drew = w21 at HO_7 HB hx338_0 hx338_1 hx338_2 hx338_3 hx339_0 hx339_1 hx339_2 hx339_3 hHeld ⊢; refine zP 0 18 16 1 ?_; refine zP 1 19 16 3 ?_; refine zP 2 20 16 7 ?_; refine zP 3 21 16 15 ?_; refine zP 4 22 16 31 ?_; refine zP 5 23 16 63 ?_; refine zP 6 24 16 127 ?_; refine zP 8 26 16 383 ?_; refine zP 9 27 16 895 ?_; refine zP 10 28 16 1919 ?_; refine zP 12 30 16 6015 ?_; refine zP 13 31 16 14207 ?_; refine zT 7 25 16 14335 hHeld ?_; refine zT 11 29 16 16383 hHeld ?_; refine zN 14 (some 32) 16 32767 (fun K hK => ?_); refine goes_ Try.func140 (by kernel_rfl) rfl #[.agg #[.int .i64 ((rd_T77 x7_1 (ji6)).f0), .int .i64 ((rd_T77 x7_1 (ji6)).f1), .int .i64 ((rd_T77 x7_1 (ji6)).f2), .int .i64 ((rd_T77 x7_1 (ji6)).f3)], .agg #[.int .i64 ((rd_T77 l0 x8_1).f0), .int .i64 ((rd_T77 l0 x8_1).f1), .int .i64 ((rd_T77 l0 x8_1).f2), .int .i64 ((rd_T77 l0 x8_1).f3)], .int .i64 a1, .int .i64 a2] (by rfl) rfl rfl (by (try simp only [List.map_toArray, List.map_cons, List.map_nil]); first | done | (simp only [hji6]; rfl) | rfl | (simp only [List.length_drop, List.length_take]; rfl)) ?_
          with_reducible refine (dioramaref10_over.calls k1 ((rd_T77 x7_1 (ji6)).f0) ((rd_T77 x7_1 (ji6)).f1) ((rd_T77 x7_1 (ji6)).f2) ((rd_T77 x7_1 (ji6)).f3) ((rd_T77 l0 x8_1).f0) ((rd_T77 l0 x8_1).f1) ((rd_T77 l0 x8_1).f2) ((rd_T77 l0 x8_1).f3) a1 a2 false _ A10.out).mono ?_
          rintro e w22 ⟨rfl, hb⟩; have HS0_ := (hb.cell (World.block_lt_of_cell? _ _ (hHeld.1))).trans (hHeld.1); have HS1_ := (hb.cell (World.block_lt_of_cell? _ _ (hHeld.2.1))).trans (hHeld.2.1); have HS2_ := (hb.cell (World.block_lt_of_cell? _ _ (hHeld.2.2.1))).trans (hHeld.2.2.1); have HS3_ := (hb.cell (World.block_lt_of_cell? _ _ (hHeld.2.2.2.1))).trans (hHeld.2.2.2.1); refine ⟨_, rfl, ?_⟩; replace HO_7 := Aside0.mk (Kd.R_below (rz HO_7) hb); replace HB := bp hb; clear hb; refine hK.out _ _ ⟨HS0_, HS1_, HS2_, HS3_, (cl HB hw339_0), (cl HB hw339_1), (cl HB hw339_2), (cl HB hw339_3)⟩ (fun hHeld => ?_); clear hK K; refine zM 32 ?_; refine zP 15 33 16 65535 ?_; refine done_ (by kernel_rfl) ?_; have p344 : 0 ≤ (x8_1 : Int) := od; have q344 : x8_1 < (l0.length : Int) := od; obtain ⟨ad344, e344, hx344_0, hx344_1, hx344_2, hx344_3⟩ := at_T77 HR0.out x8_1 p344 q344; obtain rfl : ad339 = ad344 := (by injection e344); replace hx344_0 := cl HB hx344_0; replace hx344_1 := cl HB hx344_1; replace hx344_2 := cl HB hx344_2; replace hx344_3 := cl HB hx344_3; replace p344 := eq_true p344; replace q344 := eq_true q344
          try go_wp2_with (first | ((with_reducible refine gate_callee (f := 75) rfl ?_); refine zC 53 Try.func75 #[.agg #[.int .i64 ((rd_T77 l0 x8_1).f0), .int .i64 ((rd_T77 l0 x8_1).f1), .int .i64 ((rd_T77 l0 x8_1).f2), .int .i64 ((rd_T77 l0 x8_1).f3)]] ?_; (with_reducible refine (dioramaref10_lowest.calls ((rd_T77 l0 x8_1).f0) ((rd_T77 l0 x8_1).f1) ((rd_T77 l0 x8_1).f2) ((rd_T77 l0 x8_1).f3) t345 t346 t347 t348 _ A18.out).mono ?_); rintro e w23 ⟨rfl, hb⟩; refine ⟨_, rfl, ?_⟩; replace HO_7 := Aside0.mk (Kd.R_below (rz HO_7) hb); replace HB := bp hb; clear hb) | ((with_reducible refine gate_builtin (b := .append) (xs := #[.tmp 48, .tmp 54]) rfl ?_); at_builtin; refine Kd.R_append k77 (w0 := w) w.heap.size rfl (.tmp 48) (.tmp 54) 22 77 (.agg #[(.int .i64 0), (.int .i64 0), (.int .i64 0), (.int .i64 0)]) 32 rfl Try.underlying22 info77 rfl (by decide) (by omega) (.slice (some ad338) x7_1.length co20) x7_1 (⟨t345, t346, t347, t348⟩ : S77) [.int .i64 t345, .int .i64 t346, .int .i64 t347, .int .i64 t348] (fun _ => True) (fun _ => False) rfl rfl ?aP (fun _ hk => hk.elim) ?aF ?aO ?aB ?aS ?aL ?_; (case aP => exact k77_mkM _ _ _ (⟨t345, t346, t347, t348⟩ : S77)); (case aB => exact bz); (case aF => exact (fun _ _ => trivial)); (case aO => exact (rz HO_7)); (case aS => exact sz); (case aL => have := LMc19.out; omega); intro v350 w24 ho hb hg hat; rw [← Ny349.out] at ho; replace HB := Aside0.mk (hb); have HO351 := Aside0.mk (ho); clear HO_7; clear ho hb hg hat))
          go_roundg k1
          case measure => have := HK1.out; omega
          case rel => exact ⟨(y349), (wrap64 (x8_1 + 1)), jz, H', ⟨by have := HK1.out; omega⟩, ⟨rz HO351⟩, ⟨bz⟩⟩
         ·rw [if_neg c19] at H
          exact absurd H (by simp)
       ·rw [if_neg c9] at H
        exact absurd H (by simp)
      ·rw [if_neg c8] at H
       exact absurd H (by simp)
     ·rw [if_neg c7] at H
      exact absurd H (by simp)
    ·rw [if_neg c5] at H; have c5b0 : decide (0 < (x7_1.length : Int)) = false := decide_eq_false c5; have c5b1 : decide (0 < x7_1.length) = false := decide_eq_false (by omega); clear c5
     by_cases c25 : 0 ≤ x8_1
     ·rw [if_pos c25] at H; have c25b0 : decide (0 ≤ x8_1) = true := decide_eq_true c25; clear c25; obtain ⟨⟨t353, t354, t355, t356⟩, A26, H⟩ := ob H
      (try dsimp only at H)
      by_cases c27 : x7_1.length < 4398046511104
      ·rw [if_pos c27] at H; have LMc27 := Aside0.mk c27; clear c27; obtain ⟨y357, hy357⟩ : ∃ y_ : List (S77), y_ = (x7_1 ++ [(⟨t353, t354, t355, t356⟩ : S77)]) := ⟨_, rfl⟩; replace H : (dioramaref10_normal.l0 k1 l0 a1 a2 y357 (wrap64 (x8_1 + 1))) = some r := by first | (rw [hy357]; with_reducible exact H) | (have H2_ := (Option.bind_some _ _).symm.trans H; rw [hy357]; with_reducible exact H2_) | (have H2_ := (Option.bind_some _ _).symm.trans H; with_reducible exact H2_) | with_reducible exact H | (rw [hy357]; exact H) | exact H
       have Ny357 := Aside0.mk hy357; clear hy357; have H' := Aside0.mk H; clear H; obtain ⟨Ao28, co28, eo28⟩ := Kd.R_slice HO_7.out; subst eo28
       try go_wp2
       replace HO_7 := Aside0.mk (Kd.R_drew HO_7.out); replace HB := Aside0.mk (below_drew1 HB.out); refine start_ (n := 16) (S := fun w' => True) (ds := []) (bs 16 0) (by kernel_rfl) rfl rfl trivial (fun hHeld => ?_); generalize wr.drew = w29 at HO_7 HB hHeld ⊢; refine zP 0 18 16 1 ?_; refine zP 1 19 16 3 ?_; refine zP 2 20 16 7 ?_; refine zO 3 21 16 15 ?_; refine zO 4 22 16 31 ?_; refine zO 5 23 16 63 ?_; refine zO 6 24 16 127 ?_; refine zO 7 25 16 255 ?_; refine zO 8 26 16 511 ?_; refine zO 9 27 16 1023 ?_; refine zO 10 28 16 2047 ?_; refine zO 11 29 16 4095 ?_; refine zO 12 30 16 8191 ?_; refine zO 13 31 16 16383 ?_; refine zO 14 32 16 32767 ?_; refine zP 15 33 16 65535 ?_; refine done_ (by kernel_rfl) ?_; have p352 : 0 ≤ (x8_1 : Int) := od; have q352 : x8_1 < (l0.length : Int) := od; obtain ⟨ad352, e352, hx352_0, hx352_1, hx352_2, hx352_3⟩ := at_T77 HR0.out x8_1 p352 q352
       cases e352
       replace hx352_0 := cl HB hx352_0; replace hx352_1 := cl HB hx352_1; replace hx352_2 := cl HB hx352_2; replace hx352_3 := cl HB hx352_3; replace p352 := eq_true p352; replace q352 := eq_true q352
       try go_wp2_with (first | ((with_reducible refine gate_callee (f := 75) rfl ?_); refine zC 53 Try.func75 #[.agg #[.int .i64 ((rd_T77 l0 x8_1).f0), .int .i64 ((rd_T77 l0 x8_1).f1), .int .i64 ((rd_T77 l0 x8_1).f2), .int .i64 ((rd_T77 l0 x8_1).f3)]] ?_; (with_reducible refine (dioramaref10_lowest.calls ((rd_T77 l0 x8_1).f0) ((rd_T77 l0 x8_1).f1) ((rd_T77 l0 x8_1).f2) ((rd_T77 l0 x8_1).f3) t353 t354 t355 t356 _ A26.out).mono ?_); rintro e w30 ⟨rfl, hb⟩; refine ⟨_, rfl, ?_⟩; replace HO_7 := Aside0.mk (Kd.R_below (rz HO_7) hb); replace HB := bp hb; clear hb) | ((with_reducible refine gate_builtin (b := .append) (xs := #[.tmp 48, .tmp 54]) rfl ?_); at_builtin; refine Kd.R_append k77 (w0 := w) w.heap.size rfl (.tmp 48) (.tmp 54) 22 77 (.agg #[(.int .i64 0), (.int .i64 0), (.int .i64 0), (.int .i64 0)]) 32 rfl Try.underlying22 info77 rfl (by decide) (by omega) (.slice Ao28 x7_1.length co28) x7_1 (⟨t353, t354, t355, t356⟩ : S77) [.int .i64 t353, .int .i64 t354, .int .i64 t355, .int .i64 t356] (fun _ => True) (fun _ => False) rfl rfl ?aP (fun _ hk => hk.elim) ?aF ?aO ?aB ?aS ?aL ?_; (case aP => exact k77_mkM _ _ _ (⟨t353, t354, t355, t356⟩ : S77)); (case aB => exact bz); (case aF => exact (fun _ _ => trivial)); (case aO => exact (rz HO_7)); (case aS => exact sz); (case aL => have := LMc27.out; omega); intro v358 w31 ho hb hg hat; rw [← Ny357.out] at ho; replace HB := Aside0.mk (hb); have HO359 := Aside0.mk (ho); clear HO_7; clear ho hb hg hat))
       go_roundg k1
       case measure => have := HK1.out; omega
       case rel => exact ⟨(y357), (wrap64 (x8_1 + 1)), jz, H', ⟨by have := HK1.out; omega⟩, ⟨rz HO359⟩, ⟨bz⟩⟩
      ·rw [if_neg c27] at H
       exact absurd H (by simp)
     ·rw [if_neg c25] at H
      exact absurd H (by simp)
   ·rw [if_neg c4] at H; have c4b0 : decide (x8_1 < (l0.length : Int)) = false := decide_eq_false c4; clear c4; obtain rfl := Option.some.inj H
    go_wp2
    go_ret
    exact ⟨_, ez, by (with_reducible repeat (first | apply Kd.R_alloc | apply Kd.R_drewN | apply Kd.R_drew)); exact HO_7.out, bz⟩
def dioramaref10_told.l0 : Nat → List (S77) → Int → Int → Int → Bool → List Int → List Int → Option ((List (S77)) × Int)
  | 0, _, _, _, _, _, _, _ => none
  | k + 1, x0, x1, x2, x9, x368000, x368001, x368002 => if x9 < (x0.length : Int) then (if 0 ≤ x9 then ((dioramaref10_ratio.f k ((rd_T77 x0 x9).f0) 1).bind fun bt369 => ((dioramaref10_plus.f k x368000 x368001 x368002 bt369.1 bt369.2.1 bt369.2.2).bind fun bt376 => (dioramaref10_told.l0 k x0 x1 x2 (wrap64 (x9 + 1)) bt376.1 bt376.2.1 bt376.2.2))) else (none)) else ((dioramaref02_Small.f k x368001 1099511627776).bind fun bt383 => (if bt383.2 = true then ((dioramaref10_normal.f k x0 x1 x2).bind fun t385 => (if (t385.length : Int) > 20 then (some (([] : List (S77)), 2)) else (some (t385, 0)))) else (some (([] : List (S77)), 2))))
def dioramaref10_told.f (k : Nat) (l0 : List (S77)) (a1 : Int) (a2 : Int) : Option ((List (S77)) × Int) := (dioramaref10_ratio.f k 0 1).bind fun bt360 => (dioramaref10_told.l0 k l0 a1 a2 0 bt360.1 bt360.2.1 bt360.2.2)
theorem dioramaref10_told.mono_l : ∀ k, (∀ y0 y1 y2 y3 y4 y5 y6, LeO (dioramaref10_told.l0 k y0 y1 y2 y3 y4 y5 y6) (dioramaref10_told.l0 (k + 1) y0 y1 y2 y3 y4 y5 y6))
  | 0 => fun _ _ _ _ _ _ _ r h => by simp [dioramaref10_told.l0] at h
  | k + 1 => by
    have ih0 := dioramaref10_told.mono_l k
    · intro y0 y1 y2 y3 y4 y5 y6
      unfold dioramaref10_told.l0
      repeat' first
      | (with_reducible exact ih0 _ _ _ _ _ _ _)
      | (with_reducible exact dioramaref02_Small.mono _ _ _)
      | (with_reducible exact dioramaref10_normal.mono _ _ _ _)
      | (with_reducible exact dioramaref10_plus.mono _ _ _ _ _ _ _)
      | (with_reducible exact dioramaref10_ratio.mono _ _ _)
      | (with_reducible exact LeO.refl _)
      | (with_reducible exact LeO.none _)
      | (with_reducible refine LeO.ite ?_ ?_)
      | (with_reducible refine LeO.bind ?_ (fun _ => ?_))
      | exact ih0 _ _ _ _ _ _ _
      | exact dioramaref02_Small.mono _ _ _
      | exact dioramaref10_normal.mono _ _ _ _
      | exact dioramaref10_plus.mono _ _ _ _ _ _ _
      | exact dioramaref10_ratio.mono _ _ _
      | exact LeO.none _
      | refine LeO.ite ?_ ?_
      | refine LeO.bind ?_ (fun _ => ?_)
theorem dioramaref10_told.mono : ∀ a0 a1 a2 k, LeO (dioramaref10_told.f k a0 a1 a2) (dioramaref10_told.f (k + 1) a0 a1 a2) := by
  intro a0 a1 a2 k
  have ih0 := dioramaref10_told.mono_l k
  unfold dioramaref10_told.f
  repeat' first
      | (with_reducible exact ih0 _ _ _ _ _ _ _)
      | (with_reducible exact dioramaref02_Small.mono _ _ _)
      | (with_reducible exact dioramaref10_normal.mono _ _ _ _)
      | (with_reducible exact dioramaref10_plus.mono _ _ _ _ _ _ _)
      | (with_reducible exact dioramaref10_ratio.mono _ _ _)
      | (with_reducible exact LeO.refl _)
      | (with_reducible exact LeO.none _)
      | (with_reducible refine LeO.ite ?_ ?_)
      | (with_reducible refine LeO.bind ?_ (fun _ => ?_))
      | exact ih0 _ _ _ _ _ _ _
      | exact dioramaref02_Small.mono _ _ _
      | exact dioramaref10_normal.mono _ _ _ _
      | exact dioramaref10_plus.mono _ _ _ _ _ _ _
      | exact dioramaref10_ratio.mono _ _ _
      | exact LeO.none _
      | refine LeO.ite ?_ ?_
      | refine LeO.bind ?_ (fun _ => ?_)
set_option maxHeartbeats 8000000 in
set_option maxRecDepth 100000 in
theorem dioramaref10_told.calls (k : Nat) (A0 : Option Addr) (c0 : Nat) (l0 : List (S77)) (a1 : Int) (a2 : Int) (r1 : List (S77)) (r2 : Int) (w : World) (hr0 : Kd.C k77 w A0 l0.length l0) (hc0 : l0.length ≤ c0) (h : dioramaref10_told.f k l0 a1 a2 = some (r1, r2)) :
  Calls Try.prog 58 #[.slice A0 l0.length c0, .int .i64 a1, .int .i64 a2] w fun e w' => ∃ v0_ : Value, e = .returned (.tuple #[v0_, .int .i64 r2]) ∧ Kd.R k77 77 w' w.heap.size (fun _ => True) v0_ r1 ∧ Below w.heap.size w w' := by
 have hu95 := Try.underlying95; have HR0 := Aside0.mk hr0; have HC0 := Aside0.mk hc0; clear hr0 hc0; have HB := Aside0.mk (Below.refl w.heap.size w); have H : ((dioramaref10_ratio.f k 0 1).bind fun bt360 => (dioramaref10_told.l0 k l0 a1 a2 0 bt360.1 bt360.2.1 bt360.2.2)) = some (r1, r2) := h
 clear h; obtain ⟨⟨t360, t361, t364⟩, A4, H⟩ := ob H
 (try dsimp only at H)
 have H' := Aside0.mk H; clear H
 go_enter Try.func58, Try.ntmps58
 go_wp2_with (first | ((with_reducible refine gate_callee (f := 68) rfl ?_); refine zC 13 Try.func68 #[.int .i64 0, .int .i64 1] ?_; (with_reducible refine (dioramaref10_ratio.calls k 0 1 t360 t361 t364 _ A4.out).mono ?_); rintro e w5 ⟨v362, v365, rfl, ho0, ho1, hb⟩; refine ⟨_, rfl, ?_⟩; have HO363 := Aside0.mk (Kd.R_lower ho0 sz); have HO366 := Aside0.mk (Kd.R_lower ho1 sz); replace HB := bp hb; clear hb ho0 ho1) | ((with_reducible refine gate_dst (N := 8) rfl ?_); refine zB 8 95 #[.bool false, .slice none 0 0, .slice none 0 0] ?_; intro gb367 hg w6 hbox hb; replace HO363 := Aside0.mk (Kd.R_below (rz HO363) hb); replace HO366 := Aside0.mk (Kd.R_below (rz HO366) hb); have BK367 := Aside0.mk hbox; have GW367 := gz hg; have GE367 := gz hg; replace HB := bp hb; clear hb hbox hg; obtain ⟨hcz7_0, hcz7_1, hcz7_2, hfz7_0, hfz7_1, hfz7_2⟩ := xc3 BK367; obtain ⟨Ao8, co8, eo8⟩ := Kd.R_slice HO363.out; subst eo8; obtain ⟨Ao9, co9, eo9⟩ := Kd.R_slice HO366.out; subst eo9))
 go_loopg [9] k (fun kq v9 w' => ∃ (x9_1 : Int) (x368000_1 : Bool) (x368001_1 : List Int) (x368002_1 : List Int) (u368001 : Value) (u368002 : Value), v9 = .int .i64 x9_1 ∧ Aside0 (dioramaref10_told.l0 kq l0 a1 a2 x9_1 x368000_1 x368001_1 x368002_1 = some (r1, r2)) ∧ Aside0 (kq ≤ k) ∧ Aside0 (Kd.R (Kd.int .i64) 3 w' w.heap.size (fun k_ => some k_ ≠ (u368002 : Value).ownBlock) u368001 x368001_1) ∧ Aside0 (Kd.R (Kd.int .i64) 3 w' w.heap.size (fun k_ => some k_ ≠ (u368001 : Value).ownBlock) u368002 x368002_1) ∧ Aside0 (w'.heap[gb367]? = some (.cells #[.bool x368000_1, u368001, u368002] 95 (0, 0))) ∧ Aside0 (Below w.heap.size w w'))
 case atStart => exact ⟨(0), (t360), (t361), (t364), (.slice Ao8 t361.length co8), (.slice Ao9 t364.length co9), jz, H', ⟨Nat.le_refl _⟩, ⟨by (with_reducible repeat (first | apply Kd.R_alloc | apply Kd.R_drewN | apply Kd.R_drew)); exact Kd.R_mono (Kd.R_far (p := ⟨gb367, 2, none⟩) (Kd.R_far (p := ⟨gb367, 1, none⟩) (Kd.R_far (p := ⟨gb367, 0, none⟩) (Kd.R_types HO363.out BK367.out (by decide)) (fun _ hk => hk.2) (.bool t360)) (fun _ hk => hk.2) (.slice Ao8 t361.length co8)) (fun _ hk => hk.2) (.slice Ao9 t364.length co9)) (fun _ hk => hk.1)⟩, ⟨by (with_reducible repeat (first | apply Kd.R_alloc | apply Kd.R_drewN | apply Kd.R_drew)); exact Kd.R_mono (Kd.R_far (p := ⟨gb367, 2, none⟩) (Kd.R_far (p := ⟨gb367, 1, none⟩) (Kd.R_far (p := ⟨gb367, 0, none⟩) (Kd.R_types HO366.out BK367.out (by decide)) (fun _ hk => hk.2) (.bool t360)) (fun _ hk => hk.2) (.slice Ao8 t361.length co8)) (fun _ hk => hk.2) (.slice Ao9 t364.length co9)) (fun _ hk => hk.1)⟩, ⟨by (with_reducible repeat (first | refine blk_drewN ?_ _ | refine blk_drew ?_ | refine blk_alloc ?_ _)); refine blk_put (cs := #[.bool t360, .slice Ao8 t361.length co8, .slice none 0 0]) ?_ 2 _ rfl; (with_reducible repeat (first | refine blk_drewN ?_ _ | refine blk_drew ?_ | refine blk_alloc ?_ _)); refine blk_put (cs := #[.bool t360, .slice none 0 0, .slice none 0 0]) ?_ 1 _ rfl; (with_reducible repeat (first | refine blk_drewN ?_ _ | refine blk_drew ?_ | refine blk_alloc ?_ _)); refine blk_put (cs := #[.bool false, .slice none 0 0, .slice none 0 0]) ?_ 0 _ rfl; (with_reducible repeat (first | refine blk_drewN ?_ _ | refine blk_drew ?_ | refine blk_alloc ?_ _)); exact BK367.out⟩, ⟨bz⟩⟩
 case round =>
  clear H'
  try clear p2
  try clear c5
  try clear c6
  try clear hcz7_0
  try clear hcz7_1
  try clear hcz7_2
  try clear hfz7_0
  try clear hfz7_1
  try clear hfz7_2
  obtain ⟨x9_1, x368000_1, x368001_1, x368002_1, u368001, u368002, rfl, HA, HK1, HO_368001, HO_368002, BK367, HB⟩ := hrel
  cases gk with
  | zero => exact absurd HA.out (by simp [dioramaref10_told.l0])
  | succ k1 =>
   have H := HA.out; clear HA; simp only [dioramaref10_told.l0] at H
   by_cases c10 : x9_1 < (l0.length : Int)
   ·rw [if_pos c10] at H; have c10b0 : decide (x9_1 < (l0.length : Int)) = true := decide_eq_true c10; clear c10
    by_cases c11 : 0 ≤ x9_1
    ·rw [if_pos c11] at H; have c11b0 : decide (0 ≤ x9_1) = true := decide_eq_true c11; clear c11; obtain ⟨⟨t369, t370, t373⟩, A12, H⟩ := ob H
     (try dsimp only at H)
     obtain ⟨⟨t376, t377, t380⟩, A13, H⟩ := ob H
     (try dsimp only at H)
     have H' := Aside0.mk H; clear H
     try go_wp2
     replace HO_368001 := Aside0.mk (Kd.R_drew HO_368001.out); replace HO_368002 := Aside0.mk (Kd.R_drew HO_368002.out); replace BK367 := Aside0.mk (blk_drew BK367.out); replace HB := Aside0.mk (below_drew1 HB.out); have p368 : 0 ≤ (x9_1 : Int) := od; have q368 : x9_1 < (l0.length : Int) := od; obtain ⟨ad368, e368, hx368_0, hx368_1, hx368_2, hx368_3⟩ := at_T77 HR0.out x9_1 p368 q368; have hw368_3 := hx368_3; have hw368_2 := hx368_2; have hw368_1 := hx368_1; have hw368_0 := hx368_0
     cases e368
     replace hx368_0 := cl HB hx368_0; replace hx368_1 := cl HB hx368_1; replace hx368_2 := cl HB hx368_2; replace hx368_3 := cl HB hx368_3; replace p368 := eq_true p368; replace q368 := eq_true q368; refine start_ (n := 9) (S := fun w' => w'.cell? ⟨gb367, 0, none⟩ = some (.bool x368000_1) ∧ w'.cell? ⟨gb367, 1, none⟩ = some (u368001) ∧ w'.cell? ⟨gb367, 2, none⟩ = some (u368002) ∧ w'.cell? (ad368.add ((x9_1).toNat * 4)) = some (.int .i64 ((rd_T77 l0 x9_1).f0)) ∧ w'.cell? ⟨(ad368.add ((x9_1).toNat * 4)).block, (ad368.add ((x9_1).toNat * 4)).off + 1, none⟩ = some (.int .i64 ((rd_T77 l0 x9_1).f1)) ∧ w'.cell? ⟨(ad368.add ((x9_1).toNat * 4)).block, (ad368.add ((x9_1).toNat * 4)).off + 2, none⟩ = some (.int .i64 ((rd_T77 l0 x9_1).f2)) ∧ w'.cell? ⟨(ad368.add ((x9_1).toNat * 4)).block, (ad368.add ((x9_1).toNat * 4)).off + 3, none⟩ = some (.int .i64 ((rd_T77 l0 x9_1).f3))) (ds := [8]) (bs 9 0) (by kernel_rfl) rfl rfl ⟨ct BK367 0, ct BK367 1, ct BK367 2, (cl HB hw368_0), (cl HB hw368_1), (cl HB hw368_2), (cl HB hw368_3)⟩ (fun hHeld => ?_)
     generalize wr.drew = w14 at HO_368001 HO_368002 BK367 HB hx368_0 hx368_1 hx368_2 hx368_3 hHeld ⊢; refine zP 1 21 9 2 ?_; refine zP 2 22 9 6 ?_; refine zP 3 23 9 14 ?_; refine zP 4 24 9 30 ?_; refine zT 0 20 9 31 hHeld ?_; refine zT 5 25 9 63 hHeld ?_; refine zN 6 (some 26) 9 127 (fun K hK => ?_); refine zG Try.func68 #[.int .i64 ((rd_T77 l0 x9_1).f0), .int .i64 1] ?_
     with_reducible refine (dioramaref10_ratio.calls k1 ((rd_T77 l0 x9_1).f0) 1 t369 t370 t373 _ A12.out).mono ?_
     rintro e w15 ⟨v371, v374, rfl, ho0, ho1, hb⟩; refine ⟨_, rfl, ?_⟩; have HO372 := Aside0.mk (Kd.R_lower (Kd.R_new' (Kd.R_new' ho0 (Kd.R_lt (rz HO_368001))) (Kd.R_lt (rz HO_368002))) sz); have HO375 := Aside0.mk (Kd.R_lower (Kd.R_new' (Kd.R_new' ho1 (Kd.R_lt (rz HO_368001))) (Kd.R_lt (rz HO_368002))) sz); replace HO_368001 := Aside0.mk (Kd.R_mono (Kd.R_told (Kd.R_told (Kd.R_old (rz HO_368001) hb) (Kd.R_base ho0)) (Kd.R_base ho1)) (fun _ h_ => h_.1)); replace HO_368002 := Aside0.mk (Kd.R_mono (Kd.R_told (Kd.R_told (Kd.R_old (rz HO_368002) hb) (Kd.R_base ho0)) (Kd.R_base ho1)) (fun _ h_ => h_.1)); replace BK367 := kb BK367 hb; replace HB := bp hb; clear hb ho0 ho1; obtain ⟨Ao16, co16, eo16⟩ := Kd.R_slice HO_368001.out
     (first | subst eo16 | (injection eo16 with f1_ f2_ f3_; have f4_ := f1_.symm; have f5_ := f3_.symm; clear f1_ f2_ f3_; subst f4_; subst f5_))
     obtain ⟨Ao17, co17, eo17⟩ := Kd.R_slice HO_368002.out
     (first | subst eo17 | (injection eo17 with f1_ f2_ f3_; have f4_ := f1_.symm; have f5_ := f3_.symm; clear f1_ f2_ f3_; subst f4_; subst f5_))
     obtain ⟨Ao18, co18, eo18⟩ := Kd.R_slice HO372.out
     (first | subst eo18 | (injection eo18 with f1_ f2_ f3_; have f4_ := f1_.symm; have f5_ := f3_.symm; clear f1_ f2_ f3_; subst f4_; subst f5_))
     obtain ⟨Ao19, co19, eo19⟩ := Kd.R_slice HO375.out
     (first | subst eo19 | (injection eo19 with f1_ f2_ f3_; have f4_ := f1_.symm; have f5_ := f3_.symm; clear f1_ f2_ f3_; subst f4_; subst f5_))
     refine hK.out _ _ ⟨ct BK367 0, ct BK367 1, ct BK367 2, (cl HB hw368_0), (cl HB hw368_1), (cl HB hw368_2), (cl HB hw368_3)⟩ (fun hHeld => ?_); clear hK K; refine zM 26 ?_; refine zN 7 (some 27) 9 255 (fun K hK => ?_); refine zG Try.func69 #[.agg #[.bool x368000_1, .slice Ao16 x368001_1.length co16, .slice Ao17 x368002_1.length co17], .agg #[.bool t369, .slice Ao18 t370.length co18, .slice Ao19 t373.length co19]] ?_
     with_reducible refine (dioramaref10_plus.calls k1 x368000_1 _ _ x368001_1 _ _ x368002_1 t369 _ _ t370 _ _ t373 t376 t377 t380 _ ?side1 ?side2 ?side3 ?side4 ?side5 ?side6 ?side7 ?side8 A13.out).mono ?_
     (case side1 => exact cr HO_368001)
     (case side2 => exact (Kd.R_reads' HO_368001.out).2.1)
     (case side3 => exact cr HO_368002)
     (case side4 => exact (Kd.R_reads' HO_368002.out).2.1)
     (case side5 => exact cr HO372)
     (case side6 => exact (Kd.R_reads' HO372.out).2.1)
     (case side7 => exact cr HO375)
     (case side8 => exact (Kd.R_reads' HO375.out).2.1)
     rintro e w20 ⟨v378, v381, rfl, ho0, ho1, hb⟩; refine ⟨_, rfl, ?_⟩; have HO379 := Aside0.mk (Kd.R_lower (Kd.R_new' (Kd.R_new' (Kd.R_new' (Kd.R_new' ho0 (Kd.R_lt (rz HO_368001))) (Kd.R_lt (rz HO_368002))) (Kd.R_lt (rz HO372))) (Kd.R_lt (rz HO375))) sz); have HO382 := Aside0.mk (Kd.R_lower (Kd.R_new' (Kd.R_new' (Kd.R_new' (Kd.R_new' ho1 (Kd.R_lt (rz HO_368001))) (Kd.R_lt (rz HO_368002))) (Kd.R_lt (rz HO372))) (Kd.R_lt (rz HO375))) sz); replace HO_368001 := Aside0.mk (Kd.R_mono (Kd.R_told (Kd.R_told (Kd.R_old (rz HO_368001) hb) (Kd.R_base ho0)) (Kd.R_base ho1)) (fun _ h_ => h_.1)); replace HO_368002 := Aside0.mk (Kd.R_mono (Kd.R_told (Kd.R_told (Kd.R_old (rz HO_368002) hb) (Kd.R_base ho0)) (Kd.R_base ho1)) (fun _ h_ => h_.1)); replace HO372 := Aside0.mk (Kd.R_mono (Kd.R_told (Kd.R_told (Kd.R_old (rz HO372) hb) (Kd.R_base ho0)) (Kd.R_base ho1)) (fun _ h_ => h_.1)); replace HO375 := Aside0.mk (Kd.R_mono (Kd.R_told (Kd.R_told (Kd.R_old (rz HO375) hb) (Kd.R_base ho0)) (Kd.R_base ho1)) (fun _ h_ => h_.1)); replace BK367 := kb BK367 hb; replace HB := bp hb; clear hb ho0 ho1; obtain ⟨Ao22, co22, eo22⟩ := Kd.R_slice HO379.out
     (first | subst eo22 | (injection eo22 with f1_ f2_ f3_; have f4_ := f1_.symm; have f5_ := f3_.symm; clear f1_ f2_ f3_; subst f4_; subst f5_))
     obtain ⟨Ao24, co24, eo24⟩ := Kd.R_slice HO382.out
     (first | subst eo24 | (injection eo24 with f1_ f2_ f3_; have f4_ := f1_.symm; have f5_ := f3_.symm; clear f1_ f2_ f3_; subst f4_; subst f5_))
     refine hK.out _ _ ⟨ct BK367 0, ct BK367 1, ct BK367 2, (cl HB hw368_0), (cl HB hw368_1), (cl HB hw368_2), (cl HB hw368_3)⟩ (fun hHeld => ?_); clear hK K; refine zM 27 ?_; refine zL 8 none 9 511 (fun K hK => ?_); have hs21 : w20.cell? ⟨gb367, 0, none⟩ = some (.bool x368000_1) := ct BK367 0; have hfs21 := blk_frozen BK367.out 0; have hs23 : w20.cell? ⟨gb367, 1, none⟩ = some (.slice Ao16 x368001_1.length co16) := ct BK367 1; have hfs23 := blk_frozen BK367.out 1; have hs25 : w20.cell? ⟨gb367, 2, none⟩ = some (.slice Ao17 x368002_1.length co17) := ct BK367 2; have hfs25 := blk_frozen BK367.out 2; refine skip_ (w1 := ?_) (by rfl) rfl ?_ ?_
     rotate_left
     ·go_simp
      rfl
     refine hK.out _ _ ?_; clear hK K; refine done_ (by kernel_rfl) ?_
     try go_wp2
     go_roundg k1
     case measure => have := HK1.out; omega
     case rel => exact ⟨(wrap64 (x9_1 + 1)), (t376), (t377), (t380), (.slice Ao22 t377.length co22), (.slice Ao24 t380.length co24), jz, H', ⟨by have := HK1.out; omega⟩, ⟨by (with_reducible repeat (first | apply Kd.R_alloc | apply Kd.R_drewN | apply Kd.R_drew)); exact Kd.R_mono (Kd.R_far (p := ⟨gb367, 2, none⟩) (Kd.R_far (p := ⟨gb367, 1, none⟩) (Kd.R_far (p := ⟨gb367, 0, none⟩) (Kd.R_types HO379.out BK367.out (by decide)) (fun _ hk => hk.2) (.bool t376)) (fun _ hk => hk.2) (.slice Ao22 t377.length co22)) (fun _ hk => hk.2) (.slice Ao24 t380.length co24)) (fun _ hk => hk.1.1.1.1.1)⟩, ⟨by (with_reducible repeat (first | apply Kd.R_alloc | apply Kd.R_drewN | apply Kd.R_drew)); exact Kd.R_mono (Kd.R_far (p := ⟨gb367, 2, none⟩) (Kd.R_far (p := ⟨gb367, 1, none⟩) (Kd.R_far (p := ⟨gb367, 0, none⟩) (Kd.R_types HO382.out BK367.out (by decide)) (fun _ hk => hk.2) (.bool t376)) (fun _ hk => hk.2) (.slice Ao22 t377.length co22)) (fun _ hk => hk.2) (.slice Ao24 t380.length co24)) (fun _ hk => hk.1.1.1.1.1)⟩, ⟨by (with_reducible repeat (first | refine blk_drewN ?_ _ | refine blk_drew ?_ | refine blk_alloc ?_ _)); refine blk_put (cs := #[.bool t376, .slice Ao22 t377.length co22, .slice Ao17 x368002_1.length co17]) ?_ 2 _ rfl; (with_reducible repeat (first | refine blk_drewN ?_ _ | refine blk_drew ?_ | refine blk_alloc ?_ _)); refine blk_put (cs := #[.bool t376, .slice Ao16 x368001_1.length co16, .slice Ao17 x368002_1.length co17]) ?_ 1 _ rfl; (with_reducible repeat (first | refine blk_drewN ?_ _ | refine blk_drew ?_ | refine blk_alloc ?_ _)); refine blk_put (cs := #[.bool x368000_1, .slice Ao16 x368001_1.length co16, .slice Ao17 x368002_1.length co17]) ?_ 0 _ rfl; (with_reducible repeat (first | refine blk_drewN ?_ _ | refine blk_drew ?_ | refine blk_alloc ?_ _)); exact BK367.out⟩, ⟨bz⟩⟩
    ·rw [if_neg c11] at H
     exact absurd H (by simp)
   ·rw [if_neg c10] at H; have c10b0 : decide (x9_1 < (l0.length : Int)) = false := decide_eq_false c10; clear c10; obtain ⟨⟨t383, t384⟩, A26, H⟩ := ob H
    (try dsimp only at H)
    by_cases c27 : t384 = true
    ·subst c27; rw [if_pos rfl] at H; obtain ⟨t385, A28, H⟩ := ob H
     by_cases c29 : (t385.length : Int) > 20
     ·rw [if_pos c29] at H; have c29b0 : decide (20 < (t385.length : Int)) = true := decide_eq_true c29; have c29b1 : decide (20 < t385.length) = true := decide_eq_true (by omega); clear c29; simp only [Option.some.injEq, Prod.mk.injEq] at H; obtain ⟨rfl, rfl⟩ := H; obtain ⟨hcz30_0, hcz30_1, hcz30_2, hfz30_0, hfz30_1, hfz30_2⟩ := xc3 BK367; obtain ⟨Ao31, co31, eo31⟩ := Kd.R_slice HO_368001.out; subst eo31
      go_wp2_with (first | ((with_reducible refine gate_callee (f := 70) rfl ?_); refine zC 31 Try.func70 #[.slice Ao31 x368001_1.length co31, .int .i64 1099511627776] ?_; (with_reducible refine (dioramaref02_Small.calls k1 _ _ x368001_1 1099511627776 t383 true _ ?side1 ?side2 A26.out).mono ?_); (case side1 => exact cr HO_368001); (case side2 => exact (Kd.R_reads' HO_368001.out).2.1); rintro e w32 ⟨rfl, hb⟩; refine ⟨_, rfl, ?_⟩; replace HO_368001 := Aside0.mk (Kd.R_below (rz HO_368001) hb); replace HO_368002 := Aside0.mk (Kd.R_below (rz HO_368002) hb); replace BK367 := kb BK367 hb; replace HB := bp hb; clear hb) | ((with_reducible refine gate_callee (f := 102) rfl ?_); refine zC 39 Try.func102 #[.slice A0 l0.length c0, .int .i64 a1, .int .i64 a2] ?_; (with_reducible refine (dioramaref10_normal.calls k1 _ _ l0 a1 a2 t385 _ ?side1 ?side2 A28.out).mono ?_); (case side1 => exact cz HR0); (case side2 => exact HC0.out); rintro e w33 ⟨v386, rfl, ho0, hb⟩; refine ⟨_, rfl, ?_⟩; replace HO_368001 := Aside0.mk (Kd.R_below (rz HO_368001) hb); replace HO_368002 := Aside0.mk (Kd.R_below (rz HO_368002) hb); have HO387 := Aside0.mk (Kd.R_lower ho0 sz); replace BK367 := kb BK367 hb; replace HB := bp hb; clear hb ho0; obtain ⟨Ao34, co34, eo34⟩ := Kd.R_slice HO387.out; subst eo34))
      go_ret2
      exact ⟨_, ez, by first | exact Kd.R_nil _ _ _ _ _ | exact Kd.N_nil _ _ _ _ _ | exact Kd.V_nil _ _ _ _ _ | exact Kd.Q_nil _ _ _ _ _ | exact Kd.S_nil _ _ _ _ _, bz⟩
     ·rw [if_neg c29] at H; have c29b0 : decide (20 < (t385.length : Int)) = false := decide_eq_false c29; have c29b1 : decide (20 < t385.length) = false := decide_eq_false (by omega); clear c29; simp only [Option.some.injEq, Prod.mk.injEq] at H; obtain ⟨rfl, rfl⟩ := H; obtain ⟨hcz35_0, hcz35_1, hcz35_2, hfz35_0, hfz35_1, hfz35_2⟩ := xc3 BK367; obtain ⟨Ao36, co36, eo36⟩ := Kd.R_slice HO_368001.out; subst eo36
      go_wp2_with (first | ((with_reducible refine gate_callee (f := 70) rfl ?_); refine zC 31 Try.func70 #[.slice Ao36 x368001_1.length co36, .int .i64 1099511627776] ?_; (with_reducible refine (dioramaref02_Small.calls k1 _ _ x368001_1 1099511627776 t383 true _ ?side1 ?side2 A26.out).mono ?_); (case side1 => exact cr HO_368001); (case side2 => exact (Kd.R_reads' HO_368001.out).2.1); rintro e w37 ⟨rfl, hb⟩; refine ⟨_, rfl, ?_⟩; replace HO_368001 := Aside0.mk (Kd.R_below (rz HO_368001) hb); replace HO_368002 := Aside0.mk (Kd.R_below (rz HO_368002) hb); replace BK367 := kb BK367 hb; replace HB := bp hb; clear hb) | ((with_reducible refine gate_callee (f := 102) rfl ?_); refine zC 39 Try.func102 #[.slice A0 l0.length c0, .int .i64 a1, .int .i64 a2] ?_; (with_reducible refine (dioramaref10_normal.calls k1 _ _ l0 a1 a2 t385 _ ?side1 ?side2 A28.out).mono ?_); (case side1 => exact cz HR0); (case side2 => exact HC0.out); rintro e w38 ⟨v386, rfl, ho0, hb⟩; refine ⟨_, rfl, ?_⟩; replace HO_368001 := Aside0.mk (Kd.R_below (rz HO_368001) hb); replace HO_368002 := Aside0.mk (Kd.R_below (rz HO_368002) hb); have HO387 := Aside0.mk (Kd.R_lower ho0 sz); replace BK367 := kb BK367 hb; replace HB := bp hb; clear hb ho0; obtain ⟨Ao39, co39, eo39⟩ := Kd.R_slice HO387.out; subst eo39))
      go_ret2
      exact ⟨_, ez, by (with_reducible repeat (first | apply Kd.R_alloc | apply Kd.R_drewN | apply Kd.R_drew)); exact HO387.out, bz⟩
    ·obtain rfl := bf c27; rw [if_neg (show ¬ (false = true) by decide)] at H; simp only [Option.some.injEq, Prod.mk.injEq] at H; obtain ⟨rfl, rfl⟩ := H; obtain ⟨hcz40_0, hcz40_1, hcz40_2, hfz40_0, hfz40_1, hfz40_2⟩ := xc3 BK367; obtain ⟨Ao41, co41, eo41⟩ := Kd.R_slice HO_368001.out; subst eo41
     go_wp2_with (first | ((with_reducible refine gate_callee (f := 70) rfl ?_); refine zC 31 Try.func70 #[.slice Ao41 x368001_1.length co41, .int .i64 1099511627776] ?_; (with_reducible refine (dioramaref02_Small.calls k1 _ _ x368001_1 1099511627776 t383 false _ ?side1 ?side2 A26.out).mono ?_); (case side1 => exact cr HO_368001); (case side2 => exact (Kd.R_reads' HO_368001.out).2.1); rintro e w42 ⟨rfl, hb⟩; refine ⟨_, rfl, ?_⟩; replace HO_368001 := Aside0.mk (Kd.R_below (rz HO_368001) hb); replace HO_368002 := Aside0.mk (Kd.R_below (rz HO_368002) hb); replace BK367 := kb BK367 hb; replace HB := bp hb; clear hb))
     go_ret2
     exact ⟨_, ez, by first | exact Kd.R_nil _ _ _ _ _ | exact Kd.N_nil _ _ _ _ _ | exact Kd.V_nil _ _ _ _ _ | exact Kd.Q_nil _ _ _ _ _ | exact Kd.S_nil _ _ _ _ _, bz⟩
def dioramaref10_Normal.f (k : Nat) (l0 : List (S77)) (a1 : Int) (a2 : Int) : Option ((List (S77)) × Int) := (dioramaref10_Check.f k l0 a1 a2).bind fun t388 => (if t388 = 0 then ((dioramaref10_told.f k l0 a1 a2).bind fun bt389 => (some (bt389.1, bt389.2))) else (some (([] : List (S77)), t388)))
theorem dioramaref10_Normal.mono : ∀ a0 a1 a2 k, LeO (dioramaref10_Normal.f k a0 a1 a2) (dioramaref10_Normal.f (k + 1) a0 a1 a2) := by
  intro a0 a1 a2 k
  unfold dioramaref10_Normal.f
  repeat' first
      | (with_reducible exact dioramaref10_Check.mono _ _ _ _)
      | (with_reducible exact dioramaref10_told.mono _ _ _ _)
      | (with_reducible exact LeO.refl _)
      | (with_reducible exact LeO.none _)
      | (with_reducible refine LeO.ite ?_ ?_)
      | (with_reducible refine LeO.bind ?_ (fun _ => ?_))
      | exact dioramaref10_Check.mono _ _ _ _
      | exact dioramaref10_told.mono _ _ _ _
      | exact LeO.none _
      | refine LeO.ite ?_ ?_
      | refine LeO.bind ?_ (fun _ => ?_)
set_option maxHeartbeats 8000000 in
set_option maxRecDepth 100000 in
theorem dioramaref10_Normal.calls (k : Nat) (A0 : Option Addr) (c0 : Nat) (l0 : List (S77)) (a1 : Int) (a2 : Int) (r1 : List (S77)) (r2 : Int) (w : World) (hr0 : Kd.C k77 w A0 l0.length l0) (hc0 : l0.length ≤ c0) (h : dioramaref10_Normal.f k l0 a1 a2 = some (r1, r2)) :
  Calls Try.prog 22 #[.slice A0 l0.length c0, .int .i64 a1, .int .i64 a2] w fun e w' => ∃ v0_ : Value, e = .returned (.tuple #[v0_, .int .i64 r2]) ∧ Kd.R k77 77 w' w.heap.size (fun _ => True) v0_ r1 ∧ Below w.heap.size w w' := by
 have HR0 := Aside0.mk hr0; have HC0 := Aside0.mk hc0; clear hr0 hc0; have HB := Aside0.mk (Below.refl w.heap.size w); have H : ((dioramaref10_Check.f k l0 a1 a2).bind fun t388 => (if t388 = 0 then ((dioramaref10_told.f k l0 a1 a2).bind fun bt389 => (some (bt389.1, bt389.2))) else (some (([] : List (S77)), t388)))) = some (r1, r2) := h
 clear h; obtain ⟨t388, A4, H⟩ := ob H
 by_cases c5 : t388 = 0
 ·rw [if_pos c5] at H; have c5b0 : (t388 == 0) = true := beq_iff_eq.mpr c5; have c5b1 : (t388 != 0) = false := bne_eq_false_iff_eq.mpr c5; clear c5; obtain ⟨⟨t389, t390⟩, A6, H⟩ := ob H
  (try dsimp only at H)
  simp only [Option.some.injEq, Prod.mk.injEq] at H; obtain ⟨rfl, rfl⟩ := H
  go_enter Try.func22, Try.ntmps22
  go_wp2_with (first | ((with_reducible refine gate_callee (f := 25) rfl ?_); refine zC 12 Try.func25 #[.slice A0 l0.length c0, .int .i64 a1, .int .i64 a2] ?_; (with_reducible refine (dioramaref10_Check.calls k _ _ l0 a1 a2 t388 _ ?side1 ?side2 A4.out).mono ?_); (case side1 => repeat (first | exact HR0.out | (with_reducible refine Kd.C_alloc ?_ _) | (with_reducible refine Kd.C_drewN ?_ _) | (with_reducible refine Kd.C_drew ?_))); (case side2 => exact HC0.out); rintro e w7 ⟨rfl, hb⟩; refine ⟨_, rfl, ?_⟩; replace HB := bp hb; clear hb) | ((with_reducible refine gate_callee (f := 58) rfl ?_); refine zC 19 Try.func58 #[.slice A0 l0.length c0, .int .i64 a1, .int .i64 a2] ?_; (with_reducible refine (dioramaref10_told.calls k _ _ l0 a1 a2 t389 t390 _ ?side1 ?side2 A6.out).mono ?_); (case side1 => exact cz HR0); (case side2 => exact HC0.out); rintro e w8 ⟨v391, rfl, ho0, hb⟩; refine ⟨_, rfl, ?_⟩; have HO392 := Aside0.mk (Kd.R_lower ho0 sz); replace HB := bp hb; clear hb ho0))
  go_ret2
  exact ⟨_, ez, by (with_reducible repeat (first | apply Kd.R_alloc | apply Kd.R_drewN | apply Kd.R_drew)); exact HO392.out, bz⟩
 ·rw [if_neg c5] at H; have c5b0 : (t388 == 0) = false := beq_eq_false_iff_ne.mpr c5; have c5b1 : (t388 != 0) = true := bne_iff_ne.mpr c5; simp only [Option.some.injEq, Prod.mk.injEq] at H; obtain ⟨rfl, rfl⟩ := H
  go_enter Try.func22, Try.ntmps22
  go_wp2_with (first | ((with_reducible refine gate_callee (f := 25) rfl ?_); refine zC 12 Try.func25 #[.slice A0 l0.length c0, .int .i64 a1, .int .i64 a2] ?_; (with_reducible refine (dioramaref10_Check.calls k _ _ l0 a1 a2 t388 _ ?side1 ?side2 A4.out).mono ?_); (case side1 => repeat (first | exact HR0.out | (with_reducible refine Kd.C_alloc ?_ _) | (with_reducible refine Kd.C_drewN ?_ _) | (with_reducible refine Kd.C_drew ?_))); (case side2 => exact HC0.out); rintro e w9 ⟨rfl, hb⟩; refine ⟨_, rfl, ?_⟩; replace HB := bp hb; clear hb))
  go_ret2
  exact ⟨_, ez, by first | exact Kd.R_nil _ _ _ _ _ | exact Kd.N_nil _ _ _ _ _ | exact Kd.V_nil _ _ _ _ _ | exact Kd.Q_nil _ _ _ _ _ | exact Kd.S_nil _ _ _ _ _, bz⟩
end Go.Proofs.Ytpbhepdgamoiaaa.E
namespace Go.Proofs.Ytpbhepdgamoiaaa.E
open Go.Proofs.Ytpbhepdgamoiaaa.Z Go.RowKit Go.Proofs.YtpbhepdgamoiaaaW.PrintWords Go.Proofs.YtpbhepdgamoiaaaW.PrintLast Go.Proofs.YtpbhepdgamoiaaaW.PrintMore
attribute [local go_sem] max2_int min2_int max_two min_two max_three min_three max_four min_four
set_option linter.unusedVariables false
set_option linter.unusedSimpArgs false
attribute [local go_sem high] eqA77
def dioramaref00_EqEdits.l0 : Nat → List (S77) → List (S77) → Int → Option (Bool)
  | 0, _, _, _ => none
  | k + 1, x0, x1, x5 => if x5 < (x0.length : Int) then (if 0 ≤ x5 then (if x5 < (x1.length : Int) then (if (!(((rd_T77 x0 x5).f0) == ((rd_T77 x1 x5).f0)) || (!(((rd_T77 x0 x5).f1) == ((rd_T77 x1 x5).f1)) || (!(((rd_T77 x0 x5).f2) == ((rd_T77 x1 x5).f2)) || (!(((rd_T77 x0 x5).f3) == ((rd_T77 x1 x5).f3)))))) = true then (some false) else (dioramaref00_EqEdits.l0 k x0 x1 (wrap64 (x5 + 1)))) else (none)) else (none)) else (some true)
def dioramaref00_EqEdits.f (k : Nat) (l0 : List (S77)) (l1 : List (S77)) : Option (Bool) := if (l0.length : Int) = (l1.length : Int) then (dioramaref00_EqEdits.l0 k l0 l1 0) else (some false)
theorem dioramaref00_EqEdits.mono_l : ∀ k, (∀ y0 y1 y2, LeO (dioramaref00_EqEdits.l0 k y0 y1 y2) (dioramaref00_EqEdits.l0 (k + 1) y0 y1 y2))
  | 0 => fun _ _ _ r h => by simp [dioramaref00_EqEdits.l0] at h
  | k + 1 => by
    have ih0 := dioramaref00_EqEdits.mono_l k
    · intro y0 y1 y2
      unfold dioramaref00_EqEdits.l0
      repeat' first
      | (with_reducible exact ih0 _ _ _)
      | (with_reducible exact LeO.refl _)
      | (with_reducible exact LeO.none _)
      | (with_reducible refine LeO.ite ?_ ?_)
      | (with_reducible refine LeO.bind ?_ (fun _ => ?_))
      | exact ih0 _ _ _
      | exact LeO.none _
      | refine LeO.ite ?_ ?_
      | refine LeO.bind ?_ (fun _ => ?_)
theorem dioramaref00_EqEdits.mono : ∀ a0 a1 k, LeO (dioramaref00_EqEdits.f k a0 a1) (dioramaref00_EqEdits.f (k + 1) a0 a1) := by
  intro a0 a1 k
  have ih0 := dioramaref00_EqEdits.mono_l k
  unfold dioramaref00_EqEdits.f
  repeat' first
      | (with_reducible exact ih0 _ _ _)
      | (with_reducible exact LeO.refl _)
      | (with_reducible exact LeO.none _)
      | (with_reducible refine LeO.ite ?_ ?_)
      | (with_reducible refine LeO.bind ?_ (fun _ => ?_))
      | exact ih0 _ _ _
      | exact LeO.none _
      | refine LeO.ite ?_ ?_
      | refine LeO.bind ?_ (fun _ => ?_)
set_option maxHeartbeats 8000000 in
set_option maxRecDepth 100000 in
theorem dioramaref00_EqEdits.calls (k : Nat) (A0 : Option Addr) (c0 : Nat) (l0 : List (S77)) (A1 : Option Addr) (c1 : Nat) (l1 : List (S77)) (r : Bool) (w : World) (hr0 : Kd.C k77 w A0 l0.length l0) (hc0 : l0.length ≤ c0) (hr1 : Kd.C k77 w A1 l1.length l1) (hc1 : l1.length ≤ c1) (h : dioramaref00_EqEdits.f k l0 l1 = some r) :
  Calls Try.prog 42 #[.slice A0 l0.length c0, .slice A1 l1.length c1] w fun e w' => e = .returned (.bool r) ∧ Drawn0 w w' := by
 have hu77 := Try.underlying77; have HR0 := Aside0.mk hr0; have HC0 := Aside0.mk hc0; clear hr0 hc0; have HR1 := Aside0.mk hr1; have HC1 := Aside0.mk hc1; clear hr1 hc1; have H : (if (l0.length : Int) = (l1.length : Int) then (dioramaref00_EqEdits.l0 k l0 l1 0) else (some false)) = some r := h; clear h
 by_cases c3 : (l0.length : Int) = (l1.length : Int)
 ·rw [if_pos c3] at H; have c3b0 : ((l0.length : Int) == (l1.length : Int)) = true := beq_iff_eq.mpr c3; have c3b1 : ((l0.length : Int) != (l1.length : Int)) = false := bne_eq_false_iff_eq.mpr c3; have c3b2 : (l0.length == l1.length) = true := by first | simpa using c3 | (simp at c3 ⊢; omega)
  clear c3; have H' := Aside0.mk H; clear H
  go_enter Try.func42, Try.ntmps42
  go_wp2
  repeat (go_quiet (fail); try go_wp2)
  go_loopg [5] k (fun kq v5 w' => ∃ (x5_1 : Int), v5 = .int .i64 x5_1 ∧ Aside0 (dioramaref00_EqEdits.l0 kq l0 l1 x5_1 = some r) ∧ Aside0 (kq ≤ k) ∧ Drawn0 w w')
  case atStart => exact ⟨(0), jz, H', ⟨Nat.le_refl _⟩, by repeat (first | exact Drawn0.refl _ | apply Drawn0.step)⟩
  case round =>
   clear H'
   try clear c1
   try clear p2
   try clear c3
   try clear c3b0
   try clear c3b1
   try clear c3b2
   obtain ⟨x5_1, rfl, HA, HK1, ⟨m1, rfl⟩⟩ := hrel
   cases gk with
   | zero => exact absurd HA.out (by simp [dioramaref00_EqEdits.l0])
   | succ k1 =>
    have H := HA.out; clear HA; simp only [dioramaref00_EqEdits.l0] at H
    by_cases c4 : x5_1 < (l0.length : Int)
    ·rw [if_pos c4] at H; have c4b0 : decide (x5_1 < (l0.length : Int)) = true := decide_eq_true c4; clear c4
     by_cases c5 : 0 ≤ x5_1
     ·rw [if_pos c5] at H; have c5b0 : decide (0 ≤ x5_1) = true := decide_eq_true c5; clear c5
      by_cases c6 : x5_1 < (l1.length : Int)
      ·rw [if_pos c6] at H; have c6b0 : decide (x5_1 < (l1.length : Int)) = true := decide_eq_true c6; clear c6
       by_cases c7 : (!(((rd_T77 l0 x5_1).f0) == ((rd_T77 l1 x5_1).f0)) || (!(((rd_T77 l0 x5_1).f1) == ((rd_T77 l1 x5_1).f1)) || (!(((rd_T77 l0 x5_1).f2) == ((rd_T77 l1 x5_1).f2)) || (!(((rd_T77 l0 x5_1).f3) == ((rd_T77 l1 x5_1).f3)))))) = true
       ·rw [if_pos c7] at H; have c7b0 : (!(((rd_T77 l0 x5_1).f0) == ((rd_T77 l1 x5_1).f0)) || (!(((rd_T77 l0 x5_1).f1) == ((rd_T77 l1 x5_1).f1)) || (!(((rd_T77 l0 x5_1).f2) == ((rd_T77 l1 x5_1).f2)) || (!(((rd_T77 l0 x5_1).f3) == ((rd_T77 l1 x5_1).f3)))))) = true := c7; clear c7; obtain rfl := Option.some.inj H; have p393 : 0 ≤ (x5_1 : Int) := od; have q393 : x5_1 < (l0.length : Int) := od; obtain ⟨ad393, e393, hx393_0, hx393_1, hx393_2, hx393_3⟩ := at_T77 HR0.out x5_1 p393 q393
        cases e393
        replace p393 := eq_true p393; replace q393 := eq_true q393; have p394 : 0 ≤ (x5_1 : Int) := od; have q394 : x5_1 < (l1.length : Int) := od; obtain ⟨ad394, e394, hx394_0, hx394_1, hx394_2, hx394_3⟩ := at_T77 HR1.out x5_1 p394 q394
        cases e394
        replace p394 := eq_true p394; replace q394 := eq_true q394
        go_wp2
        repeat (go_quiet (fail); try go_wp2)
        go_ret
        exact ⟨by first | rfl | (simp; done) | (simp [*]; done), by repeat (first | exact Drawn0.refl _ | apply Drawn0.step)⟩
       ·rw [if_neg c7] at H; have c7b0 : (!(((rd_T77 l0 x5_1).f0) == ((rd_T77 l1 x5_1).f0)) || (!(((rd_T77 l0 x5_1).f1) == ((rd_T77 l1 x5_1).f1)) || (!(((rd_T77 l0 x5_1).f2) == ((rd_T77 l1 x5_1).f2)) || (!(((rd_T77 l0 x5_1).f3) == ((rd_T77 l1 x5_1).f3)))))) = false := by simpa using c7
        clear c7; have H' := Aside0.mk H; clear H; have p393 : 0 ≤ (x5_1 : Int) := od; have q393 : x5_1 < (l0.length : Int) := od; obtain ⟨ad393, e393, hx393_0, hx393_1, hx393_2, hx393_3⟩ := at_T77 HR0.out x5_1 p393 q393
        cases e393
        replace p393 := eq_true p393; replace q393 := eq_true q393; have p394 : 0 ≤ (x5_1 : Int) := od; have q394 : x5_1 < (l1.length : Int) := od; obtain ⟨ad394, e394, hx394_0, hx394_1, hx394_2, hx394_3⟩ := at_T77 HR1.out x5_1 p394 q394
        cases e394
        replace p394 := eq_true p394; replace q394 := eq_true q394
        go_wp2
        repeat (go_quiet (fail); try go_wp2)
        go_roundg k1
        case measure => have := HK1.out; omega
        case rel => exact ⟨(wrap64 (x5_1 + 1)), jz, H', ⟨by have := HK1.out; omega⟩, by repeat (first | exact Drawn0.refl _ | apply Drawn0.step)⟩
      ·rw [if_neg c6] at H
       exact absurd H (by simp)
     ·rw [if_neg c5] at H
      exact absurd H (by simp)
    ·rw [if_neg c4] at H; have c4b0 : decide (x5_1 < (l0.length : Int)) = false := decide_eq_false c4; clear c4; obtain rfl := Option.some.inj H
     go_wp2
     repeat (go_quiet (fail); try go_wp2)
     go_ret
     exact ⟨by first | rfl | (simp; done) | (simp [*]; done), by repeat (first | exact Drawn0.refl _ | apply Drawn0.step)⟩
 ·rw [if_neg c3] at H; have c3b0 : ((l0.length : Int) == (l1.length : Int)) = false := beq_eq_false_iff_ne.mpr c3; have c3b1 : ((l0.length : Int) != (l1.length : Int)) = true := bne_iff_ne.mpr c3; have c3b2 : (l0.length == l1.length) = false := by first | simpa using c3 | (simp at c3 ⊢; omega)
  obtain rfl := Option.some.inj H
  go_enter Try.func42, Try.ntmps42
  go_wp2
  repeat (go_quiet (fail); try go_wp2)
  go_ret
  exact ⟨by first | rfl | (simp; done) | (simp [*]; done), by repeat (first | exact Drawn0.refl _ | apply Drawn0.step)⟩
def dioramalaw10_eq.f (k : Nat) (l0 : List (S77)) (a1 : Int) (l2 : List (S77)) (a3 : Int) : Option (Bool) := (dioramaref00_EqEdits.f k l0 l2).bind fun t395 => (if t395 = true then (some (a1 == a3)) else (some false))
theorem dioramalaw10_eq.mono : ∀ a0 a1 a2 a3 k, LeO (dioramalaw10_eq.f k a0 a1 a2 a3) (dioramalaw10_eq.f (k + 1) a0 a1 a2 a3) := by
  intro a0 a1 a2 a3 k
  unfold dioramalaw10_eq.f
  repeat' first
      | (with_reducible exact dioramaref00_EqEdits.mono _ _ _)
      | (with_reducible exact LeO.refl _)
      | (with_reducible exact LeO.none _)
      | (with_reducible refine LeO.ite ?_ ?_)
      | (with_reducible refine LeO.bind ?_ (fun _ => ?_))
      | exact dioramaref00_EqEdits.mono _ _ _
      | exact LeO.none _
      | refine LeO.ite ?_ ?_
      | refine LeO.bind ?_ (fun _ => ?_)
set_option maxHeartbeats 8000000 in
set_option maxRecDepth 100000 in
theorem dioramalaw10_eq.calls (k : Nat) (A0 : Option Addr) (c0 : Nat) (l0 : List (S77)) (a1 : Int) (A2 : Option Addr) (c2 : Nat) (l2 : List (S77)) (a3 : Int) (r : Bool) (w : World) (hr0 : Kd.C k77 w A0 l0.length l0) (hc0 : l0.length ≤ c0) (hr2 : Kd.C k77 w A2 l2.length l2) (hc2 : l2.length ≤ c2) (h : dioramalaw10_eq.f k l0 a1 l2 a3 = some r) :
  Calls Try.prog 23 #[.slice A0 l0.length c0, .int .i64 a1, .slice A2 l2.length c2, .int .i64 a3] w fun e w' => e = .returned (.bool r) ∧ Drawn0 w w' := by
 have HR0 := Aside0.mk hr0; have HC0 := Aside0.mk hc0; clear hr0 hc0; have HR2 := Aside0.mk hr2; have HC2 := Aside0.mk hc2; clear hr2 hc2; have H : ((dioramaref00_EqEdits.f k l0 l2).bind fun t395 => (if t395 = true then (some (a1 == a3)) else (some false))) = some r := h
 clear h; obtain ⟨t395, A5, H⟩ := ob H
 by_cases c6 : t395 = true
 ·subst c6; rw [if_pos rfl] at H; obtain rfl := Option.some.inj H
  go_enter Try.func23, Try.ntmps23
  go_wp2_with (first | ((with_reducible refine gate_callee (f := 42) rfl ?_); refine zC 11 Try.func42 #[.slice A0 l0.length c0, .slice A2 l2.length c2] ?_; (with_reducible refine (dioramaref00_EqEdits.calls k _ _ l0 _ _ l2 true _ ?side1 ?side2 ?side3 ?side4 A5.out).mono ?_); (case side1 => repeat (first | exact HR0.out | (with_reducible refine Kd.C_alloc ?_ _) | (with_reducible refine Kd.C_drewN ?_ _) | (with_reducible refine Kd.C_drew ?_))); (case side2 => exact HC0.out); (case side3 => repeat (first | exact HR2.out | (with_reducible refine Kd.C_alloc ?_ _) | (with_reducible refine Kd.C_drewN ?_ _) | (with_reducible refine Kd.C_drew ?_))); (case side4 => exact HC2.out); rintro e w' ⟨rfl, ⟨nd, rfl⟩⟩; refine ⟨_, rfl, ?_⟩))
  go_ret
  exact ⟨by first | rfl | (simp; done) | (simp [*]; done), by repeat (first | exact Drawn0.refl _ | apply Drawn0.step)⟩
 ·obtain rfl := bf c6; rw [if_neg (show ¬ (false = true) by decide)] at H; obtain rfl := Option.some.inj H
  go_enter Try.func23, Try.ntmps23
  go_wp2_with (first | ((with_reducible refine gate_callee (f := 42) rfl ?_); refine zC 11 Try.func42 #[.slice A0 l0.length c0, .slice A2 l2.length c2] ?_; (with_reducible refine (dioramaref00_EqEdits.calls k _ _ l0 _ _ l2 false _ ?side1 ?side2 ?side3 ?side4 A5.out).mono ?_); (case side1 => repeat (first | exact HR0.out | (with_reducible refine Kd.C_alloc ?_ _) | (with_reducible refine Kd.C_drewN ?_ _) | (with_reducible refine Kd.C_drew ?_))); (case side2 => exact HC0.out); (case side3 => repeat (first | exact HR2.out | (with_reducible refine Kd.C_alloc ?_ _) | (with_reducible refine Kd.C_drewN ?_ _) | (with_reducible refine Kd.C_drew ?_))); (case side4 => exact HC2.out); rintro e w' ⟨rfl, ⟨nd, rfl⟩⟩; refine ⟨_, rfl, ?_⟩))
  go_ret
  exact ⟨by first | rfl | (simp; done) | (simp [*]; done), by repeat (first | exact Drawn0.refl _ | apply Drawn0.step)⟩
end Go.Proofs.Ytpbhepdgamoiaaa.E

/-
  Printed walks.
-/
import Derived.Test.YtekommcfpjonmaaGreatQREditBacka
import Derived.Test.YtekommcfpjonmaaGreatQREditBackc
set_option linter.unusedVariables false
set_option linter.unusedSimpArgs false
set_option maxHeartbeats 8000000
set_option maxRecDepth 100000
namespace Go.Proofs.YtekommcfpjonmaaGreat.E
open Z RowKit YtekommcfpjonmaaGreatW.PrintWords YtekommcfpjonmaaGreatW.PrintLast YtekommcfpjonmaaGreatW.PrintMore
attribute [local go_sem] max2_int min2_int max_two min_two
attribute [local go_sem high] eqA53
def dioramalaw10_many.f (l0 : List (S67)) : Option (Bool) := some (decide ((l0.length : Int) > 60))
theorem dioramalaw10_many.calls (A0 : Option Addr) (c0 : Nat) (l0 : List (S67)) (r : Bool) (w : World) (hr0 : Kd.C k67 w A0 l0.length l0) (hc0 : l0.length ≤ c0) (h : dioramalaw10_many.f l0 = some r) :
  Calls Tryz.prog 28 #[.slice A0 l0.length c0] w fun e w' => e = .returned (.bool r) ∧ Drawn0 w w' := by
 have HR0 := aS hr0; have HC0 := aS hc0; clear hr0 hc0; have H : (some (decide ((l0.length : Int) > 60))) = some r := h; clear h; obtain rfl := Option.some.inj H
 go_enter Tryz.func28, Tryz.ntmps28
 go_wp2
 go_ret
 exact ⟨by first | rfl | (simp; done) | (simp [*]; done), by repeat (first | exact Drawn0.refl _ | apply Drawn0.step)⟩
def dioramaref00_EqSpans.l0 : Nat → List (S53) → List (S53) → Int → Option (Bool)
  | 0, _, _, _ => none
  | k + 1, x0, x1, x5 => if x5 < (x0.length : Int) then (if 0 ≤ x5 then (if x5 < (x1.length : Int) then (if ((!(((rd_T53 x0 x5).f0.f0) == ((rd_T53 x1 x5).f0.f0)) || (!(((rd_T53 x0 x5).f0.f1) == ((rd_T53 x1 x5).f0.f1)))) || ((!(((rd_T53 x0 x5).f1.f0) == ((rd_T53 x1 x5).f1.f0)) || (!(((rd_T53 x0 x5).f1.f1) == ((rd_T53 x1 x5).f1.f1)))))) = true then (some false) else (dioramaref00_EqSpans.l0 k x0 x1 (wrap64 (x5 + 1)))) else (none)) else (none)) else (some true)
def dioramaref00_EqSpans.f (k : Nat) (l0 : List (S53)) (l1 : List (S53)) : Option (Bool) := if (l0.length : Int) = (l1.length : Int) then (dioramaref00_EqSpans.l0 k l0 l1 0) else (some false)
theorem dioramaref00_EqSpans.calls (k : Nat) (A0 : Option Addr) (c0 : Nat) (l0 : List (S53)) (A1 : Option Addr) (c1 : Nat) (l1 : List (S53)) (r : Bool) (w : World) (hr0 : Kd.C k53 w A0 l0.length l0) (hc0 : l0.length ≤ c0) (hr1 : Kd.C k53 w A1 l1.length l1) (hc1 : l1.length ≤ c1) (h : dioramaref00_EqSpans.f k l0 l1 = some r) :
  Calls Tryz.prog 34 #[.slice A0 l0.length c0, .slice A1 l1.length c1] w fun e w' => e = .returned (.bool r) ∧ Drawn0 w w' := by
 have hu53 := Tryz.underlying53; have HR0 := aS hr0; have HC0 := aS hc0; clear hr0 hc0; have HR1 := aS hr1; have HC1 := aS hc1; clear hr1 hc1; have H : (if (l0.length : Int) = (l1.length : Int) then (dioramaref00_EqSpans.l0 k l0 l1 0) else (some false)) = some r := h; clear h
 by_cases c3 : (l0.length : Int) = (l1.length : Int)
 ·rw [if_pos c3] at H; have c3b0 : ((l0.length : Int) == (l1.length : Int)) = true := beq_iff_eq.mpr c3; have c3b1 : ((l0.length : Int) != (l1.length : Int)) = false := bne_eq_false_iff_eq.mpr c3; have c3b2 : (l0.length == l1.length) = true := by first | simpa using c3 | (simp at c3 ⊢; omega)
  clear c3; have H' := aS H; clear H
  go_enter Tryz.func34, Tryz.ntmps34
  go_wp2
  repeat (go_quiet (fail); try go_wp2)
  go_loopg [5] k (fun kq v5 w' => ∃ (x5_1 : Int), v5 = .int .i64 x5_1 ∧ Aside0 (dioramaref00_EqSpans.l0 kq l0 l1 x5_1 = some r) ∧ Aside0 (kq ≤ k) ∧ Drawn0 w w')
  case atStart => exact ⟨(0), jz, H', ⟨Nat.le_refl _⟩, by repeat (first | exact Drawn0.refl _ | apply Drawn0.step)⟩
  case round =>
   clear H'
   try clear c1
   try clear p2
   try clear c3
   try clear c3b0
   try clear c3b1
   try clear c3b2
   obtain ⟨x5_1, rfl, HA, HK1, ⟨m1, rfl⟩⟩ := hrel
   cases gk with
   | zero => exact absurd HA.out (by simp [dioramaref00_EqSpans.l0])
   | succ k1 =>
    have H := HA.out; clear HA; simp only [dioramaref00_EqSpans.l0] at H
    by_cases c4 : x5_1 < (l0.length : Int)
    ·rw [if_pos c4] at H; have c4b0 : decide (x5_1 < (l0.length : Int)) = true := decide_eq_true c4; clear c4
     by_cases c5 : 0 ≤ x5_1
     ·rw [if_pos c5] at H; have c5b0 : decide (0 ≤ x5_1) = true := decide_eq_true c5; clear c5
      by_cases c6 : x5_1 < (l1.length : Int)
      ·rw [if_pos c6] at H; have c6b0 : decide (x5_1 < (l1.length : Int)) = true := decide_eq_true c6; clear c6
       by_cases c7 : ((!(((rd_T53 l0 x5_1).f0.f0) == ((rd_T53 l1 x5_1).f0.f0)) || (!(((rd_T53 l0 x5_1).f0.f1) == ((rd_T53 l1 x5_1).f0.f1)))) || ((!(((rd_T53 l0 x5_1).f1.f0) == ((rd_T53 l1 x5_1).f1.f0)) || (!(((rd_T53 l0 x5_1).f1.f1) == ((rd_T53 l1 x5_1).f1.f1)))))) = true
       ·rw [if_pos c7] at H; have c7b0 : ((!(((rd_T53 l0 x5_1).f0.f0) == ((rd_T53 l1 x5_1).f0.f0)) || (!(((rd_T53 l0 x5_1).f0.f1) == ((rd_T53 l1 x5_1).f0.f1)))) || ((!(((rd_T53 l0 x5_1).f1.f0) == ((rd_T53 l1 x5_1).f1.f0)) || (!(((rd_T53 l0 x5_1).f1.f1) == ((rd_T53 l1 x5_1).f1.f1)))))) = true := c7; clear c7; obtain rfl := Option.some.inj H; have p109 : 0 ≤ (x5_1 : Int) := od; have q109 : x5_1 < (l0.length : Int) := od; obtain ⟨ad109, e109, hx109_0, hx109_1, hx109_2, hx109_3⟩ := at_T53 HR0.out x5_1 p109 q109
        cases e109
        replace p109 := eq_true p109; replace q109 := eq_true q109; have p110 : 0 ≤ (x5_1 : Int) := od; have q110 : x5_1 < (l1.length : Int) := od; obtain ⟨ad110, e110, hx110_0, hx110_1, hx110_2, hx110_3⟩ := at_T53 HR1.out x5_1 p110 q110
        cases e110
        replace p110 := eq_true p110; replace q110 := eq_true q110
        go_wp2
        repeat (go_quiet (fail); try go_wp2)
        go_ret
        exact ⟨by first | rfl | (simp; done) | (simp [*]; done), by repeat (first | exact Drawn0.refl _ | apply Drawn0.step)⟩
       rw [if_neg c7] at H; have c7b0 : ((!(((rd_T53 l0 x5_1).f0.f0) == ((rd_T53 l1 x5_1).f0.f0)) || (!(((rd_T53 l0 x5_1).f0.f1) == ((rd_T53 l1 x5_1).f0.f1)))) || ((!(((rd_T53 l0 x5_1).f1.f0) == ((rd_T53 l1 x5_1).f1.f0)) || (!(((rd_T53 l0 x5_1).f1.f1) == ((rd_T53 l1 x5_1).f1.f1)))))) = false := by simpa using c7
       clear c7; have H' := aS H; clear H; have p109 : 0 ≤ (x5_1 : Int) := od; have q109 : x5_1 < (l0.length : Int) := od; obtain ⟨ad109, e109, hx109_0, hx109_1, hx109_2, hx109_3⟩ := at_T53 HR0.out x5_1 p109 q109
       cases e109
       replace p109 := eq_true p109; replace q109 := eq_true q109; have p110 : 0 ≤ (x5_1 : Int) := od; have q110 : x5_1 < (l1.length : Int) := od; obtain ⟨ad110, e110, hx110_0, hx110_1, hx110_2, hx110_3⟩ := at_T53 HR1.out x5_1 p110 q110
       cases e110
       replace p110 := eq_true p110; replace q110 := eq_true q110
       go_wp2
       repeat (go_quiet (fail); try go_wp2)
       go_roundg k1
       case measure => have := HK1.out; omega
       case rel => exact ⟨(wrap64 (x5_1 + 1)), jz, H', ⟨by have := HK1.out; omega⟩, by repeat (first | exact Drawn0.refl _ | apply Drawn0.step)⟩
      rw [if_neg c6] at H
      exact absurd H (by simp)
     rw [if_neg c5] at H
     exact absurd H (by simp)
    rw [if_neg c4] at H; have c4b0 : decide (x5_1 < (l0.length : Int)) = false := decide_eq_false c4; clear c4; obtain rfl := Option.some.inj H
    go_wp2
    repeat (go_quiet (fail); try go_wp2)
    go_ret
    exact ⟨by first | rfl | (simp; done) | (simp [*]; done), by repeat (first | exact Drawn0.refl _ | apply Drawn0.step)⟩
 rw [if_neg c3] at H; have c3b0 : ((l0.length : Int) == (l1.length : Int)) = false := beq_eq_false_iff_ne.mpr c3; have c3b1 : ((l0.length : Int) != (l1.length : Int)) = true := bne_iff_ne.mpr c3; have c3b2 : (l0.length == l1.length) = false := by first | simpa using c3 | (simp at c3 ⊢; omega)
 obtain rfl := Option.some.inj H
 go_enter Tryz.func34, Tryz.ntmps34
 go_wp2
 repeat (go_quiet (fail); try go_wp2)
 go_ret
 exact ⟨by first | rfl | (simp; done) | (simp [*]; done), by repeat (first | exact Drawn0.refl _ | apply Drawn0.step)⟩
def dioramaref02_Valid.f (a0_0 : Int) (a0_1 : Int) : Option (Bool) := if a0_1 ≥ 1 then (if a0_1 ≤ 1152921504606846976 then (if a0_0 ≥ (-1152921504606846976) then (some (decide (a0_0 ≤ 1152921504606846976))) else (some false)) else (some false)) else (some false)
theorem dioramaref02_Valid.calls (a0_0 : Int) (a0_1 : Int) (r : Bool) (w : World) (h : dioramaref02_Valid.f a0_0 a0_1 = some r) :
  Calls Tryz.prog 42 #[.agg #[.int .i64 a0_0, .int .i64 a0_1]] w fun e w' => e = .returned (.bool r) ∧ Below w.heap.size w w' := by
 have hu24 := Tryz.underlying24; have HB := aS (Below.refl w.heap.size w); have H : (if a0_1 ≥ 1 then (if a0_1 ≤ 1152921504606846976 then (if a0_0 ≥ (-1152921504606846976) then (some (decide (a0_0 ≤ 1152921504606846976))) else (some false)) else (some false)) else (some false)) = some r := h; clear h
 by_cases c2 : a0_1 ≥ 1
 ·rw [if_pos c2] at H; have c2b0 : decide (1 ≤ a0_1) = true := decide_eq_true c2; clear c2
  by_cases c3 : a0_1 ≤ 1152921504606846976
  ·rw [if_pos c3] at H; have c3b0 : decide (a0_1 ≤ 1152921504606846976) = true := decide_eq_true c3; clear c3
   by_cases c4 : a0_0 ≥ (-1152921504606846976)
   ·rw [if_pos c4] at H; have c4b0 : decide ((-1152921504606846976) ≤ a0_0) = true := decide_eq_true c4; clear c4; obtain rfl := Option.some.inj H
    go_enter Tryz.func42, Tryz.ntmps42
    go_wp2_with (first | ((with_reducible refine gate_dst (N := 1) rfl ?_); refine zB 1 24 #[.int .i64 a0_0, .int .i64 a0_1] ?_; intro gb111 hg w5 hbox hb; have BK111 := aS hbox; have GW111 := gz hg; have GE111 := gz hg; replace HB := bp hb; clear hb hbox hg; obtain ⟨hcz6_0, hcz6_1, hfz6_0, hfz6_1⟩ := xc2 BK111))
    go_ret
    exact ⟨ez, bz⟩
   rw [if_neg c4] at H; have c4b0 : decide ((-1152921504606846976) ≤ a0_0) = false := decide_eq_false c4; clear c4; obtain rfl := Option.some.inj H
   go_enter Tryz.func42, Tryz.ntmps42
   go_wp2_with (first | ((with_reducible refine gate_dst (N := 1) rfl ?_); refine zB 1 24 #[.int .i64 a0_0, .int .i64 a0_1] ?_; intro gb111 hg w7 hbox hb; have BK111 := aS hbox; have GW111 := gz hg; have GE111 := gz hg; replace HB := bp hb; clear hb hbox hg; obtain ⟨hcz8_0, hcz8_1, hfz8_0, hfz8_1⟩ := xc2 BK111))
   go_ret
   exact ⟨ez, bz⟩
  rw [if_neg c3] at H; have c3b0 : decide (a0_1 ≤ 1152921504606846976) = false := decide_eq_false c3; clear c3; obtain rfl := Option.some.inj H
  go_enter Tryz.func42, Tryz.ntmps42
  go_wp2_with (first | ((with_reducible refine gate_dst (N := 1) rfl ?_); refine zB 1 24 #[.int .i64 a0_0, .int .i64 a0_1] ?_; intro gb111 hg w9 hbox hb; have BK111 := aS hbox; have GW111 := gz hg; have GE111 := gz hg; replace HB := bp hb; clear hb hbox hg; obtain ⟨hcz10_0, hcz10_1, hfz10_0, hfz10_1⟩ := xc2 BK111))
  go_ret
  exact ⟨ez, bz⟩
 rw [if_neg c2] at H; have c2b0 : decide (1 ≤ a0_1) = false := decide_eq_false c2; clear c2; obtain rfl := Option.some.inj H
 go_enter Tryz.func42, Tryz.ntmps42
 go_wp2_with (first | ((with_reducible refine gate_dst (N := 1) rfl ?_); refine zB 1 24 #[.int .i64 a0_0, .int .i64 a0_1] ?_; intro gb111 hg w11 hbox hb; have BK111 := aS hbox; have GW111 := gz hg; have GE111 := gz hg; replace HB := bp hb; clear hb hbox hg; obtain ⟨hcz12_0, hcz12_1, hfz12_0, hfz12_1⟩ := xc2 BK111))
 go_ret
 exact ⟨ez, bz⟩
def dioramaref02_Of.l0 : Nat → Int → List Int → Option (List Int)
  | 0, _, _ => none
  | k + 1, x0, x3 => if x0 > 0 then (if x3.length < 17592186044416 then (dioramaref02_Of.l0 k (wrap64 (Int.tdiv x0 1000000000)) (x3 ++ [Int.tmod x0 1000000000])) else (none)) else (some x3)
def dioramaref02_Of.f (k : Nat) (a0 : Int) : Option (List Int) := dioramaref02_Of.l0 k a0 ([] : List Int)
theorem dioramaref02_Of.calls (k : Nat) (a0 : Int) (r : List Int) (w : World) (h : dioramaref02_Of.f k a0 = some r) :
  Calls Tryz.prog 121 #[.int .i64 a0] w fun e w' => ∃ v0_ : Value, e = .returned (v0_) ∧ Kd.R (Kd.int .i64) 3 w' w.heap.size (fun _ => True) v0_ r ∧ Below w.heap.size w w' := by
 have HB := aS (Below.refl w.heap.size w); have H : (dioramaref02_Of.l0 k a0 ([] : List Int)) = some r := h; clear h; have H' := aS H; clear H
 go_enter Tryz.func121, Tryz.ntmps121
 go_wp2
 go_loopg [0, 3] k (fun kq v0 v3 w' => ∃ (x0_1 : Int) (x3_1 : List Int), v0 = .int .i64 x0_1 ∧ Aside0 (dioramaref02_Of.l0 kq x0_1 x3_1 = some r) ∧ Aside0 (kq ≤ k) ∧ Aside0 (Kd.R (Kd.int .i64) 3 w' w.heap.size (fun _ => True) v3 x3_1) ∧ Aside0 (Below w.heap.size w w'))
 case atStart => exact ⟨(a0), (([] : List Int)), jz, H', ⟨Nat.le_refl _⟩, ⟨by first | exact Kd.R_nil _ _ _ _ _ | exact Kd.N_nil _ _ _ _ _ | exact Kd.V_nil _ _ _ _ _ | exact Kd.Q_nil _ _ _ _ _ | exact Kd.S_nil _ _ _ _ _⟩, ⟨bz⟩⟩
 case round =>
  clear H'
  try clear c1
  obtain ⟨x0_1, x3_1, rfl, HA, HK1, HO_3, HB⟩ := hrel
  cases gk with
  | zero => exact absurd HA.out (by simp [dioramaref02_Of.l0])
  | succ k1 =>
   have H := HA.out; clear HA; simp only [dioramaref02_Of.l0] at H
   by_cases c2 : x0_1 > 0
   ·rw [if_pos c2] at H; have c2b0 : decide (0 < x0_1) = true := decide_eq_true c2; clear c2
    by_cases c3 : x3_1.length < 17592186044416
    ·rw [if_pos c3] at H; have LMc3 := aS c3; clear c3; obtain ⟨y112, hy112⟩ : ∃ y_ : List Int, y_ = (x3_1 ++ [Int.tmod x0_1 1000000000]) := ⟨_, rfl⟩; replace H : (dioramaref02_Of.l0 k1 (wrap64 (Int.tdiv x0_1 1000000000)) y112) = some r := by first | (rw [hy112]; with_reducible exact H) | (have H2_ := (Option.bind_some _ _).symm.trans H; rw [hy112]; with_reducible exact H2_) | (have H2_ := (Option.bind_some _ _).symm.trans H; with_reducible exact H2_) | with_reducible exact H | (rw [hy112]; exact H) | exact H
     have Ny112 := aS hy112; clear hy112; have H' := aS H; clear H
     go_wp2_with (first | ((with_reducible refine gate_builtin (b := .append) (xs := #[.tmp 6, .tmp 9]) rfl ?_); at_builtin; refine Kd.R_append (Kd.int .i64) (w0 := w) w.heap.size rfl (.tmp 6) (.tmp 9) 77 3 (.int .i64 0) 8 rfl Tryz.underlying77 info3 rfl (by decide) (by omega) u3 x3_1 (Int.tmod x0_1 1000000000) [.int .i64 (Int.tmod x0_1 1000000000)] (fun _ => True) (fun _ => False) rfl rfl ?aP (fun _ hk => hk.elim) ?aF ?aO ?aB ?aS ?aL ?_; (case aP => exact rfl); (case aB => exact bz); (case aF => exact (fun _ _ => trivial)); (case aO => exact (rz HO_3)); (case aS => exact sz); (case aL => have := LMc3.out; omega); intro v113 w4 ho hb hg hat; rw [← Ny112.out] at ho; replace HB := aS (hb); have HO114 := aS (ho); clear HO_3; clear ho hb hg hat))
     go_roundg k1
     case measure => have := HK1.out; omega
     case rel => exact ⟨(wrap64 (Int.tdiv x0_1 1000000000)), (y112), jz, H', ⟨by have := HK1.out; omega⟩, ⟨rz HO114⟩, ⟨bz⟩⟩
    rw [if_neg c3] at H
    exact absurd H (by simp)
   rw [if_neg c2] at H; have c2b0 : decide (0 < x0_1) = false := decide_eq_false c2; clear c2; obtain rfl := Option.some.inj H
   go_wp2
   go_ret
   exact ⟨_, ez, by refine aR ?_; exact HO_3.out, bz⟩
def dioramaref02_size.f (k : Nat) (a0 : Int) : Option (List Int) := if a0 < 0 then ((dioramaref02_Of.f k (wrap64 (-a0))).bind fun t115 => (some t115)) else ((dioramaref02_Of.f k a0).bind fun t118 => (some t118))
theorem dioramaref02_size.calls (k : Nat) (a0 : Int) (r : List Int) (w : World) (h : dioramaref02_size.f k a0 = some r) :
  Calls Tryz.prog 120 #[.int .i64 a0] w fun e w' => ∃ v0_ : Value, e = .returned (v0_) ∧ Kd.R (Kd.int .i64) 3 w' w.heap.size (fun _ => True) v0_ r ∧ Below w.heap.size w w' := by
 have HB := aS (Below.refl w.heap.size w); have H : (if a0 < 0 then ((dioramaref02_Of.f k (wrap64 (-a0))).bind fun t115 => (some t115)) else ((dioramaref02_Of.f k a0).bind fun t118 => (some t118))) = some r := h
 clear h
 by_cases c2 : a0 < 0
 ·rw [if_pos c2] at H; have c2b0 : decide (a0 < 0) = true := decide_eq_true c2; clear c2; obtain ⟨t115, A3, H⟩ := ob H; obtain rfl := Option.some.inj H
  go_enter Tryz.func120, Tryz.ntmps120
  go_wp2_with (first | ((with_reducible refine gate_callee (f := 121) rfl ?_); refine zC 7 Tryz.func121 #[.int .i64 (wrap64 (-a0))] ?_; (with_reducible refine (dioramaref02_Of.calls k (wrap64 (-a0)) t115 _ A3.out).mono ?_); rintro e w4 ⟨v116, rfl, ho0, hb⟩; refine ⟨_, rfl, ?_⟩; have HO117 := aS (Kd.R_lower ho0 sz); replace HB := bp hb; clear hb ho0))
  go_ret
  exact ⟨_, ez, by refine aR ?_; exact HO117.out, bz⟩
 rw [if_neg c2] at H; have c2b0 : decide (a0 < 0) = false := decide_eq_false c2; clear c2; obtain ⟨t118, A5, H⟩ := ob H; obtain rfl := Option.some.inj H
 go_enter Tryz.func120, Tryz.ntmps120
 go_wp2_with (first | ((with_reducible refine gate_callee (f := 121) rfl ?_); refine zC 9 Tryz.func121 #[.int .i64 a0] ?_; (with_reducible refine (dioramaref02_Of.calls k a0 t118 _ A5.out).mono ?_); rintro e w6 ⟨v119, rfl, ho0, hb⟩; refine ⟨_, rfl, ?_⟩; have HO120 := aS (Kd.R_lower ho0 sz); replace HB := bp hb; clear hb ho0))
 go_ret
 exact ⟨_, ez, by refine aR ?_; exact HO120.out, bz⟩
def dioramaref02_RatOf.f (k : Nat) (a0_0 : Int) (a0_1 : Int) : Option (Bool × List Int × List Int) := (dioramaref02_size.f k a0_0).bind fun t123 => ((dioramaref02_Of.f k a0_1).bind fun t126 => (some (decide (a0_0 < 0), t123, t126)))
theorem dioramaref02_RatOf.calls (k : Nat) (a0_0 : Int) (a0_1 : Int) (r1 : Bool) (r2 : List Int) (r3 : List Int) (w : World) (h : dioramaref02_RatOf.f k a0_0 a0_1 = some (r1, r2, r3)) :
  Calls Tryz.prog 68 #[.agg #[.int .i64 a0_0, .int .i64 a0_1]] w fun e w' => ∃ v1_ v2_ : Value, e = .returned (.agg #[.bool r1, v1_, v2_]) ∧ Kd.R (Kd.int .i64) 3 w' w.heap.size (fun k_ => some k_ ≠ (v2_ : Value).ownBlock) v1_ r2 ∧ Kd.R (Kd.int .i64) 3 w' w.heap.size (fun k_ => some k_ ≠ (v1_ : Value).ownBlock) v2_ r3 ∧ Below w.heap.size w w' := by
 have hu24 := Tryz.underlying24; have hu79 := Tryz.underlying79; have HB := aS (Below.refl w.heap.size w); have H : ((dioramaref02_size.f k a0_0).bind fun t123 => ((dioramaref02_Of.f k a0_1).bind fun t126 => (some (decide (a0_0 < 0), t123, t126)))) = some (r1, r2, r3) := h
 clear h; obtain ⟨t123, A2, H⟩ := ob H; obtain ⟨t126, A3, H⟩ := ob H; simp only [Option.some.injEq, Prod.mk.injEq] at H; obtain ⟨rfl, rfl, rfl⟩ := H
 go_enter Tryz.func68, Tryz.ntmps68
 try go_wp2_with (first | ((with_reducible refine gate_dst (N := 1) rfl ?_); refine zB 1 24 #[.int .i64 a0_0, .int .i64 a0_1] ?_; intro gb121 hg w4 hbox hb; have BK121 := aS hbox; have GW121 := gz hg; have GE121 := gz hg; replace HB := bp hb; clear hb hbox hg) | ((with_reducible refine gate_dst (N := 2) rfl ?_); refine zB 2 79 #[.bool false, .slice none 0 0, .slice none 0 0] ?_; intro gb122 hg w5 hbox hb; have BK122 := aS hbox; have GW122 := gz hg; have GE122 := gz hg; replace HB := bp hb; have NB121_122 := aS ((by rw [hg]; exact Nat.ne_of_lt (bl BK121) : gb121 ≠ gb122)); have NB122_121 := aS ((by rw [hg]; exact Nat.ne_of_gt (bl BK121) : gb122 ≠ gb121)); replace BK121 := kb BK121 hb; clear hb hbox hg))
 replace BK121 := aS (blk_drew BK121.out); replace BK122 := aS (blk_drew BK122.out); replace HB := aS (below_drew1 HB.out); refine start_ (n := 11) (S := fun w' => w'.cell? ⟨gb121, 0, none⟩ = some (.int .i64 a0_0) ∧ w'.cell? ⟨gb121, 1, none⟩ = some (.int .i64 a0_1)) (ds := []) (bs 11 0) (by kernel_rfl) rfl rfl ⟨ct BK121 0, ct BK121 1⟩ (fun hHeld => ?_)
 generalize w5.drew = w6 at BK121 BK122 HB hHeld ⊢; refine zP 0 3 11 1 ?_; refine zP 3 6 11 9 ?_; refine zP 6 9 11 73 ?_; refine zT 1 4 11 75 hHeld ?_; refine zP 2 5 11 79 ?_; refine zT 4 7 11 95 hHeld ?_; refine zT 7 10 11 223 hHeld ?_; refine zN 5 (some 8) 11 255 (fun K hK => ?_); refine zG Tryz.func120 #[.int .i64 a0_0] ?_
 with_reducible refine (dioramaref02_size.calls k a0_0 t123 _ A2.out).mono ?_
 rintro e w7 ⟨v124, rfl, ho0, hb⟩; refine ⟨_, rfl, ?_⟩; have HO125 := aS (Kd.R_lower ho0 sz); replace BK121 := kb BK121 hb; replace BK122 := kb BK122 hb; replace HB := bp hb; clear hb ho0; refine hK.out _ _ ⟨ct BK121 0, ct BK121 1⟩ (fun hHeld => ?_); clear hK K; refine zM 8 ?_; refine zN 8 (some 11) 11 511 (fun K hK => ?_); refine zG Tryz.func121 #[.int .i64 a0_1] ?_
 with_reducible refine (dioramaref02_Of.calls k a0_1 t126 _ A3.out).mono ?_
 rintro e w8 ⟨v127, rfl, ho0, hb⟩; refine ⟨_, rfl, ?_⟩; have HO128 := aS (Kd.R_lower (Kd.R_new' ho0 (Kd.R_lt (rz HO125))) sz); replace HO125 := aS (Kd.R_elder' (rz HO125) (Kd.R_base ho0) hb); replace BK121 := kb BK121 hb; replace BK122 := kb BK122 hb; replace HB := bp hb; clear hb ho0; obtain ⟨Ao9, co9, eo9⟩ := Kd.R_slice HO128.out
 (first | subst eo9 | (injection eo9 with f1_ f2_ f3_; have f4_ := f1_.symm; have f5_ := f3_.symm; clear f1_ f2_ f3_; subst f4_; subst f5_))
 obtain ⟨Ao10, co10, eo10⟩ := Kd.R_slice HO125.out
 (first | subst eo10 | (injection eo10 with f1_ f2_ f3_; have f4_ := f1_.symm; have f5_ := f3_.symm; clear f1_ f2_ f3_; subst f4_; subst f5_))
 refine hK.out _ _ ⟨ct BK121 0, ct BK121 1⟩ (fun hHeld => ?_); clear hK K; refine zM 11 ?_; refine zP 9 12 11 1023 ?_; refine zN 10 none 11 2047 (fun K hK => ?_); have hs11 : w8.cell? ⟨gb122, 0, none⟩ = some (.bool false) := ct BK122 0; have hfs11 := blk_frozen BK122.out 0; have hns11_0 := NB121_122.out; have hms11_0 := NB122_121.out; have hs12 : w8.cell? ⟨gb122, 1, none⟩ = some (.slice none 0 0) := ct BK122 1; have hfs12 := blk_frozen BK122.out 1; have hns12_0 := NB121_122.out; have hms12_0 := NB122_121.out; have hs13 : w8.cell? ⟨gb122, 2, none⟩ = some (.slice none 0 0) := ct BK122 2; have hfs13 := blk_frozen BK122.out 2; have hns13_0 := NB121_122.out; have hms13_0 := NB122_121.out; refine skip_ (w1 := ?_) (by rfl) rfl ?_ ?_
 rotate_left
 ·go_simp
  rfl
 refine hK.out _ _ ⟨((cell_far (p := ⟨gb122, _, none⟩) NB121_122.out _).trans (((cell_far (p := ⟨gb122, _, none⟩) NB121_122.out _).trans (((cell_far (p := ⟨gb122, _, none⟩) NB121_122.out _).trans (hHeld.1)))))), ((cell_far (p := ⟨gb122, _, none⟩) NB121_122.out _).trans (((cell_far (p := ⟨gb122, _, none⟩) NB121_122.out _).trans (((cell_far (p := ⟨gb122, _, none⟩) NB121_122.out _).trans (hHeld.2))))))⟩ (fun hHeld => ?_); clear hK K; refine done_ (by kernel_rfl) ?_
 try go_wp2
 refine bodyPost_ret (results_cell_row rfl _ _ gb122 79 #[.bool (decide (a0_0 < 0)), .slice Ao10 t123.length co10, .slice Ao9 t126.length co9] (0, 0) _ rfl (by refine aB ?_; refine blk_put (cs := #[.bool (decide (a0_0 < 0)), .slice Ao10 t123.length co10, .slice none 0 0]) ?_ 2 _ rfl; refine aB ?_; refine blk_put (cs := #[.bool (decide (a0_0 < 0)), .slice none 0 0, .slice none 0 0]) ?_ 1 _ rfl; refine aB ?_; refine blk_put (cs := #[.bool false, .slice none 0 0, .slice none 0 0]) ?_ 0 _ rfl; refine aB ?_; exact BK122.out) Tryz.underlying79 rfl (by kernel_rfl)) rfl ?_
 exact ⟨_, _, ez, by refine aR ?_; exact Kd.R_mono (Kd.R_far (p := ⟨gb122, 2, none⟩) (Kd.R_far (p := ⟨gb122, 1, none⟩) (Kd.R_far (p := ⟨gb122, 0, none⟩) (Kd.R_types HO125.out BK122.out (by decide)) (fun _ hk => hk.2) (.bool (decide (a0_0 < 0)))) (fun _ hk => hk.2) (.slice Ao10 t123.length co10)) (fun _ hk => hk.2) (.slice Ao9 t126.length co9)) (fun _ hk => hk.1.2), by refine aR ?_; exact Kd.R_mono (Kd.R_far (p := ⟨gb122, 2, none⟩) (Kd.R_far (p := ⟨gb122, 1, none⟩) (Kd.R_far (p := ⟨gb122, 0, none⟩) (Kd.R_types HO128.out BK122.out (by decide)) (fun _ hk => hk.2) (.bool (decide (a0_0 < 0)))) (fun _ hk => hk.2) (.slice Ao10 t123.length co10)) (fun _ hk => hk.2) (.slice Ao9 t126.length co9)) (fun _ hk => hk.1.2), bz⟩
def dioramaref02_digit.f (l0 : List Int) (a1 : Int) : Option (Int) := if a1 < (l0.length : Int) then (if 0 ≤ a1 then (some (rd l0 a1)) else (none)) else (some 0)
theorem dioramaref02_digit.calls (A0 : Option Addr) (c0 : Nat) (l0 : List Int) (a1 : Int) (r : Int) (w : World) (hr0 : Kd.C (Kd.int .i64) w A0 l0.length l0) (hc0 : l0.length ≤ c0) (h : dioramaref02_digit.f l0 a1 = some r) :
  Calls Tryz.prog 151 #[.slice A0 l0.length c0, .int .i64 a1] w fun e w' => e = .returned (.int .i64 r) ∧ Drawn0 w w' := by
 have HR0 := aS hr0; have HC0 := aS hc0; clear hr0 hc0; have H : (if a1 < (l0.length : Int) then (if 0 ≤ a1 then (some (rd l0 a1)) else (none)) else (some 0)) = some r := h; clear h
 by_cases c3 : a1 < (l0.length : Int)
 ·rw [if_pos c3] at H; have c3b0 : decide (a1 < (l0.length : Int)) = true := decide_eq_true c3; clear c3
  by_cases c4 : 0 ≤ a1
  ·rw [if_pos c4] at H; have c4b0 : decide (0 ≤ a1) = true := decide_eq_true c4; clear c4; obtain rfl := Option.some.inj H; have p129 : 0 ≤ (a1 : Int) := od; have q129 : a1 < (l0.length : Int) := od; obtain ⟨ad129, e129, hx129_0⟩ := Kd.at_int HR0.out a1 p129 q129
   cases e129
   replace p129 := eq_true p129; replace q129 := eq_true q129
   go_enter Tryz.func151, Tryz.ntmps151
   go_wp2
   go_ret
   exact ⟨by first | rfl | (simp; done) | (simp [*]; done), by repeat (first | exact Drawn0.refl _ | apply Drawn0.step)⟩
  rw [if_neg c4] at H
  exact absurd H (by simp)
 rw [if_neg c3] at H; have c3b0 : decide (a1 < (l0.length : Int)) = false := decide_eq_false c3; clear c3; obtain rfl := Option.some.inj H
 go_enter Tryz.func151, Tryz.ntmps151
 go_wp2
 go_ret
 exact ⟨by first | rfl | (simp; done) | (simp [*]; done), by repeat (first | exact Drawn0.refl _ | apply Drawn0.step)⟩
end Go.Proofs.YtekommcfpjonmaaGreat.E
namespace Go.Proofs.YtekommcfpjonmaaGreat.E
open Z RowKit YtekommcfpjonmaaGreatW.PrintWords YtekommcfpjonmaaGreatW.PrintLast YtekommcfpjonmaaGreatW.PrintMore
attribute [local go_sem] max2_int min2_int max_two min_two
def dioramaref02_trimmed.l0 : Nat → List Int → Int → Option (List Int)
  | 0, _, _ => none
  | k + 1, x0, x3 => if x3 > 0 then (if 0 ≤ (wrap64 (x3 - 1)) then (if (wrap64 (x3 - 1)) < (x0.length : Int) then (if (rd x0 (wrap64 (x3 - 1))) = 0 then (dioramaref02_trimmed.l0 k x0 (wrap64 (x3 - 1))) else (if 0 ≤ x3 then (if x3 ≤ (x0.length : Int) then (some (x0.take (x3 : Int).toNat)) else (none)) else (none))) else (none)) else (none)) else (if 0 ≤ x3 then (if x3 ≤ (x0.length : Int) then (some (x0.take (x3 : Int).toNat)) else (none)) else (none))
def dioramaref02_trimmed.f (k : Nat) (l0 : List Int) : Option (List Int) := dioramaref02_trimmed.l0 k l0 (l0.length : Int)
theorem dioramaref02_trimmed.calls (k : Nat) (P0_ : Nat → Prop) (u9000_ : Value) (l0 : List Int) (r : List Int) (w0 w : World) (hB : Below w0.heap.size w0 w) (ho0 : Kd.R (Kd.int .i64) 3 w w0.heap.size P0_ u9000_ l0) (h : dioramaref02_trimmed.f k l0 = some r) :
  Calls Tryz.prog 152 #[u9000_] w fun e w' => ∃ v0_ : Value, e = .returned (v0_) ∧ Kd.R (Kd.int .i64) 3 w' w0.heap.size (fun k_ => (P0_ k_ ∨ w.heap.size ≤ k_)) v0_ r ∧ Below w0.heap.size w0 w' ∧ Kept w w' (fun k_ => P0_ k_) := by
 have HO0 := aS (show Kd.R (Kd.int .i64) 3 w w0.heap.size (fun k_ => (P0_ k_ ∨ w.heap.size ≤ k_)) u9000_ l0 from Kd.R_mono ho0 (fun k_ hk => (.inl hk)))
 have HK := aS (Kept.refl w (fun k_ => P0_ k_)); have HW0 := aS hB.size; have HB := aS hB; clear hB; have H : (dioramaref02_trimmed.l0 k l0 (l0.length : Int)) = some r := h; clear h; have H' := aS H; clear H; obtain ⟨Ao2, co2, eo2⟩ := Kd.R_slice HO0.out; subst eo2
 go_enter Tryz.func152, Tryz.ntmps152
 go_wp2
 go_loopg [3] k (fun kq v3 w' => ∃ (x3_1 : Int), v3 = .int .i64 x3_1 ∧ Aside0 (dioramaref02_trimmed.l0 kq l0 x3_1 = some r) ∧ Aside0 (kq ≤ k) ∧ Aside0 (Kd.R (Kd.int .i64) 3 w' w0.heap.size (fun k_ => (P0_ k_ ∨ w.heap.size ≤ k_)) (.slice Ao2 l0.length co2) l0) ∧ Aside0 (Kept w w' (fun k_ => P0_ k_)) ∧ Aside0 (Below w0.heap.size w0 w'))
 case atStart => exact ⟨((l0.length : Int)), jz, H', ⟨Nat.le_refl _⟩, ⟨rz HO0⟩, ⟨by repeat (first | (with_reducible first | exact HK.out | apply Kept.alloc | apply Kept.drewN | apply Kept.drew) | exact HK.out)⟩, ⟨bz⟩⟩
 case round =>
  clear H'
  try clear c1
  try clear p2
  obtain ⟨x3_1, rfl, HA, HK1, HO_0, HK, HB⟩ := hrel
  cases gk with
  | zero => exact absurd HA.out (by simp [dioramaref02_trimmed.l0])
  | succ k1 =>
   have H := HA.out; clear HA; simp only [dioramaref02_trimmed.l0] at H
   by_cases c3 : x3_1 > 0
   ·rw [if_pos c3] at H; have c3b0 : decide (0 < x3_1) = true := decide_eq_true c3; clear c3; obtain ⟨ji4, hji4⟩ : ∃ j_ : Int, (wrap64 (x3_1 - 1)) = j_ := ⟨_, rfl⟩; replace H : (if 0 ≤ (ji4) then (if (ji4) < (l0.length : Int) then (if (rd l0 (ji4)) = 0 then (dioramaref02_trimmed.l0 k1 l0 ji4) else (if 0 ≤ x3_1 then (if x3_1 ≤ (l0.length : Int) then (some (l0.take (x3_1 : Int).toNat)) else (none)) else (none))) else (none)) else (none)) = some r := by first | (rw [hji4] at H; exact H) | (simp only [hji4] at H ⊢; exact H)
    have hji4w : (IntKind.i64.wrap (x3_1 - 1)) = ji4 := (i64_w _).trans hji4
    by_cases c5 : 0 ≤ (ji4)
    ·rw [if_pos c5] at H; have c5b0 : decide (0 ≤ (ji4)) = true := decide_eq_true c5; clear c5
     by_cases c6 : (ji4) < (l0.length : Int)
     ·rw [if_pos c6] at H; have c6b0 : decide ((ji4) < (l0.length : Int)) = true := decide_eq_true c6; clear c6
      by_cases c7 : (rd l0 (ji4)) = 0
      ·rw [if_pos c7] at H; have c7b0 : ((rd l0 (ji4)) == 0) = true := beq_iff_eq.mpr c7; have c7b1 : ((rd l0 (ji4)) != 0) = false := bne_eq_false_iff_eq.mpr c7; clear c7; have H' := aS H; clear H; have p130 : 0 ≤ ((ji4) : Int) := od; have q130 : (ji4) < (l0.length : Int) := od; obtain ⟨ad130, e130, hx130_0⟩ := Kd.at_int (Kd.R_reads' HO_0.out).2.2 (ji4) p130 q130
       cases e130
       replace p130 := eq_true p130; replace q130 := eq_true q130
       go_wp2
       go_roundg k1
       case measure => have := HK1.out; omega
       case rel => exact ⟨(ji4), (by first | rfl | (simp; done) | (simp only [← hji4] <;> (first | rfl | simp)) | (simp [*]; done)), H', ⟨by have := HK1.out; omega⟩, ⟨rz HO_0⟩, ⟨by repeat (first | (with_reducible first | exact HK.out | apply Kept.alloc | apply Kept.drewN | apply Kept.drew) | exact HK.out)⟩, ⟨bz⟩⟩
      rw [if_neg c7] at H; have c7b0 : ((rd l0 (ji4)) == 0) = false := beq_eq_false_iff_ne.mpr c7; have c7b1 : ((rd l0 (ji4)) != 0) = true := bne_iff_ne.mpr c7
      by_cases c8 : 0 ≤ x3_1
      ·rw [if_pos c8] at H; have c8b0 := eq_true c8; have c8b1 : decide (0 ≤ x3_1) = true := decide_eq_true c8; clear c8
       by_cases c9 : x3_1 ≤ (l0.length : Int)
       ·rw [if_pos c9] at H; have c9b0 := eq_true c9; have c9b1 : decide (x3_1 ≤ (l0.length : Int)) = true := decide_eq_true c9; clear c9; obtain ⟨y131, hy131⟩ : ∃ y_ : List Int, y_ = (l0.take (x3_1 : Int).toNat) := ⟨_, rfl⟩; replace H : (some y131) = some r := by first | (rw [hy131]; with_reducible exact H) | (have H2_ := (Option.bind_some _ _).symm.trans H; rw [hy131]; with_reducible exact H2_) | (have H2_ := (Option.bind_some _ _).symm.trans H; with_reducible exact H2_) | with_reducible exact H | (rw [hy131]; exact H) | exact H
        have Ny131 := aS hy131; clear hy131; obtain rfl := Option.some.inj H; have p130 : 0 ≤ ((ji4) : Int) := od; have q130 : (ji4) < (l0.length : Int) := od; obtain ⟨ad130, e130, hx130_0⟩ := Kd.at_int (Kd.R_reads' HO_0.out).2.2 (ji4) p130 q130
        cases e130
        replace p130 := eq_true p130; replace q130 := eq_true q130; have q10 : (x3_1 : Int) ≤ ((l0.length : Int) : Int) := od; obtain ⟨i010, hi010, _, hsz10, _⟩ := info_parts info3; have hcut10 := cut_to (P := Tryz.prog) 77 3 .i64 Tryz.underlying77 hi010 (some ad130) l0.length co2 x3_1 (od) q10 (Kd.R_reads' HO_0.out).2.1; have hr10 := Kd.R_take (m := (x3_1 : Int).toNat) HO_0.out (by omega); have hy10 : y131.length = (x3_1 : Int).toNat := (by rw [Ny131.out, List.length_take]; omega); rw [← Ny131.out] at hr10; rw [← hy10] at hr10 hcut10; clear hy10 hi010 hsz10 HO_0; have HO133 := aS hr10; clear hr10; replace q10 := eq_true q10
        go_wp2
        go_ret
        exact ⟨_, by first | rfl | (simp [errW_none, errW_some] <;> rfl) | (simp only [← hji4]; first | rfl | (simp [errW_none, errW_some] <;> rfl)) | (simp [*, errW_none, errW_some] <;> rfl), by refine aR ?_; exact HO133.out, bz, by repeat (first | (with_reducible first | exact HK.out | apply Kept.alloc | apply Kept.drewN | apply Kept.drew) | exact HK.out)⟩
       rw [if_neg c9] at H
       exact absurd H (by simp)
      rw [if_neg c8] at H
      exact absurd H (by simp)
     rw [if_neg c6] at H
     exact absurd H (by simp)
    rw [if_neg c5] at H
    exact absurd H (by simp)
   rw [if_neg c3] at H; have c3b0 : decide (0 < x3_1) = false := decide_eq_false c3; clear c3
   by_cases c11 : 0 ≤ x3_1
   ·rw [if_pos c11] at H; have c11b0 := eq_true c11; have c11b1 : decide (0 ≤ x3_1) = true := decide_eq_true c11; clear c11
    by_cases c12 : x3_1 ≤ (l0.length : Int)
    ·rw [if_pos c12] at H; have c12b0 := eq_true c12; have c12b1 : decide (x3_1 ≤ (l0.length : Int)) = true := decide_eq_true c12; clear c12; obtain ⟨y134, hy134⟩ : ∃ y_ : List Int, y_ = (l0.take (x3_1 : Int).toNat) := ⟨_, rfl⟩; replace H : (some y134) = some r := by first | (rw [hy134]; with_reducible exact H) | (have H2_ := (Option.bind_some _ _).symm.trans H; rw [hy134]; with_reducible exact H2_) | (have H2_ := (Option.bind_some _ _).symm.trans H; with_reducible exact H2_) | with_reducible exact H | (rw [hy134]; exact H) | exact H
     have Ny134 := aS hy134; clear hy134; obtain rfl := Option.some.inj H; have q13 : (x3_1 : Int) ≤ ((l0.length : Int) : Int) := od; obtain ⟨i013, hi013, _, hsz13, _⟩ := info_parts info3; have hcut13 := cut_to (P := Tryz.prog) 77 3 .i64 Tryz.underlying77 hi013 Ao2 l0.length co2 x3_1 (od) q13 (Kd.R_reads' HO_0.out).2.1; have hr13 := Kd.R_take (m := (x3_1 : Int).toNat) HO_0.out (by omega); have hy13 : y134.length = (x3_1 : Int).toNat := (by rw [Ny134.out, List.length_take]; omega); rw [← Ny134.out] at hr13; rw [← hy13] at hr13 hcut13; clear hy13 hi013 hsz13 HO_0; have HO136 := aS hr13; clear hr13; replace q13 := eq_true q13
     go_wp2
     go_ret
     exact ⟨_, ez, by refine aR ?_; exact HO136.out, bz, by repeat (first | (with_reducible first | exact HK.out | apply Kept.alloc | apply Kept.drewN | apply Kept.drew) | exact HK.out)⟩
    rw [if_neg c12] at H
    exact absurd H (by simp)
   rw [if_neg c11] at H
   exact absurd H (by simp)
mutual
def dioramaref02_Times.l0 : Nat → List Int → List Int → List Int → Int → Option (List Int)
  | 0, _, _, _, _ => none
  | k + 1, x0, x1, x5, x6 => if x6 < (x0.length : Int) then (dioramaref02_Times.l1 k x0 x1 x5 x6 0 0) else ((dioramaref02_trimmed.f k x5).bind fun t140 => (some t140))
def dioramaref02_Times.l1 : Nat → List Int → List Int → List Int → Int → Int → Int → Option (List Int)
  | 0, _, _, _, _, _, _ => none
  | k + 1, x0, x1, x5, x6, x7, x8 => if x8 < (x1.length : Int) then (if 0 ≤ (wrap64 (x6 + x8)) then (if (wrap64 (x6 + x8)) < (x5.length : Int) then (if 0 ≤ x6 then (if x6 < (x0.length : Int) then ((dioramaref02_digit.f x1 x8).bind fun t145 => (dioramaref02_Times.l1 k x0 x1 (x5.set ((wrap64 (x6 + x8)) : Int).toNat (Int.tmod (wrap64 ((wrap64 ((rd x5 (wrap64 (x6 + x8))) + (wrap64 ((rd x0 x6) * t145)))) + x7)) 1000000000)) x6 (wrap64 (Int.tdiv (wrap64 ((wrap64 ((rd x5 (wrap64 (x6 + x8))) + (wrap64 ((rd x0 x6) * t145)))) + x7)) 1000000000)) (wrap64 (x8 + 1)))) else (none)) else (none)) else (none)) else (none)) else (if x7 > 0 then (if 0 ≤ (wrap64 (x6 + x8)) then (if (wrap64 (x6 + x8)) < (x5.length : Int) then (if 0 ≤ x6 then (if x6 < (x0.length : Int) then ((dioramaref02_digit.f x1 x8).bind fun t149 => (dioramaref02_Times.l1 k x0 x1 (x5.set ((wrap64 (x6 + x8)) : Int).toNat (Int.tmod (wrap64 ((wrap64 ((rd x5 (wrap64 (x6 + x8))) + (wrap64 ((rd x0 x6) * t149)))) + x7)) 1000000000)) x6 (wrap64 (Int.tdiv (wrap64 ((wrap64 ((rd x5 (wrap64 (x6 + x8))) + (wrap64 ((rd x0 x6) * t149)))) + x7)) 1000000000)) (wrap64 (x8 + 1)))) else (none)) else (none)) else (none)) else (none)) else (dioramaref02_Times.l0 k x0 x1 x5 (wrap64 (x6 + 1))))
end
def dioramaref02_Times.f (k : Nat) (l0 : List Int) (l1 : List Int) : Option (List Int) := if 0 ≤ (wrap64 ((l0.length : Int) + (l1.length : Int))) then (if (wrap64 ((l0.length : Int) + (l1.length : Int)) : Int).toNat ≤ 35184372088832 then (dioramaref02_Times.l0 k l0 l1 (List.replicate (wrap64 ((l0.length : Int) + (l1.length : Int)) : Int).toNat 0) 0) else (none)) else (none)
theorem dioramaref02_Times.calls (k : Nat) (A0 : Option Addr) (c0 : Nat) (l0 : List Int) (A1 : Option Addr) (c1 : Nat) (l1 : List Int) (r : List Int) (w : World) (hr0 : Kd.C (Kd.int .i64) w A0 l0.length l0) (hc0 : l0.length ≤ c0) (hr1 : Kd.C (Kd.int .i64) w A1 l1.length l1) (hc1 : l1.length ≤ c1) (h : dioramaref02_Times.f k l0 l1 = some r) :
  Calls Tryz.prog 122 #[.slice A0 l0.length c0, .slice A1 l1.length c1] w fun e w' => ∃ v0_ : Value, e = .returned (v0_) ∧ Kd.R (Kd.int .i64) 3 w' w.heap.size (fun _ => True) v0_ r ∧ Below w.heap.size w w' := by
 have HR0 := aS hr0; have HC0 := aS hc0; clear hr0 hc0; have HR1 := aS hr1; have HC1 := aS hc1; clear hr1 hc1; have HB := aS (Below.refl w.heap.size w); have H : (if 0 ≤ (wrap64 ((l0.length : Int) + (l1.length : Int))) then (if (wrap64 ((l0.length : Int) + (l1.length : Int)) : Int).toNat ≤ 35184372088832 then (dioramaref02_Times.l0 k l0 l1 (List.replicate (wrap64 ((l0.length : Int) + (l1.length : Int)) : Int).toNat 0) 0) else (none)) else (none)) = some r := h; clear h; obtain ⟨ji3, hji3⟩ : ∃ j_ : Int, (wrap64 ((l0.length : Int) + (l1.length : Int))) = j_ := ⟨_, rfl⟩; replace H : (if 0 ≤ (ji3) then (if (ji3 : Int).toNat ≤ 35184372088832 then (dioramaref02_Times.l0 k l0 l1 (List.replicate (ji3 : Int).toNat 0) 0) else (none)) else (none)) = some r := by first | (rw [hji3] at H; exact H) | (simp only [hji3] at H ⊢; exact H)
 have hji3w : (IntKind.i64.wrap ((l0.length : Int) + (l1.length : Int))) = ji3 := (i64_w _).trans hji3
 by_cases c4 : 0 ≤ (ji3)
 ·rw [if_pos c4] at H; have c4b0 := eq_true c4; have c4b1 : decide (0 ≤ (ji3)) = true := decide_eq_true c4; clear c4
  by_cases c5 : (ji3 : Int).toNat ≤ 35184372088832
  ·rw [if_pos c5] at H; have c5b0 := eq_true c5; have c5b1 : decide ((ji3 : Int).toNat ≤ 35184372088832) = true := decide_eq_true c5; clear c5; obtain ⟨y137, hy137⟩ : ∃ y_ : List Int, y_ = (List.replicate (ji3 : Int).toNat 0) := ⟨_, rfl⟩; replace H : (dioramaref02_Times.l0 k l0 l1 y137 0) = some r := by first | (rw [hy137]; with_reducible exact H) | (have H2_ := (Option.bind_some _ _).symm.trans H; rw [hy137]; with_reducible exact H2_) | (have H2_ := (Option.bind_some _ _).symm.trans H; with_reducible exact H2_) | with_reducible exact H | (rw [hy137]; exact H) | exact H
   have Ny137 := aS hy137; clear hy137; have H' := aS H; clear H
   go_enter Tryz.func122, Tryz.ntmps122
   go_wp2_with (first | ((with_reducible refine gate_dst (N := 15) rfl ?_); refine Kd.R_make (Kd.int .i64) _ 3 rfl (N := 15) rfl 77 _ _ rfl ji3 rfl rfl Tryz.underlying77 (.int .i64 0) 8 info3 rfl (by decide) (by omega) 0 (ok := fun _ => True) (okp := fun _ => True) rfl (fun _ hk => hk) trivial (od) (Nat.le_trans (Nat.mul_le_mul_right _ (od : ji3.toNat ≤ 35184372088832)) (by omega)) (Below.refl _ _) (Nat.le_refl _) ?_; intro v138 w6 ho7 hb hg_ hnew_; clear hg_ hnew_; (first | rw [← Ny137.out] at ho7 | (simp only [Int.reduceToNat] at ho7; rw [← Ny137.out] at ho7)); have HO139 := aS (Kd.R_lower ho7 sz); replace HB := bp hb; clear hb ho7))
   repeat (go_quiet (first | ((with_reducible refine gate_dst (N := 15) rfl ?_); refine Kd.R_make (Kd.int .i64) _ 3 rfl (N := 15) rfl 77 _ _ rfl ji3 rfl rfl Tryz.underlying77 (.int .i64 0) 8 info3 rfl (by decide) (by omega) 0 (ok := fun _ => True) (okp := fun _ => True) rfl (fun _ hk => hk) trivial (od) (Nat.le_trans (Nat.mul_le_mul_right _ (od : ji3.toNat ≤ 35184372088832)) (by omega)) (Below.refl _ _) (Nat.le_refl _) ?_; intro v138 w6 ho7 hb hg_ hnew_; clear hg_ hnew_; (first | rw [← Ny137.out] at ho7 | (simp only [Int.reduceToNat] at ho7; rw [← Ny137.out] at ho7)); have n0_ := aS (Kd.R_lower ho7 sz); have n1_ := bp hb; clear HB; have HO139 := n0_; have HB := n1_; clear n0_ n1_; clear hb ho7)); try go_wp2_with (first | ((with_reducible refine gate_dst (N := 15) rfl ?_); refine Kd.R_make (Kd.int .i64) _ 3 rfl (N := 15) rfl 77 _ _ rfl ji3 rfl rfl Tryz.underlying77 (.int .i64 0) 8 info3 rfl (by decide) (by omega) 0 (ok := fun _ => True) (okp := fun _ => True) rfl (fun _ hk => hk) trivial (od) (Nat.le_trans (Nat.mul_le_mul_right _ (od : ji3.toNat ≤ 35184372088832)) (by omega)) (Below.refl _ _) (Nat.le_refl _) ?_; intro v138 w6 ho7 hb hg_ hnew_; clear hg_ hnew_; (first | rw [← Ny137.out] at ho7 | (simp only [Int.reduceToNat] at ho7; rw [← Ny137.out] at ho7)); have HO139 := aS (Kd.R_lower ho7 sz); replace HB := bp hb; clear hb ho7)))
   go_loopg [6] k (fun kq v6 w' => ∃ (x5_1 : List Int) (x6_1 : Int), v6 = .int .i64 x6_1 ∧ Aside0 (dioramaref02_Times.l0 kq l0 l1 x5_1 x6_1 = some r) ∧ Aside0 (kq ≤ k) ∧ Aside0 (Kd.R (Kd.int .i64) 3 w' w.heap.size (fun _ => True) v138 x5_1) ∧ Aside0 (Below w.heap.size w w'))
   case atStart => exact ⟨(y137), (0), jz, H', ⟨Nat.le_refl _⟩, ⟨rz HO139⟩, ⟨bz⟩⟩
   case round =>
    clear H'
    try clear c1
    try clear p2
    try clear c4
    try clear c4b0
    try clear c4b1
    try clear c5
    try clear c5b0
    try clear c5b1
    try clear p6
    obtain ⟨x5_1, x6_1, rfl, HA, HK1, HO_5, HB⟩ := hrel
    cases gk with
    | zero => exact absurd HA.out (by simp [dioramaref02_Times.l0])
    | succ k1 =>
     have H := HA.out; clear HA; simp only [dioramaref02_Times.l0] at H
     by_cases c8 : x6_1 < (l0.length : Int)
     ·rw [if_pos c8] at H; have c8b0 : decide (x6_1 < (l0.length : Int)) = true := decide_eq_true c8; clear c8; have H' := aS H; clear H
      go_wp2
      repeat (go_quiet (fail); try go_wp2)
      go_loopg [7, 8] k1 (fun kq v7 v8 w' => ∃ (x5_2 : List Int) (x7_2 : Int) (x8_2 : Int), v7 = .int .i64 x7_2 ∧ v8 = .int .i64 x8_2 ∧ Aside0 (dioramaref02_Times.l1 kq l0 l1 x5_2 x6_1 x7_2 x8_2 = some r) ∧ Aside0 (kq ≤ k1) ∧ Aside0 (Kd.R (Kd.int .i64) 3 w' w.heap.size (fun _ => True) v138 x5_2) ∧ Aside0 (Below w.heap.size w w'))
      case atStart => exact ⟨(x5_1), (0), (0), jz, jz, H', ⟨Nat.le_refl _⟩, ⟨rz HO_5⟩, ⟨bz⟩⟩
      case round =>
       clear H'
       try clear c1
       try clear p2
       try clear c4
       try clear c4b0
       try clear c4b1
       try clear c5
       try clear c5b0
       try clear c5b1
       try clear p6
       try clear c8
       try clear c8b0
       try clear p2
       try clear p6
       obtain ⟨x5_2, x7_2, x8_2, rfl, rfl, HA, HK2, HO_5, HB⟩ := hrel
       cases gk with
       | zero => exact absurd HA.out (by simp [dioramaref02_Times.l1])
       | succ k2 =>
        have H := HA.out; clear HA; simp only [dioramaref02_Times.l1] at H
        by_cases c9 : x8_2 < (l1.length : Int)
        ·rw [if_pos c9] at H; have c9b0 : decide (x8_2 < (l1.length : Int)) = true := decide_eq_true c9; clear c9; obtain ⟨ji10, hji10⟩ : ∃ j_ : Int, (wrap64 (x6_1 + x8_2)) = j_ := ⟨_, rfl⟩; replace H : (if 0 ≤ (ji10) then (if (ji10) < (x5_2.length : Int) then (if 0 ≤ x6_1 then (if x6_1 < (l0.length : Int) then ((dioramaref02_digit.f l1 x8_2).bind fun t145 => (dioramaref02_Times.l1 k2 l0 l1 (x5_2.set ((ji10) : Int).toNat (Int.tmod (wrap64 ((wrap64 ((rd x5_2 (ji10)) + (wrap64 ((rd l0 x6_1) * t145)))) + x7_2)) 1000000000)) x6_1 (wrap64 (Int.tdiv (wrap64 ((wrap64 ((rd x5_2 (ji10)) + (wrap64 ((rd l0 x6_1) * t145)))) + x7_2)) 1000000000)) (wrap64 (x8_2 + 1)))) else (none)) else (none)) else (none)) else (none)) = some r := by first | (rw [hji10] at H; exact H) | (simp only [hji10] at H ⊢; exact H)
         have hji10w : (IntKind.i64.wrap (x6_1 + x8_2)) = ji10 := (i64_w _).trans hji10
         by_cases c11 : 0 ≤ (ji10)
         ·rw [if_pos c11] at H; have c11b0 : decide (0 ≤ (ji10)) = true := decide_eq_true c11; clear c11
          by_cases c12 : (ji10) < (x5_2.length : Int)
          ·rw [if_pos c12] at H; have c12b0 : decide ((ji10) < (x5_2.length : Int)) = true := decide_eq_true c12; clear c12
           by_cases c13 : 0 ≤ x6_1
           ·rw [if_pos c13] at H; have c13b0 : decide (0 ≤ x6_1) = true := decide_eq_true c13; clear c13
            by_cases c14 : x6_1 < (l0.length : Int)
            ·rw [if_pos c14] at H; have c14b0 : decide (x6_1 < (l0.length : Int)) = true := decide_eq_true c14; clear c14; obtain ⟨t145, A15, H⟩ := ob H; obtain ⟨y146, hy146⟩ : ∃ y_ : List Int, y_ = (x5_2.set ((ji10) : Int).toNat (Int.tmod (wrap64 ((wrap64 ((rd x5_2 (ji10)) + (wrap64 ((rd l0 x6_1) * t145)))) + x7_2)) 1000000000)) := ⟨_, rfl⟩; replace H : (dioramaref02_Times.l1 k2 l0 l1 y146 x6_1 (wrap64 (Int.tdiv (wrap64 ((wrap64 ((rd x5_2 (ji10)) + (wrap64 ((rd l0 x6_1) * t145)))) + x7_2)) 1000000000)) (wrap64 (x8_2 + 1))) = some r := by first | (rw [hy146]; with_reducible exact H) | (have H2_ := (Option.bind_some _ _).symm.trans H; rw [hy146]; with_reducible exact H2_) | (have H2_ := (Option.bind_some _ _).symm.trans H; with_reducible exact H2_) | with_reducible exact H | (rw [hy146]; exact H) | exact H
             have Ny146 := aS hy146; clear hy146; have H' := aS H; clear H; obtain ⟨Ao17, co17, eo17⟩ := Kd.R_slice HO_5.out; subst eo17; have p143 : 0 ≤ ((ji10) : Int) := od; have q143 : (ji10) < (x5_2.length : Int) := od; obtain ⟨ad143, e143, hx143_0⟩ := Kd.at_int (Kd.R_reads' HO_5.out).2.2 (ji10) p143 q143
             cases e143
             replace p143 := eq_true p143; replace q143 := eq_true q143; have p144 : 0 ≤ (x6_1 : Int) := od; have q144 : x6_1 < (l0.length : Int) := od; obtain ⟨ad144, e144, hx144_0⟩ := Kd.at_int HR0.out x6_1 p144 q144
             cases e144
             replace hx144_0 := cl HB hx144_0; replace p144 := eq_true p144; replace q144 := eq_true q144
             go_wp2_with (first | (go_at_call 151; (with_reducible refine (dioramaref02_digit.calls _ _ l1 x8_2 t145 _ ?side1 ?side2 A15.out).mono ?_); (case side1 => exact cz HR1); (case side2 => exact HC1.out); rintro e w' ⟨rfl, ⟨nd, rfl⟩⟩; (try first | exact ⟨rfl, _, World.drewN_drewN _ _ _⟩ | exact ⟨rfl, _, Eq.trans (World.drewN_drewN _ _ _) (congrArg (World.drewN _) (Nat.add_assoc _ _ _))⟩); have p16 : 0 ≤ ((ji10) : Int) := od; have q16 : ((ji10) : Int) < ((x5_2.length : Int) : Int) := od; obtain ⟨go16, co16, eo16, gb16, gl16, cl16, HG16⟩ := Kd.R_form HO_5.out (by omega); (first | cases eo16 | (injection eo16 with ea_ en_ ec_; (first | subst ea_ | (injection ea_ with ea_; subst ea_)); subst ec_; clear en_)); have GB16 := aS gb16; have GG16 := aS HG16; clear gb16 gl16 HG16; (first | simp only [add_plain] at hx143_0 | skip); obtain ⟨hx16_0, hf16_0⟩ := Kd.R_celln 0 HO_5.out ((ji10) : Int) p16 q16; replace p16 := eq_true p16; replace q16 := eq_true q16; obtain ⟨hy18_, hz18_⟩ := Kd.R_celln 0 HO_5.out ((ji10) : Int) (od) (od); have HP18 := Kd.R_putg HO_5.out ((ji10) : Int) (Int.tmod (wrap64 ((wrap64 ((rd x5_2 (ji10)) + (wrap64 ((rd l0 x6_1) * t145)))) + x7_2)) 1000000000)) | ((with_reducible refine gate_store (t := 3) (p := 55) rfl ?_); (try (rw [drewN_self wr]; generalize hq_ : World.drewN wr _ = wr; have n0_ := aS (Kd.R_at hq_ HO_5.out); have n1_ := aS (below_at hq_ HB.out); clear hq_ HO_5 HB; have HO_5 := n0_; have HB := n1_; clear n0_ n1_; (try (obtain ⟨hy18_, hz18_⟩ := Kd.R_celln 0 HO_5.out ((ji10) : Int) (od) (od))); (try (have HP18 := Kd.R_putg HO_5.out ((ji10) : Int) (Int.tmod (wrap64 ((wrap64 ((rd x5_2 (ji10)) + (wrap64 ((rd l0 x6_1) * t145)))) + x7_2)) 1000000000))))); refine store_event (t := 3) (p := 55) (v := ?vo_w19) (w1 := (wr.setCell ⟨go16, ((ji10) : Int).toNat, none⟩ (.int .i64 (Int.tmod (wrap64 ((wrap64 ((rd x5_2 (ji10)) + (wrap64 ((rd l0 x6_1) * t145)))) + x7_2)) 1000000000)))) ?hg ?ho ?hn ?hr ?_; (case ho => rfl); (case hg => rfl); (case hn => rfl); (case hr => first | (go_simp; done) | (go_simp; rfl)); intro w19 hw; have hg : wr.grownBy w19 (some go16) := (by rw [hw]; exact HP18.2); have hp_ : Kd.R (Kd.int .i64) 3 w19 w.heap.size (fun _ => True) (.slice (some ⟨go16, 0, none⟩) x5_2.length co17) y146 := (by rw [hw, Ny146.out]; exact HP18.1); clear HP18; replace HO_5 := aS (hp_); replace HB := aS ((by rw [hw]; exact below_set (HB.out) GB16.out : Below w.heap.size w w19)); clear hg hw hp_))
             repeat (go_quiet (first | (go_at_call 151; (with_reducible refine (dioramaref02_digit.calls _ _ l1 x8_2 t145 _ ?side1 ?side2 A15.out).mono ?_); (case side1 => exact cz HR1); (case side2 => exact HC1.out); rintro e w' ⟨rfl, ⟨nd, rfl⟩⟩; (try first | exact ⟨rfl, _, World.drewN_drewN _ _ _⟩ | exact ⟨rfl, _, Eq.trans (World.drewN_drewN _ _ _) (congrArg (World.drewN _) (Nat.add_assoc _ _ _))⟩); have p16 : 0 ≤ ((ji10) : Int) := od; have q16 : ((ji10) : Int) < ((x5_2.length : Int) : Int) := od; obtain ⟨go16, co16, eo16, gb16, gl16, cl16, HG16⟩ := Kd.R_form HO_5.out (by omega); (first | cases eo16 | (injection eo16 with ea_ en_ ec_; (first | subst ea_ | (injection ea_ with ea_; subst ea_)); subst ec_; clear en_)); have GB16 := aS gb16; have GG16 := aS HG16; clear gb16 gl16 HG16; (first | simp only [add_plain] at hx143_0 | skip); obtain ⟨hx16_0, hf16_0⟩ := Kd.R_celln 0 HO_5.out ((ji10) : Int) p16 q16; replace p16 := eq_true p16; replace q16 := eq_true q16; obtain ⟨hy18_, hz18_⟩ := Kd.R_celln 0 HO_5.out ((ji10) : Int) (od) (od); have HP18 := Kd.R_putg HO_5.out ((ji10) : Int) (Int.tmod (wrap64 ((wrap64 ((rd x5_2 (ji10)) + (wrap64 ((rd l0 x6_1) * t145)))) + x7_2)) 1000000000)) | ((with_reducible refine gate_store (t := 3) (p := 55) rfl ?_); (try (rw [drewN_self wr]; generalize hq_ : World.drewN wr _ = wr; have n0_ := aS (Kd.R_at hq_ HO_5.out); have n1_ := aS (below_at hq_ HB.out); clear hq_ HO_5 HB; have HO_5 := n0_; have HB := n1_; clear n0_ n1_; (try (obtain ⟨hy18_, hz18_⟩ := Kd.R_celln 0 HO_5.out ((ji10) : Int) (od) (od))); (try (have HP18 := Kd.R_putg HO_5.out ((ji10) : Int) (Int.tmod (wrap64 ((wrap64 ((rd x5_2 (ji10)) + (wrap64 ((rd l0 x6_1) * t145)))) + x7_2)) 1000000000))))); refine store_event (t := 3) (p := 55) (v := ?vo_w19) (w1 := (wr.setCell ⟨go16, ((ji10) : Int).toNat, none⟩ (.int .i64 (Int.tmod (wrap64 ((wrap64 ((rd x5_2 (ji10)) + (wrap64 ((rd l0 x6_1) * t145)))) + x7_2)) 1000000000)))) ?hg ?ho ?hn ?hr ?_; (case ho => rfl); (case hg => rfl); (case hn => rfl); (case hr => first | (go_simp; done) | (go_simp; rfl)); intro w19 hw; have hg : wr.grownBy w19 (some go16) := (by rw [hw]; exact HP18.2); have hp_ : Kd.R (Kd.int .i64) 3 w19 w.heap.size (fun _ => True) (.slice (some ⟨go16, 0, none⟩) x5_2.length co17) y146 := (by rw [hw, Ny146.out]; exact HP18.1); clear HP18; have n0_ := aS (hp_); have n1_ := aS ((by rw [hw]; exact below_set (HB.out) GB16.out : Below w.heap.size w w19)); clear HO_5; clear HB; have HO_5 := n0_; have HB := n1_; clear n0_ n1_; clear hg hw hp_)); try go_wp2_with (first | (go_at_call 151; (with_reducible refine (dioramaref02_digit.calls _ _ l1 x8_2 t145 _ ?side1 ?side2 A15.out).mono ?_); (case side1 => exact cz HR1); (case side2 => exact HC1.out); rintro e w' ⟨rfl, ⟨nd, rfl⟩⟩; (try first | exact ⟨rfl, _, World.drewN_drewN _ _ _⟩ | exact ⟨rfl, _, Eq.trans (World.drewN_drewN _ _ _) (congrArg (World.drewN _) (Nat.add_assoc _ _ _))⟩); have p16 : 0 ≤ ((ji10) : Int) := od; have q16 : ((ji10) : Int) < ((x5_2.length : Int) : Int) := od; obtain ⟨go16, co16, eo16, gb16, gl16, cl16, HG16⟩ := Kd.R_form HO_5.out (by omega); (first | cases eo16 | (injection eo16 with ea_ en_ ec_; (first | subst ea_ | (injection ea_ with ea_; subst ea_)); subst ec_; clear en_)); have GB16 := aS gb16; have GG16 := aS HG16; clear gb16 gl16 HG16; (first | simp only [add_plain] at hx143_0 | skip); obtain ⟨hx16_0, hf16_0⟩ := Kd.R_celln 0 HO_5.out ((ji10) : Int) p16 q16; replace p16 := eq_true p16; replace q16 := eq_true q16; obtain ⟨hy18_, hz18_⟩ := Kd.R_celln 0 HO_5.out ((ji10) : Int) (od) (od); have HP18 := Kd.R_putg HO_5.out ((ji10) : Int) (Int.tmod (wrap64 ((wrap64 ((rd x5_2 (ji10)) + (wrap64 ((rd l0 x6_1) * t145)))) + x7_2)) 1000000000)) | ((with_reducible refine gate_store (t := 3) (p := 55) rfl ?_); (try (rw [drewN_self wr]; generalize hq_ : World.drewN wr _ = wr; have n0_ := aS (Kd.R_at hq_ HO_5.out); have n1_ := aS (below_at hq_ HB.out); clear hq_ HO_5 HB; have HO_5 := n0_; have HB := n1_; clear n0_ n1_; (try (obtain ⟨hy18_, hz18_⟩ := Kd.R_celln 0 HO_5.out ((ji10) : Int) (od) (od))); (try (have HP18 := Kd.R_putg HO_5.out ((ji10) : Int) (Int.tmod (wrap64 ((wrap64 ((rd x5_2 (ji10)) + (wrap64 ((rd l0 x6_1) * t145)))) + x7_2)) 1000000000))))); refine store_event (t := 3) (p := 55) (v := ?vo_w19) (w1 := (wr.setCell ⟨go16, ((ji10) : Int).toNat, none⟩ (.int .i64 (Int.tmod (wrap64 ((wrap64 ((rd x5_2 (ji10)) + (wrap64 ((rd l0 x6_1) * t145)))) + x7_2)) 1000000000)))) ?hg ?ho ?hn ?hr ?_; (case ho => rfl); (case hg => rfl); (case hn => rfl); (case hr => first | (go_simp; done) | (go_simp; rfl)); intro w19 hw; have hg : wr.grownBy w19 (some go16) := (by rw [hw]; exact HP18.2); have hp_ : Kd.R (Kd.int .i64) 3 w19 w.heap.size (fun _ => True) (.slice (some ⟨go16, 0, none⟩) x5_2.length co17) y146 := (by rw [hw, Ny146.out]; exact HP18.1); clear HP18; replace HO_5 := aS (hp_); replace HB := aS ((by rw [hw]; exact below_set (HB.out) GB16.out : Below w.heap.size w w19)); clear hg hw hp_)))
             go_roundg k2
             case measure => have := HK1.out; have := HK2.out; omega
             case rel => exact ⟨(y146), (wrap64 (Int.tdiv (wrap64 ((wrap64 ((rd x5_2 (ji10)) + (wrap64 ((rd l0 x6_1) * t145)))) + x7_2)) 1000000000)), (wrap64 (x8_2 + 1)), (by first | rfl | (simp; done) | (simp only [← hji10] <;> (first | rfl | simp)) | (simp [*]; done)), jz, H', ⟨by have := HK1.out; have := HK2.out; omega⟩, ⟨rz HO_5⟩, ⟨bz⟩⟩
            rw [if_neg c14] at H
            exact absurd H (by simp)
           rw [if_neg c13] at H
           exact absurd H (by simp)
          rw [if_neg c12] at H
          exact absurd H (by simp)
         rw [if_neg c11] at H
         exact absurd H (by simp)
        rw [if_neg c9] at H; have c9b0 : decide (x8_2 < (l1.length : Int)) = false := decide_eq_false c9; clear c9
        by_cases c20 : x7_2 > 0
        ·rw [if_pos c20] at H; have c20b0 : decide (0 < x7_2) = true := decide_eq_true c20; clear c20; obtain ⟨ji21, hji21⟩ : ∃ j_ : Int, (wrap64 (x6_1 + x8_2)) = j_ := ⟨_, rfl⟩; replace H : (if 0 ≤ (ji21) then (if (ji21) < (x5_2.length : Int) then (if 0 ≤ x6_1 then (if x6_1 < (l0.length : Int) then ((dioramaref02_digit.f l1 x8_2).bind fun t149 => (dioramaref02_Times.l1 k2 l0 l1 (x5_2.set ((ji21) : Int).toNat (Int.tmod (wrap64 ((wrap64 ((rd x5_2 (ji21)) + (wrap64 ((rd l0 x6_1) * t149)))) + x7_2)) 1000000000)) x6_1 (wrap64 (Int.tdiv (wrap64 ((wrap64 ((rd x5_2 (ji21)) + (wrap64 ((rd l0 x6_1) * t149)))) + x7_2)) 1000000000)) (wrap64 (x8_2 + 1)))) else (none)) else (none)) else (none)) else (none)) = some r := by first | (rw [hji21] at H; exact H) | (simp only [hji21] at H ⊢; exact H)
         have hji21w : (IntKind.i64.wrap (x6_1 + x8_2)) = ji21 := (i64_w _).trans hji21
         by_cases c22 : 0 ≤ (ji21)
         ·rw [if_pos c22] at H; have c22b0 : decide (0 ≤ (ji21)) = true := decide_eq_true c22; clear c22
          by_cases c23 : (ji21) < (x5_2.length : Int)
          ·rw [if_pos c23] at H; have c23b0 : decide ((ji21) < (x5_2.length : Int)) = true := decide_eq_true c23; clear c23
           by_cases c24 : 0 ≤ x6_1
           ·rw [if_pos c24] at H; have c24b0 : decide (0 ≤ x6_1) = true := decide_eq_true c24; clear c24
            by_cases c25 : x6_1 < (l0.length : Int)
            ·rw [if_pos c25] at H; have c25b0 : decide (x6_1 < (l0.length : Int)) = true := decide_eq_true c25; clear c25; obtain ⟨t149, A26, H⟩ := ob H; obtain ⟨y150, hy150⟩ : ∃ y_ : List Int, y_ = (x5_2.set ((ji21) : Int).toNat (Int.tmod (wrap64 ((wrap64 ((rd x5_2 (ji21)) + (wrap64 ((rd l0 x6_1) * t149)))) + x7_2)) 1000000000)) := ⟨_, rfl⟩; replace H : (dioramaref02_Times.l1 k2 l0 l1 y150 x6_1 (wrap64 (Int.tdiv (wrap64 ((wrap64 ((rd x5_2 (ji21)) + (wrap64 ((rd l0 x6_1) * t149)))) + x7_2)) 1000000000)) (wrap64 (x8_2 + 1))) = some r := by first | (rw [hy150]; with_reducible exact H) | (have H2_ := (Option.bind_some _ _).symm.trans H; rw [hy150]; with_reducible exact H2_) | (have H2_ := (Option.bind_some _ _).symm.trans H; with_reducible exact H2_) | with_reducible exact H | (rw [hy150]; exact H) | exact H
             have Ny150 := aS hy150; clear hy150; have H' := aS H; clear H; obtain ⟨Ao28, co28, eo28⟩ := Kd.R_slice HO_5.out; subst eo28; have p147 : 0 ≤ ((ji21) : Int) := od; have q147 : (ji21) < (x5_2.length : Int) := od; obtain ⟨ad147, e147, hx147_0⟩ := Kd.at_int (Kd.R_reads' HO_5.out).2.2 (ji21) p147 q147
             cases e147
             replace p147 := eq_true p147; replace q147 := eq_true q147; have p148 : 0 ≤ (x6_1 : Int) := od; have q148 : x6_1 < (l0.length : Int) := od; obtain ⟨ad148, e148, hx148_0⟩ := Kd.at_int HR0.out x6_1 p148 q148
             cases e148
             replace hx148_0 := cl HB hx148_0; replace p148 := eq_true p148; replace q148 := eq_true q148
             go_wp2_with (first | (go_at_call 151; (with_reducible refine (dioramaref02_digit.calls _ _ l1 x8_2 t149 _ ?side1 ?side2 A26.out).mono ?_); (case side1 => exact cz HR1); (case side2 => exact HC1.out); rintro e w' ⟨rfl, ⟨nd, rfl⟩⟩; (try first | exact ⟨rfl, _, World.drewN_drewN _ _ _⟩ | exact ⟨rfl, _, Eq.trans (World.drewN_drewN _ _ _) (congrArg (World.drewN _) (Nat.add_assoc _ _ _))⟩); have p27 : 0 ≤ ((ji21) : Int) := od; have q27 : ((ji21) : Int) < ((x5_2.length : Int) : Int) := od; obtain ⟨go27, co27, eo27, gb27, gl27, cl27, HG27⟩ := Kd.R_form HO_5.out (by omega); (first | cases eo27 | (injection eo27 with ea_ en_ ec_; (first | subst ea_ | (injection ea_ with ea_; subst ea_)); subst ec_; clear en_)); have GB27 := aS gb27; have GG27 := aS HG27; clear gb27 gl27 HG27; (first | simp only [add_plain] at hx147_0 | skip); obtain ⟨hx27_0, hf27_0⟩ := Kd.R_celln 0 HO_5.out ((ji21) : Int) p27 q27; replace p27 := eq_true p27; replace q27 := eq_true q27; obtain ⟨hy29_, hz29_⟩ := Kd.R_celln 0 HO_5.out ((ji21) : Int) (od) (od); have HP29 := Kd.R_putg HO_5.out ((ji21) : Int) (Int.tmod (wrap64 ((wrap64 ((rd x5_2 (ji21)) + (wrap64 ((rd l0 x6_1) * t149)))) + x7_2)) 1000000000)) | ((with_reducible refine gate_store (t := 3) (p := 55) rfl ?_); (try (rw [drewN_self wr]; generalize hq_ : World.drewN wr _ = wr; have n0_ := aS (Kd.R_at hq_ HO_5.out); have n1_ := aS (below_at hq_ HB.out); clear hq_ HO_5 HB; have HO_5 := n0_; have HB := n1_; clear n0_ n1_; (try (obtain ⟨hy29_, hz29_⟩ := Kd.R_celln 0 HO_5.out ((ji21) : Int) (od) (od))); (try (have HP29 := Kd.R_putg HO_5.out ((ji21) : Int) (Int.tmod (wrap64 ((wrap64 ((rd x5_2 (ji21)) + (wrap64 ((rd l0 x6_1) * t149)))) + x7_2)) 1000000000))))); refine store_event (t := 3) (p := 55) (v := ?vo_w30) (w1 := (wr.setCell ⟨go27, ((ji21) : Int).toNat, none⟩ (.int .i64 (Int.tmod (wrap64 ((wrap64 ((rd x5_2 (ji21)) + (wrap64 ((rd l0 x6_1) * t149)))) + x7_2)) 1000000000)))) ?hg ?ho ?hn ?hr ?_; (case ho => rfl); (case hg => rfl); (case hn => rfl); (case hr => first | (go_simp; done) | (go_simp; rfl)); intro w30 hw; have hg : wr.grownBy w30 (some go27) := (by rw [hw]; exact HP29.2); have hp_ : Kd.R (Kd.int .i64) 3 w30 w.heap.size (fun _ => True) (.slice (some ⟨go27, 0, none⟩) x5_2.length co28) y150 := (by rw [hw, Ny150.out]; exact HP29.1); clear HP29; replace HO_5 := aS (hp_); replace HB := aS ((by rw [hw]; exact below_set (HB.out) GB27.out : Below w.heap.size w w30)); clear hg hw hp_))
             repeat (go_quiet (first | (go_at_call 151; (with_reducible refine (dioramaref02_digit.calls _ _ l1 x8_2 t149 _ ?side1 ?side2 A26.out).mono ?_); (case side1 => exact cz HR1); (case side2 => exact HC1.out); rintro e w' ⟨rfl, ⟨nd, rfl⟩⟩; (try first | exact ⟨rfl, _, World.drewN_drewN _ _ _⟩ | exact ⟨rfl, _, Eq.trans (World.drewN_drewN _ _ _) (congrArg (World.drewN _) (Nat.add_assoc _ _ _))⟩); have p27 : 0 ≤ ((ji21) : Int) := od; have q27 : ((ji21) : Int) < ((x5_2.length : Int) : Int) := od; obtain ⟨go27, co27, eo27, gb27, gl27, cl27, HG27⟩ := Kd.R_form HO_5.out (by omega); (first | cases eo27 | (injection eo27 with ea_ en_ ec_; (first | subst ea_ | (injection ea_ with ea_; subst ea_)); subst ec_; clear en_)); have GB27 := aS gb27; have GG27 := aS HG27; clear gb27 gl27 HG27; (first | simp only [add_plain] at hx147_0 | skip); obtain ⟨hx27_0, hf27_0⟩ := Kd.R_celln 0 HO_5.out ((ji21) : Int) p27 q27; replace p27 := eq_true p27; replace q27 := eq_true q27; obtain ⟨hy29_, hz29_⟩ := Kd.R_celln 0 HO_5.out ((ji21) : Int) (od) (od); have HP29 := Kd.R_putg HO_5.out ((ji21) : Int) (Int.tmod (wrap64 ((wrap64 ((rd x5_2 (ji21)) + (wrap64 ((rd l0 x6_1) * t149)))) + x7_2)) 1000000000)) | ((with_reducible refine gate_store (t := 3) (p := 55) rfl ?_); (try (rw [drewN_self wr]; generalize hq_ : World.drewN wr _ = wr; have n0_ := aS (Kd.R_at hq_ HO_5.out); have n1_ := aS (below_at hq_ HB.out); clear hq_ HO_5 HB; have HO_5 := n0_; have HB := n1_; clear n0_ n1_; (try (obtain ⟨hy29_, hz29_⟩ := Kd.R_celln 0 HO_5.out ((ji21) : Int) (od) (od))); (try (have HP29 := Kd.R_putg HO_5.out ((ji21) : Int) (Int.tmod (wrap64 ((wrap64 ((rd x5_2 (ji21)) + (wrap64 ((rd l0 x6_1) * t149)))) + x7_2)) 1000000000))))); refine store_event (t := 3) (p := 55) (v := ?vo_w30) (w1 := (wr.setCell ⟨go27, ((ji21) : Int).toNat, none⟩ (.int .i64 (Int.tmod (wrap64 ((wrap64 ((rd x5_2 (ji21)) + (wrap64 ((rd l0 x6_1) * t149)))) + x7_2)) 1000000000)))) ?hg ?ho ?hn ?hr ?_; (case ho => rfl); (case hg => rfl); (case hn => rfl); (case hr => first | (go_simp; done) | (go_simp; rfl)); intro w30 hw; have hg : wr.grownBy w30 (some go27) := (by rw [hw]; exact HP29.2); have hp_ : Kd.R (Kd.int .i64) 3 w30 w.heap.size (fun _ => True) (.slice (some ⟨go27, 0, none⟩) x5_2.length co28) y150 := (by rw [hw, Ny150.out]; exact HP29.1); clear HP29; have n0_ := aS (hp_); have n1_ := aS ((by rw [hw]; exact below_set (HB.out) GB27.out : Below w.heap.size w w30)); clear HO_5; clear HB; have HO_5 := n0_; have HB := n1_; clear n0_ n1_; clear hg hw hp_)); try go_wp2_with (first | (go_at_call 151; (with_reducible refine (dioramaref02_digit.calls _ _ l1 x8_2 t149 _ ?side1 ?side2 A26.out).mono ?_); (case side1 => exact cz HR1); (case side2 => exact HC1.out); rintro e w' ⟨rfl, ⟨nd, rfl⟩⟩; (try first | exact ⟨rfl, _, World.drewN_drewN _ _ _⟩ | exact ⟨rfl, _, Eq.trans (World.drewN_drewN _ _ _) (congrArg (World.drewN _) (Nat.add_assoc _ _ _))⟩); have p27 : 0 ≤ ((ji21) : Int) := od; have q27 : ((ji21) : Int) < ((x5_2.length : Int) : Int) := od; obtain ⟨go27, co27, eo27, gb27, gl27, cl27, HG27⟩ := Kd.R_form HO_5.out (by omega); (first | cases eo27 | (injection eo27 with ea_ en_ ec_; (first | subst ea_ | (injection ea_ with ea_; subst ea_)); subst ec_; clear en_)); have GB27 := aS gb27; have GG27 := aS HG27; clear gb27 gl27 HG27; (first | simp only [add_plain] at hx147_0 | skip); obtain ⟨hx27_0, hf27_0⟩ := Kd.R_celln 0 HO_5.out ((ji21) : Int) p27 q27; replace p27 := eq_true p27; replace q27 := eq_true q27; obtain ⟨hy29_, hz29_⟩ := Kd.R_celln 0 HO_5.out ((ji21) : Int) (od) (od); have HP29 := Kd.R_putg HO_5.out ((ji21) : Int) (Int.tmod (wrap64 ((wrap64 ((rd x5_2 (ji21)) + (wrap64 ((rd l0 x6_1) * t149)))) + x7_2)) 1000000000)) | ((with_reducible refine gate_store (t := 3) (p := 55) rfl ?_); (try (rw [drewN_self wr]; generalize hq_ : World.drewN wr _ = wr; have n0_ := aS (Kd.R_at hq_ HO_5.out); have n1_ := aS (below_at hq_ HB.out); clear hq_ HO_5 HB; have HO_5 := n0_; have HB := n1_; clear n0_ n1_; (try (obtain ⟨hy29_, hz29_⟩ := Kd.R_celln 0 HO_5.out ((ji21) : Int) (od) (od))); (try (have HP29 := Kd.R_putg HO_5.out ((ji21) : Int) (Int.tmod (wrap64 ((wrap64 ((rd x5_2 (ji21)) + (wrap64 ((rd l0 x6_1) * t149)))) + x7_2)) 1000000000))))); refine store_event (t := 3) (p := 55) (v := ?vo_w30) (w1 := (wr.setCell ⟨go27, ((ji21) : Int).toNat, none⟩ (.int .i64 (Int.tmod (wrap64 ((wrap64 ((rd x5_2 (ji21)) + (wrap64 ((rd l0 x6_1) * t149)))) + x7_2)) 1000000000)))) ?hg ?ho ?hn ?hr ?_; (case ho => rfl); (case hg => rfl); (case hn => rfl); (case hr => first | (go_simp; done) | (go_simp; rfl)); intro w30 hw; have hg : wr.grownBy w30 (some go27) := (by rw [hw]; exact HP29.2); have hp_ : Kd.R (Kd.int .i64) 3 w30 w.heap.size (fun _ => True) (.slice (some ⟨go27, 0, none⟩) x5_2.length co28) y150 := (by rw [hw, Ny150.out]; exact HP29.1); clear HP29; replace HO_5 := aS (hp_); replace HB := aS ((by rw [hw]; exact below_set (HB.out) GB27.out : Below w.heap.size w w30)); clear hg hw hp_)))
             go_roundg k2
             case measure => have := HK1.out; have := HK2.out; omega
             case rel => exact ⟨(y150), (wrap64 (Int.tdiv (wrap64 ((wrap64 ((rd x5_2 (ji21)) + (wrap64 ((rd l0 x6_1) * t149)))) + x7_2)) 1000000000)), (wrap64 (x8_2 + 1)), (by first | rfl | (simp; done) | (simp only [← hji21] <;> (first | rfl | simp)) | (simp [*]; done)), jz, H', ⟨by have := HK1.out; have := HK2.out; omega⟩, ⟨rz HO_5⟩, ⟨bz⟩⟩
            rw [if_neg c25] at H
            exact absurd H (by simp)
           rw [if_neg c24] at H
           exact absurd H (by simp)
          rw [if_neg c23] at H
          exact absurd H (by simp)
         rw [if_neg c22] at H
         exact absurd H (by simp)
        rw [if_neg c20] at H; have c20b0 : decide (0 < x7_2) = false := decide_eq_false c20; clear c20; have H' := aS H; clear H
        go_wp2
        repeat (go_quiet (fail); try go_wp2)
        go_roundg k2
        case measure => have := HK1.out; have := HK2.out; omega
        case rel => exact ⟨(x5_2), (wrap64 (x6_1 + 1)), jz, H', ⟨by have := HK1.out; have := HK2.out; omega⟩, ⟨rz HO_5⟩, ⟨bz⟩⟩
     rw [if_neg c8] at H; have c8b0 : decide (x6_1 < (l0.length : Int)) = false := decide_eq_false c8; clear c8; obtain ⟨t140, A31, H⟩ := ob H; obtain rfl := Option.some.inj H; obtain ⟨Ao32, co32, eo32⟩ := Kd.R_slice HO_5.out; subst eo32
     go_wp2_with (first | (go_at_call 152; (with_reducible refine (dioramaref02_trimmed.calls k1 (fun k_ => some k_ = (.slice Ao32 x5_1.length co32 : Value).ownBlock) (.slice Ao32 x5_1.length co32) x5_1 t140 w _ ?side1 ?side2 A31.out).mono ?_); (case side1 => repeat (first | (with_reducible first | exact HB.out | apply below_alloc | apply pw_below_drewN | apply below_drew1) | exact HB.out)); (case side2 => exact Kd.R_tight rfl HO_5.out); rintro e w33 ⟨v141, rfl, ho0, hb, hkp⟩; have HO142 := aS (Kd.R_mono (ok' := fun k_ => True) ho0 (fun k_ hk_ => trivial)); replace HB := aS (hb); clear HO_5; clear hb hkp ho0))
     repeat (go_quiet (first | (go_at_call 152; (with_reducible refine (dioramaref02_trimmed.calls k1 (fun k_ => some k_ = (.slice Ao32 x5_1.length co32 : Value).ownBlock) (.slice Ao32 x5_1.length co32) x5_1 t140 w _ ?side1 ?side2 A31.out).mono ?_); (case side1 => repeat (first | (with_reducible first | exact HB.out | apply below_alloc | apply pw_below_drewN | apply below_drew1) | exact HB.out)); (case side2 => exact Kd.R_tight rfl HO_5.out); rintro e w33 ⟨v141, rfl, ho0, hb, hkp⟩; have n0_ := aS (Kd.R_mono (ok' := fun k_ => True) ho0 (fun k_ hk_ => trivial)); have n1_ := aS (hb); clear HB; clear HO_5; have HO142 := n0_; have HB := n1_; clear n0_ n1_; (try clear hb); (try clear hkp); (try clear ho0))); try go_wp2_with (first | (go_at_call 152; (with_reducible refine (dioramaref02_trimmed.calls k1 (fun k_ => some k_ = (.slice Ao32 x5_1.length co32 : Value).ownBlock) (.slice Ao32 x5_1.length co32) x5_1 t140 w _ ?side1 ?side2 A31.out).mono ?_); (case side1 => repeat (first | (with_reducible first | exact HB.out | apply below_alloc | apply pw_below_drewN | apply below_drew1) | exact HB.out)); (case side2 => exact Kd.R_tight rfl HO_5.out); rintro e w33 ⟨v141, rfl, ho0, hb, hkp⟩; have HO142 := aS (Kd.R_mono (ok' := fun k_ => True) ho0 (fun k_ hk_ => trivial)); replace HB := aS (hb); clear HO_5; clear hb hkp; (try clear ho0))))
     go_ret
     exact ⟨_, by first | rfl | (simp [errW_none, errW_some] <;> rfl) | (simp only [← hji3]; first | rfl | (simp [errW_none, errW_some] <;> rfl)) | (simp [*, errW_none, errW_some] <;> rfl), by refine aR ?_; exact HO142.out, bz⟩
  rw [if_neg c5] at H
  exact absurd H (by simp)
 rw [if_neg c4] at H
 exact absurd H (by simp)
mutual
def dioramaref02_Plus.l0 : Nat → List Int → List Int → List Int → Int → Int → Option (List Int)
  | 0, _, _, _, _, _ => none
  | k + 1, x0, x1, x5, x6, x7 => if x7 < (x0.length : Int) then (dioramaref02_Plus.j1 k x0 x1 x5 x6 x7 true) else (if x7 < (x1.length : Int) then (dioramaref02_Plus.j1 k x0 x1 x5 x6 x7 true) else (dioramaref02_Plus.j1 k x0 x1 x5 x6 x7 (decide (x6 > 0))))
def dioramaref02_Plus.j1 : Nat → List Int → List Int → List Int → Int → Int → Bool → Option (List Int)
  | 0, _, _, _, _, _, _ => none
  | k + 1, x0, x1, x5, x6, x7, x22 => if x22 = true then ((dioramaref02_digit.f x0 x7).bind fun t151 => ((dioramaref02_digit.f x1 x7).bind fun t152 => (if x5.length < 17592186044416 then (dioramaref02_Plus.l0 k x0 x1 (x5 ++ [Int.tmod (wrap64 ((wrap64 (t151 + t152)) + x6)) 1000000000]) (wrap64 (Int.tdiv (wrap64 ((wrap64 (t151 + t152)) + x6)) 1000000000)) (wrap64 (x7 + 1))) else (none)))) else (some x5)
end
def dioramaref02_Plus.f (k : Nat) (l0 : List Int) (l1 : List Int) : Option (List Int) := dioramaref02_Plus.l0 k l0 l1 ([] : List Int) 0 0
theorem dioramaref02_Plus.calls (k : Nat) (A0 : Option Addr) (c0 : Nat) (l0 : List Int) (A1 : Option Addr) (c1 : Nat) (l1 : List Int) (r : List Int) (w : World) (hr0 : Kd.C (Kd.int .i64) w A0 l0.length l0) (hc0 : l0.length ≤ c0) (hr1 : Kd.C (Kd.int .i64) w A1 l1.length l1) (hc1 : l1.length ≤ c1) (h : dioramaref02_Plus.f k l0 l1 = some r) :
  Calls Tryz.prog 143 #[.slice A0 l0.length c0, .slice A1 l1.length c1] w fun e w' => ∃ v0_ : Value, e = .returned (v0_) ∧ Kd.R (Kd.int .i64) 3 w' w.heap.size (fun _ => True) v0_ r ∧ Below w.heap.size w w' := by
 have HR0 := aS hr0; have HC0 := aS hc0; clear hr0 hc0; have HR1 := aS hr1; have HC1 := aS hc1; clear hr1 hc1; have HB := aS (Below.refl w.heap.size w); have H : (dioramaref02_Plus.l0 k l0 l1 ([] : List Int) 0 0) = some r := h; clear h; have H' := aS H; clear H
 go_enter Tryz.func143, Tryz.ntmps143
 go_wp2
 go_loopg [5, 6, 7] k (fun kq v5 v6 v7 w' => ∃ (x5_1 : List Int) (x6_1 : Int) (x7_1 : Int), v6 = .int .i64 x6_1 ∧ v7 = .int .i64 x7_1 ∧ Aside0 (dioramaref02_Plus.l0 kq l0 l1 x5_1 x6_1 x7_1 = some r) ∧ Aside0 (kq ≤ k) ∧ Aside0 (Kd.R (Kd.int .i64) 3 w' w.heap.size (fun _ => True) v5 x5_1) ∧ Aside0 (Below w.heap.size w w'))
 case atStart => exact ⟨(([] : List Int)), (0), (0), jz, jz, H', ⟨Nat.le_refl _⟩, ⟨by first | exact Kd.R_nil _ _ _ _ _ | exact Kd.N_nil _ _ _ _ _ | exact Kd.V_nil _ _ _ _ _ | exact Kd.Q_nil _ _ _ _ _ | exact Kd.S_nil _ _ _ _ _⟩, ⟨bz⟩⟩
 case round =>
  clear H'
  try clear c1
  try clear p2
  obtain ⟨x5_1, x6_1, x7_1, rfl, rfl, HA, HK1, HO_5, HB⟩ := hrel
  cases gk with
  | zero => exact absurd HA.out (by simp [dioramaref02_Plus.l0])
  | succ k1 =>
   have H := HA.out; clear HA; simp only [dioramaref02_Plus.l0] at H; have HC3 := aS H; clear H
   go_upto_region 4 with (fail)
   go_cut [22] (fun v22 wc => ∃ (kq : Nat) (x22_2 : Bool), v22 = .bool x22_2 ∧ Aside0 (dioramaref02_Plus.j1 kq l0 l1 x5_1 x6_1 x7_1 x22_2 = some r) ∧ Aside0 (kq ≤ k1) ∧ Aside0 (Kd.R (Kd.int .i64) 3 wc w.heap.size (fun _ => True) u5 x5_1) ∧ Aside0 (Below w.heap.size w wc))
   case first =>
    have H := HC3.out; clear HC3
    by_cases c4 : x7_1 < (l0.length : Int)
    ·rw [if_pos c4] at H; have c4b0 : decide (x7_1 < (l0.length : Int)) = true := decide_eq_true c4; clear c4
     (first | rw [c4b0] | (simp only [i64_w, i32_w]; rw [c4b0]) | skip)
     have H' := aS H; clear H
     go_wp2
     go_meet
     case rel => exact ⟨_, (true), jz, H', ⟨by have := HK1.out; first | omega | exact Nat.le_refl _⟩, ⟨rz HO_5⟩, ⟨bz⟩⟩
    rw [if_neg c4] at H; have c4b0 : decide (x7_1 < (l0.length : Int)) = false := decide_eq_false c4; clear c4
    (first | rw [c4b0] | (simp only [i64_w, i32_w]; rw [c4b0]) | skip)
    by_cases c5 : x7_1 < (l1.length : Int)
    ·rw [if_pos c5] at H; have c5b0 : decide (x7_1 < (l1.length : Int)) = true := decide_eq_true c5; clear c5; have H' := aS H; clear H
     go_wp2
     go_meet
     case rel => exact ⟨_, (true), jz, H', ⟨by have := HK1.out; first | omega | exact Nat.le_refl _⟩, ⟨rz HO_5⟩, ⟨bz⟩⟩
    rw [if_neg c5] at H; have c5b0 : decide (x7_1 < (l1.length : Int)) = false := decide_eq_false c5; clear c5; have H' := aS H; clear H
    go_wp2
    go_meet
    case rel => exact ⟨_, (decide (x6_1 > 0)), jz, H', ⟨by have := HK1.out; first | omega | exact Nat.le_refl _⟩, ⟨rz HO_5⟩, ⟨bz⟩⟩
   case rest =>
    clear HC3
    try clear c1
    try clear p2
    try clear c4
    try clear c4b0
    try clear c5
    try clear c5b0
    try clear p2
    obtain ⟨kq, x22_2, rfl, HA, HJ2, HO_5, HB⟩ := hcut
    cases kq with
    | zero => exact absurd HA.out (by simp [dioramaref02_Plus.j1])
    | succ kj2 =>
     have H := HA.out; clear HA; simp only [dioramaref02_Plus.j1] at H
     by_cases c6 : x22_2 = true
     ·subst c6; rw [if_pos rfl] at H; obtain ⟨t151, A7, H⟩ := ob H; obtain ⟨t152, A8, H⟩ := ob H
      by_cases c9 : x5_1.length < 17592186044416
      ·rw [if_pos c9] at H; have LMc9 := aS c9; clear c9; obtain ⟨y153, hy153⟩ : ∃ y_ : List Int, y_ = (x5_1 ++ [Int.tmod (wrap64 ((wrap64 (t151 + t152)) + x6_1)) 1000000000]) := ⟨_, rfl⟩; replace H : (dioramaref02_Plus.l0 kj2 l0 l1 y153 (wrap64 (Int.tdiv (wrap64 ((wrap64 (t151 + t152)) + x6_1)) 1000000000)) (wrap64 (x7_1 + 1))) = some r := by first | (rw [hy153]; with_reducible exact H) | (have H2_ := (Option.bind_some _ _).symm.trans H; rw [hy153]; with_reducible exact H2_) | (have H2_ := (Option.bind_some _ _).symm.trans H; with_reducible exact H2_) | with_reducible exact H | (rw [hy153]; exact H) | exact H
       have Ny153 := aS hy153; clear hy153; have H' := aS H; clear H
       go_wp2_with (first | ((with_reducible refine gate_callee (f := 151) rfl ?_); refine zC 27 Tryz.func151 #[.slice A0 l0.length c0, .int .i64 x7_1] ?_; (with_reducible refine (dioramaref02_digit.calls _ _ l0 x7_1 t151 _ ?side1 ?side2 A7.out).mono ?_); (case side1 => exact cz HR0); (case side2 => exact HC0.out); rintro e w' ⟨rfl, ⟨nd, rfl⟩⟩; refine ⟨_, rfl, ?_⟩) | ((with_reducible refine gate_callee (f := 151) rfl ?_); refine zC 30 Tryz.func151 #[.slice A1 l1.length c1, .int .i64 x7_1] ?_; (with_reducible refine (dioramaref02_digit.calls _ _ l1 x7_1 t152 _ ?side1 ?side2 A8.out).mono ?_); (case side1 => repeat (first | exact (Kd.C_below HR1.out bz) | (with_reducible refine Kd.C_alloc ?_ _) | (with_reducible refine Kd.C_drewN ?_ _) | (with_reducible refine Kd.C_drew ?_))); (case side2 => exact HC1.out); rintro e w' ⟨rfl, ⟨nd, rfl⟩⟩; refine ⟨_, rfl, ?_⟩) | ((with_reducible refine gate_builtin (b := .append) (xs := #[.tmp 34, .tmp 37]) rfl ?_); at_builtin; refine Kd.R_append (Kd.int .i64) (w0 := w) w.heap.size rfl (.tmp 34) (.tmp 37) 77 3 (.int .i64 0) 8 rfl Tryz.underlying77 info3 rfl (by decide) (by omega) u5 x5_1 (Int.tmod (wrap64 ((wrap64 (t151 + t152)) + x6_1)) 1000000000) [.int .i64 (Int.tmod (wrap64 ((wrap64 (t151 + t152)) + x6_1)) 1000000000)] (fun _ => True) (fun _ => False) rfl rfl ?aP (fun _ hk => hk.elim) ?aF ?aO ?aB ?aS ?aL ?_; (case aP => exact rfl); (case aB => exact bz); (case aF => exact (fun _ _ => trivial)); (case aO => exact (rz HO_5)); (case aS => exact sz); (case aL => have := LMc9.out; omega); intro v154 w10 ho hb hg hat; rw [← Ny153.out] at ho; replace HB := aS (hb); have HO155 := aS (ho); clear HO_5; clear ho hb hg hat))
       go_roundg kj2
       case measure => have := HK1.out; have := HJ2.out; omega
       case rel => exact ⟨(y153), (wrap64 (Int.tdiv (wrap64 ((wrap64 (t151 + t152)) + x6_1)) 1000000000)), (wrap64 (x7_1 + 1)), jz, jz, H', ⟨by have := HK1.out; have := HJ2.out; omega⟩, ⟨rz HO155⟩, ⟨bz⟩⟩
      rw [if_neg c9] at H
      exact absurd H (by simp)
     obtain rfl := bf c6; rw [if_neg (show ¬ (false = true) by decide)] at H; obtain rfl := Option.some.inj H
     go_wp2
     go_ret
     exact ⟨_, ez, by refine aR ?_; exact HO_5.out, bz⟩
def dioramaref02_Compare.l0 : Nat → List Int → List Int → Int → Option (Int)
  | 0, _, _, _ => none
  | k + 1, x0, x1, x5 => if x5 ≥ 0 then (if 0 ≤ x5 then (if x5 < (x0.length : Int) then (if x5 < (x1.length : Int) then (if (rd x0 x5) < (rd x1 x5) then (some (-1)) else (if (rd x0 x5) > (rd x1 x5) then (some 1) else (dioramaref02_Compare.l0 k x0 x1 (wrap64 (x5 - 1))))) else (none)) else (none)) else (none)) else (some 0)
def dioramaref02_Compare.f (k : Nat) (l0 : List Int) (l1 : List Int) : Option (Int) := if (l0.length : Int) = (l1.length : Int) then (dioramaref02_Compare.l0 k l0 l1 (wrap64 ((l0.length : Int) - 1))) else (if (l0.length : Int) < (l1.length : Int) then (some (-1)) else (some 1))
theorem dioramaref02_Compare.calls (k : Nat) (A0 : Option Addr) (c0 : Nat) (l0 : List Int) (A1 : Option Addr) (c1 : Nat) (l1 : List Int) (r : Int) (w : World) (hr0 : Kd.C (Kd.int .i64) w A0 l0.length l0) (hc0 : l0.length ≤ c0) (hr1 : Kd.C (Kd.int .i64) w A1 l1.length l1) (hc1 : l1.length ≤ c1) (h : dioramaref02_Compare.f k l0 l1 = some r) :
  Calls Tryz.prog 144 #[.slice A0 l0.length c0, .slice A1 l1.length c1] w fun e w' => e = .returned (.int .i64 r) ∧ Drawn0 w w' := by
 have HR0 := aS hr0; have HC0 := aS hc0; clear hr0 hc0; have HR1 := aS hr1; have HC1 := aS hc1; clear hr1 hc1; have H : (if (l0.length : Int) = (l1.length : Int) then (dioramaref02_Compare.l0 k l0 l1 (wrap64 ((l0.length : Int) - 1))) else (if (l0.length : Int) < (l1.length : Int) then (some (-1)) else (some 1))) = some r := h; clear h
 by_cases c3 : (l0.length : Int) = (l1.length : Int)
 ·rw [if_pos c3] at H; have c3b0 : ((l0.length : Int) == (l1.length : Int)) = true := beq_iff_eq.mpr c3; have c3b1 : ((l0.length : Int) != (l1.length : Int)) = false := bne_eq_false_iff_eq.mpr c3; have c3b2 : (l0.length == l1.length) = true := by first | simpa using c3 | (simp at c3 ⊢; omega)
  clear c3; have H' := aS H; clear H
  go_enter Tryz.func144, Tryz.ntmps144
  go_wp2
  repeat (go_quiet (fail); try go_wp2)
  go_loopg [5] k (fun kq v5 w' => ∃ (x5_1 : Int), v5 = .int .i64 x5_1 ∧ Aside0 (dioramaref02_Compare.l0 kq l0 l1 x5_1 = some r) ∧ Aside0 (kq ≤ k) ∧ Drawn0 w w')
  case atStart => exact ⟨(wrap64 ((l0.length : Int) - 1)), jz, H', ⟨Nat.le_refl _⟩, by repeat (first | exact Drawn0.refl _ | apply Drawn0.step)⟩
  case round =>
   clear H'
   try clear c1
   try clear p2
   try clear c3
   try clear c3b0
   try clear c3b1
   try clear c3b2
   obtain ⟨x5_1, rfl, HA, HK1, ⟨m1, rfl⟩⟩ := hrel
   cases gk with
   | zero => exact absurd HA.out (by simp [dioramaref02_Compare.l0])
   | succ k1 =>
    have H := HA.out; clear HA; simp only [dioramaref02_Compare.l0] at H
    by_cases c4 : x5_1 ≥ 0
    ·rw [if_pos c4] at H; have c4b0 : decide (0 ≤ x5_1) = true := decide_eq_true c4; clear c4
     by_cases c5 : 0 ≤ x5_1
     ·rw [if_pos c5] at H; have c5b0 : decide (0 ≤ x5_1) = true := decide_eq_true c5; clear c5
      by_cases c6 : x5_1 < (l0.length : Int)
      ·rw [if_pos c6] at H; have c6b0 : decide (x5_1 < (l0.length : Int)) = true := decide_eq_true c6; clear c6
       by_cases c7 : x5_1 < (l1.length : Int)
       ·rw [if_pos c7] at H; have c7b0 : decide (x5_1 < (l1.length : Int)) = true := decide_eq_true c7; clear c7
        by_cases c8 : (rd l0 x5_1) < (rd l1 x5_1)
        ·rw [if_pos c8] at H; have c8b0 : decide ((rd l0 x5_1) < (rd l1 x5_1)) = true := decide_eq_true c8; clear c8; obtain rfl := Option.some.inj H; have p156 : 0 ≤ (x5_1 : Int) := od; have q156 : x5_1 < (l0.length : Int) := od; obtain ⟨ad156, e156, hx156_0⟩ := Kd.at_int HR0.out x5_1 p156 q156
         cases e156
         replace p156 := eq_true p156; replace q156 := eq_true q156; have p157 : 0 ≤ (x5_1 : Int) := od; have q157 : x5_1 < (l1.length : Int) := od; obtain ⟨ad157, e157, hx157_0⟩ := Kd.at_int HR1.out x5_1 p157 q157
         cases e157
         replace p157 := eq_true p157; replace q157 := eq_true q157
         go_wp2
         repeat (go_quiet (fail); try go_wp2)
         go_ret
         exact ⟨by first | rfl | (simp; done) | (simp [*]; done), by repeat (first | exact Drawn0.refl _ | apply Drawn0.step)⟩
        rw [if_neg c8] at H; have c8b0 : decide ((rd l0 x5_1) < (rd l1 x5_1)) = false := decide_eq_false c8; clear c8
        by_cases c9 : (rd l0 x5_1) > (rd l1 x5_1)
        ·rw [if_pos c9] at H; have c9b0 : decide ((rd l1 x5_1) < (rd l0 x5_1)) = true := decide_eq_true c9; clear c9; obtain rfl := Option.some.inj H; have p156 : 0 ≤ (x5_1 : Int) := od; have q156 : x5_1 < (l0.length : Int) := od; obtain ⟨ad156, e156, hx156_0⟩ := Kd.at_int HR0.out x5_1 p156 q156
         cases e156
         replace p156 := eq_true p156; replace q156 := eq_true q156; have p157 : 0 ≤ (x5_1 : Int) := od; have q157 : x5_1 < (l1.length : Int) := od; obtain ⟨ad157, e157, hx157_0⟩ := Kd.at_int HR1.out x5_1 p157 q157
         cases e157
         replace p157 := eq_true p157; replace q157 := eq_true q157; have p158 : 0 ≤ (x5_1 : Int) := od; have q158 : x5_1 < (l0.length : Int) := od; obtain ⟨ad158, e158, hx158_0⟩ := Kd.at_int HR0.out x5_1 p158 q158; obtain rfl : ad156 = ad158 := (by injection e158); replace p158 := eq_true p158; replace q158 := eq_true q158; have p159 : 0 ≤ (x5_1 : Int) := od; have q159 : x5_1 < (l1.length : Int) := od; obtain ⟨ad159, e159, hx159_0⟩ := Kd.at_int HR1.out x5_1 p159 q159; obtain rfl : ad157 = ad159 := (by injection e159); replace p159 := eq_true p159; replace q159 := eq_true q159
         go_wp2
         repeat (go_quiet (fail); try go_wp2)
         go_ret
         exact ⟨by first | rfl | (simp; done) | (simp [*]; done), by repeat (first | exact Drawn0.refl _ | apply Drawn0.step)⟩
        rw [if_neg c9] at H; have c9b0 : decide ((rd l1 x5_1) < (rd l0 x5_1)) = false := decide_eq_false c9; clear c9; have H' := aS H; clear H; have p156 : 0 ≤ (x5_1 : Int) := od; have q156 : x5_1 < (l0.length : Int) := od; obtain ⟨ad156, e156, hx156_0⟩ := Kd.at_int HR0.out x5_1 p156 q156
        cases e156
        replace p156 := eq_true p156; replace q156 := eq_true q156; have p157 : 0 ≤ (x5_1 : Int) := od; have q157 : x5_1 < (l1.length : Int) := od; obtain ⟨ad157, e157, hx157_0⟩ := Kd.at_int HR1.out x5_1 p157 q157
        cases e157
        replace p157 := eq_true p157; replace q157 := eq_true q157; have p158 : 0 ≤ (x5_1 : Int) := od; have q158 : x5_1 < (l0.length : Int) := od; obtain ⟨ad158, e158, hx158_0⟩ := Kd.at_int HR0.out x5_1 p158 q158; obtain rfl : ad156 = ad158 := (by injection e158); replace p158 := eq_true p158; replace q158 := eq_true q158; have p159 : 0 ≤ (x5_1 : Int) := od; have q159 : x5_1 < (l1.length : Int) := od; obtain ⟨ad159, e159, hx159_0⟩ := Kd.at_int HR1.out x5_1 p159 q159; obtain rfl : ad157 = ad159 := (by injection e159); replace p159 := eq_true p159; replace q159 := eq_true q159
        go_wp2
        repeat (go_quiet (fail); try go_wp2)
        go_roundg k1
        case measure => have := HK1.out; omega
        case rel => exact ⟨(wrap64 (x5_1 - 1)), jz, H', ⟨by have := HK1.out; omega⟩, by repeat (first | exact Drawn0.refl _ | apply Drawn0.step)⟩
       rw [if_neg c7] at H
       exact absurd H (by simp)
      rw [if_neg c6] at H
      exact absurd H (by simp)
     rw [if_neg c5] at H
     exact absurd H (by simp)
    rw [if_neg c4] at H; have c4b0 : decide (0 ≤ x5_1) = false := decide_eq_false c4; clear c4; obtain rfl := Option.some.inj H
    go_wp2
    repeat (go_quiet (fail); try go_wp2)
    go_ret
    exact ⟨by first | rfl | (simp; done) | (simp [*]; done), by repeat (first | exact Drawn0.refl _ | apply Drawn0.step)⟩
 rw [if_neg c3] at H; have c3b0 : ((l0.length : Int) == (l1.length : Int)) = false := beq_eq_false_iff_ne.mpr c3; have c3b1 : ((l0.length : Int) != (l1.length : Int)) = true := bne_iff_ne.mpr c3; have c3b2 : (l0.length == l1.length) = false := by first | simpa using c3 | (simp at c3 ⊢; omega)
 by_cases c10 : (l0.length : Int) < (l1.length : Int)
 ·rw [if_pos c10] at H; have c10b0 : decide ((l0.length : Int) < (l1.length : Int)) = true := decide_eq_true c10; have c10b1 : decide (l0.length < l1.length) = true := decide_eq_true (Int.ofNat_lt.mp c10); clear c10; obtain rfl := Option.some.inj H
  go_enter Tryz.func144, Tryz.ntmps144
  go_wp2
  repeat (go_quiet (fail); try go_wp2)
  go_ret
  exact ⟨by first | rfl | (simp; done) | (simp [*]; done), by repeat (first | exact Drawn0.refl _ | apply Drawn0.step)⟩
 rw [if_neg c10] at H; have c10b0 : decide ((l0.length : Int) < (l1.length : Int)) = false := decide_eq_false c10; have c10b1 : decide (l0.length < l1.length) = false := decide_eq_false (fun h => c10 (Int.ofNat_lt.mpr h))
 clear c10; obtain rfl := Option.some.inj H
 go_enter Tryz.func144, Tryz.ntmps144
 go_wp2
 repeat (go_quiet (fail); try go_wp2)
 go_ret
 exact ⟨by first | rfl | (simp; done) | (simp [*]; done), by repeat (first | exact Drawn0.refl _ | apply Drawn0.step)⟩
def dioramaref02_Minus.l0 : Nat → List Int → List Int → List Int → Int → Int → Option (List Int)
  | 0, _, _, _, _, _ => none
  | k + 1, x0, x1, x5, x6, x7 => if x7 < (x0.length : Int) then ((dioramaref02_digit.f x0 x7).bind fun t163 => ((dioramaref02_digit.f x1 x7).bind fun t164 => (if (wrap64 ((wrap64 (t163 - t164)) - x6)) < 0 then (if x5.length < 17592186044416 then (dioramaref02_Minus.l0 k x0 x1 (x5 ++ [wrap64 ((wrap64 ((wrap64 (t163 - t164)) - x6)) + 1000000000)]) 1 (wrap64 (x7 + 1))) else (none)) else (if x5.length < 17592186044416 then (dioramaref02_Minus.l0 k x0 x1 (x5 ++ [wrap64 ((wrap64 (t163 - t164)) - x6)]) 0 (wrap64 (x7 + 1))) else (none))))) else ((dioramaref02_trimmed.f k x5).bind fun t160 => (some t160))
def dioramaref02_Minus.f (k : Nat) (l0 : List Int) (l1 : List Int) : Option (List Int) := dioramaref02_Minus.l0 k l0 l1 ([] : List Int) 0 0
theorem dioramaref02_Minus.calls (k : Nat) (A0 : Option Addr) (c0 : Nat) (l0 : List Int) (A1 : Option Addr) (c1 : Nat) (l1 : List Int) (r : List Int) (w : World) (hr0 : Kd.C (Kd.int .i64) w A0 l0.length l0) (hc0 : l0.length ≤ c0) (hr1 : Kd.C (Kd.int .i64) w A1 l1.length l1) (hc1 : l1.length ≤ c1) (h : dioramaref02_Minus.f k l0 l1 = some r) :
  Calls Tryz.prog 145 #[.slice A0 l0.length c0, .slice A1 l1.length c1] w fun e w' => ∃ v0_ : Value, e = .returned (v0_) ∧ Kd.R (Kd.int .i64) 3 w' w.heap.size (fun _ => True) v0_ r ∧ Below w.heap.size w w' := by
 have HR0 := aS hr0; have HC0 := aS hc0; clear hr0 hc0; have HR1 := aS hr1; have HC1 := aS hc1; clear hr1 hc1; have HB := aS (Below.refl w.heap.size w); have H : (dioramaref02_Minus.l0 k l0 l1 ([] : List Int) 0 0) = some r := h; clear h; have H' := aS H; clear H
 go_enter Tryz.func145, Tryz.ntmps145
 go_wp2
 go_loopg [5, 6, 7] k (fun kq v5 v6 v7 w' => ∃ (x5_1 : List Int) (x6_1 : Int) (x7_1 : Int), v6 = .int .i64 x6_1 ∧ v7 = .int .i64 x7_1 ∧ Aside0 (dioramaref02_Minus.l0 kq l0 l1 x5_1 x6_1 x7_1 = some r) ∧ Aside0 (kq ≤ k) ∧ Aside0 (Kd.R (Kd.int .i64) 3 w' w.heap.size (fun _ => True) v5 x5_1) ∧ Aside0 (Below w.heap.size w w'))
 case atStart => exact ⟨(([] : List Int)), (0), (0), jz, jz, H', ⟨Nat.le_refl _⟩, ⟨by first | exact Kd.R_nil _ _ _ _ _ | exact Kd.N_nil _ _ _ _ _ | exact Kd.V_nil _ _ _ _ _ | exact Kd.Q_nil _ _ _ _ _ | exact Kd.S_nil _ _ _ _ _⟩, ⟨bz⟩⟩
 case round =>
  clear H'
  try clear c1
  try clear p2
  obtain ⟨x5_1, x6_1, x7_1, rfl, rfl, HA, HK1, HO_5, HB⟩ := hrel
  cases gk with
  | zero => exact absurd HA.out (by simp [dioramaref02_Minus.l0])
  | succ k1 =>
   have H := HA.out; clear HA; simp only [dioramaref02_Minus.l0] at H
   by_cases c3 : x7_1 < (l0.length : Int)
   ·rw [if_pos c3] at H; have c3b0 : decide (x7_1 < (l0.length : Int)) = true := decide_eq_true c3; clear c3; obtain ⟨t163, A4, H⟩ := ob H; obtain ⟨t164, A5, H⟩ := ob H
    by_cases c6 : (wrap64 ((wrap64 (t163 - t164)) - x6_1)) < 0
    ·rw [if_pos c6] at H; have c6b0 : decide ((wrap64 ((wrap64 (t163 - t164)) - x6_1)) < 0) = true := decide_eq_true c6; clear c6
     by_cases c7 : x5_1.length < 17592186044416
     ·rw [if_pos c7] at H; have LMc7 := aS c7; clear c7; obtain ⟨y165, hy165⟩ : ∃ y_ : List Int, y_ = (x5_1 ++ [wrap64 ((wrap64 ((wrap64 (t163 - t164)) - x6_1)) + 1000000000)]) := ⟨_, rfl⟩; replace H : (dioramaref02_Minus.l0 k1 l0 l1 y165 1 (wrap64 (x7_1 + 1))) = some r := by first | (rw [hy165]; with_reducible exact H) | (have H2_ := (Option.bind_some _ _).symm.trans H; rw [hy165]; with_reducible exact H2_) | (have H2_ := (Option.bind_some _ _).symm.trans H; with_reducible exact H2_) | with_reducible exact H | (rw [hy165]; exact H) | exact H
      have Ny165 := aS hy165; clear hy165; have H' := aS H; clear H
      go_wp2_with (first | ((with_reducible refine gate_callee (f := 151) rfl ?_); refine zC 17 Tryz.func151 #[.slice A0 l0.length c0, .int .i64 x7_1] ?_; (with_reducible refine (dioramaref02_digit.calls _ _ l0 x7_1 t163 _ ?side1 ?side2 A4.out).mono ?_); (case side1 => exact cz HR0); (case side2 => exact HC0.out); rintro e w' ⟨rfl, ⟨nd, rfl⟩⟩; refine ⟨_, rfl, ?_⟩) | ((with_reducible refine gate_callee (f := 151) rfl ?_); refine zC 20 Tryz.func151 #[.slice A1 l1.length c1, .int .i64 x7_1] ?_; (with_reducible refine (dioramaref02_digit.calls _ _ l1 x7_1 t164 _ ?side1 ?side2 A5.out).mono ?_); (case side1 => repeat (first | exact (Kd.C_below HR1.out bz) | (with_reducible refine Kd.C_alloc ?_ _) | (with_reducible refine Kd.C_drewN ?_ _) | (with_reducible refine Kd.C_drew ?_))); (case side2 => exact HC1.out); rintro e w' ⟨rfl, ⟨nd, rfl⟩⟩; refine ⟨_, rfl, ?_⟩) | ((with_reducible refine gate_builtin (b := .append) (xs := #[.tmp 28, .tmp 30]) rfl ?_); at_builtin; refine Kd.R_append (Kd.int .i64) (w0 := w) w.heap.size rfl (.tmp 28) (.tmp 30) 77 3 (.int .i64 0) 8 rfl Tryz.underlying77 info3 rfl (by decide) (by omega) u5 x5_1 (wrap64 ((wrap64 ((wrap64 (t163 - t164)) - x6_1)) + 1000000000)) [.int .i64 (wrap64 ((wrap64 ((wrap64 (t163 - t164)) - x6_1)) + 1000000000))] (fun _ => True) (fun _ => False) rfl rfl ?aP (fun _ hk => hk.elim) ?aF ?aO ?aB ?aS ?aL ?_; (case aP => exact rfl); (case aB => exact bz); (case aF => exact (fun _ _ => trivial)); (case aO => exact (rz HO_5)); (case aS => exact sz); (case aL => have := LMc7.out; omega); intro v166 w8 ho hb hg hat; rw [← Ny165.out] at ho; replace HB := aS (hb); have HO167 := aS (ho); clear HO_5; clear ho hb hg hat))
      go_roundg k1
      case measure => have := HK1.out; omega
      case rel => exact ⟨(y165), (1), (wrap64 (x7_1 + 1)), jz, jz, H', ⟨by have := HK1.out; omega⟩, ⟨rz HO167⟩, ⟨bz⟩⟩
     rw [if_neg c7] at H
     exact absurd H (by simp)
    rw [if_neg c6] at H; have c6b0 : decide ((wrap64 ((wrap64 (t163 - t164)) - x6_1)) < 0) = false := decide_eq_false c6; clear c6
    by_cases c9 : x5_1.length < 17592186044416
    ·rw [if_pos c9] at H; have LMc9 := aS c9; clear c9; obtain ⟨y168, hy168⟩ : ∃ y_ : List Int, y_ = (x5_1 ++ [wrap64 ((wrap64 (t163 - t164)) - x6_1)]) := ⟨_, rfl⟩; replace H : (dioramaref02_Minus.l0 k1 l0 l1 y168 0 (wrap64 (x7_1 + 1))) = some r := by first | (rw [hy168]; with_reducible exact H) | (have H2_ := (Option.bind_some _ _).symm.trans H; rw [hy168]; with_reducible exact H2_) | (have H2_ := (Option.bind_some _ _).symm.trans H; with_reducible exact H2_) | with_reducible exact H | (rw [hy168]; exact H) | exact H
     have Ny168 := aS hy168; clear hy168; have H' := aS H; clear H
     go_wp2_with (first | ((with_reducible refine gate_callee (f := 151) rfl ?_); refine zC 17 Tryz.func151 #[.slice A0 l0.length c0, .int .i64 x7_1] ?_; (with_reducible refine (dioramaref02_digit.calls _ _ l0 x7_1 t163 _ ?side1 ?side2 A4.out).mono ?_); (case side1 => exact cz HR0); (case side2 => exact HC0.out); rintro e w' ⟨rfl, ⟨nd, rfl⟩⟩; refine ⟨_, rfl, ?_⟩) | ((with_reducible refine gate_callee (f := 151) rfl ?_); refine zC 20 Tryz.func151 #[.slice A1 l1.length c1, .int .i64 x7_1] ?_; (with_reducible refine (dioramaref02_digit.calls _ _ l1 x7_1 t164 _ ?side1 ?side2 A5.out).mono ?_); (case side1 => repeat (first | exact (Kd.C_below HR1.out bz) | (with_reducible refine Kd.C_alloc ?_ _) | (with_reducible refine Kd.C_drewN ?_ _) | (with_reducible refine Kd.C_drew ?_))); (case side2 => exact HC1.out); rintro e w' ⟨rfl, ⟨nd, rfl⟩⟩; refine ⟨_, rfl, ?_⟩) | ((with_reducible refine gate_builtin (b := .append) (xs := #[.tmp 28, .tmp 30]) rfl ?_); at_builtin; refine Kd.R_append (Kd.int .i64) (w0 := w) w.heap.size rfl (.tmp 28) (.tmp 30) 77 3 (.int .i64 0) 8 rfl Tryz.underlying77 info3 rfl (by decide) (by omega) u5 x5_1 (wrap64 ((wrap64 (t163 - t164)) - x6_1)) [.int .i64 (wrap64 ((wrap64 (t163 - t164)) - x6_1))] (fun _ => True) (fun _ => False) rfl rfl ?aP (fun _ hk => hk.elim) ?aF ?aO ?aB ?aS ?aL ?_; (case aP => exact rfl); (case aB => exact bz); (case aF => exact (fun _ _ => trivial)); (case aO => exact (rz HO_5)); (case aS => exact sz); (case aL => have := LMc9.out; omega); intro v169 w10 ho hb hg hat; rw [← Ny168.out] at ho; replace HB := aS (hb); have HO170 := aS (ho); clear HO_5; clear ho hb hg hat))
     go_roundg k1
     case measure => have := HK1.out; omega
     case rel => exact ⟨(y168), (0), (wrap64 (x7_1 + 1)), jz, jz, H', ⟨by have := HK1.out; omega⟩, ⟨rz HO170⟩, ⟨bz⟩⟩
    rw [if_neg c9] at H
    exact absurd H (by simp)
   rw [if_neg c3] at H; have c3b0 : decide (x7_1 < (l0.length : Int)) = false := decide_eq_false c3; clear c3; obtain ⟨t160, A11, H⟩ := ob H; obtain rfl := Option.some.inj H; obtain ⟨Ao12, co12, eo12⟩ := Kd.R_slice HO_5.out; subst eo12
   go_wp2_with (first | ((with_reducible refine gate_callee (f := 152) rfl ?_); refine zC 33 Tryz.func152 #[.slice Ao12 x5_1.length co12] ?_; (with_reducible refine (dioramaref02_trimmed.calls k1 (fun k_ => some k_ = (.slice Ao12 x5_1.length co12 : Value).ownBlock) (.slice Ao12 x5_1.length co12) x5_1 t160 w _ ?side1 ?side2 A11.out).mono ?_); (case side1 => repeat (first | (with_reducible first | exact HB.out | apply below_alloc | apply pw_below_drewN | apply below_drew1) | exact HB.out)); (case side2 => exact Kd.R_tight rfl HO_5.out); rintro e w13 ⟨v161, rfl, ho0, hb, hkp⟩; refine ⟨_, rfl, ?_⟩; have HO162 := aS (Kd.R_mono (ok' := fun k_ => True) ho0 (fun k_ hk_ => trivial)); replace HB := aS (hb); clear HO_5; clear hb hkp ho0))
   go_ret
   exact ⟨_, ez, by refine aR ?_; exact HO162.out, bz⟩
end Go.Proofs.YtekommcfpjonmaaGreat.E

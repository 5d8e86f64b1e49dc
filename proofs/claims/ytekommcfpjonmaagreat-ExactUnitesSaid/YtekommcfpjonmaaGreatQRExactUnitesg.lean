/-
  exact's functions of whole numbers: what they compute, and the walks of the small ones. Fractions of package num: SetFrac brings two whole numbers to lowest terms. The rational number that two whole ones make. Times and spans of the program as rational numbers; the clean list as a plain value. Spans that come in, opened: a list of spans, a time. The reference's natural numbers, in digits of nine decimal places: what its printed functions compute. The reference's natural numbers: sums, differences, products, quotients, small ones. The reference's rational numbers as rational numbers. The reference divides. The reference's time of a rational number is its lowest form. The reference's times. What exact's functions of spans tell, as plain values; join and touching. exact's functions of ticks: product, rounded, From, Ticks, Whole, Rescale. exact.Rescale; valid, little, cmp, add; the law's awake. valid and little: two times are looked at by a function. exact's valid and little; add and Add of little times; the law's awake. exact's ratio, cmp, add, Mul, Div, Sub, Lowest as values of whole numbers.
-/
import Derived.Test.YtekommcfpjonmaaGreatQRExactUnitesb
import Derived.Test.YtekommcfpjonmaaGreatQRExactUnitesf
import Derived.Test.YtekommcfpjonmaaGreatQRExactUnitesc
import Derived.Test.YtekommcfpjonmaaGreatQRExactUnitesd
import Derived.Test.YtekommcfpjonmaaGreatQRExactUnitese
import Derived.Test.YtekommcfpjonmaaGreatQRExactUnitesa
import Derived.Test.YtekommcfpjonmaaGreatChecked
import Derived.Lib.SmallJoins
import Derived.ProofKit
import Derived.Deep.Slices
import Derived.Deep.Fields
import Derived.ChangeSame
namespace Go.Proofs.YtekommcfpjonmaaGreat.E
open Go.Proofs.YtekommcfpjonmaaGreat.Z Go.RowKit Go.Proofs.YtekommcfpjonmaaGreatW.PrintWords Go.Proofs.YtekommcfpjonmaaGreatW.PrintLast Go.Proofs.YtekommcfpjonmaaGreatW.PrintMore
attribute [local go_sem] max2_int min2_int max_two min_two max_three min_three max_four min_four
set_option linter.unusedVariables false
set_option linter.unusedSimpArgs false
def dioramaref02_Union.f (k : Nat) (l0 : List (S53)) (l1 : List (S53)) : Option ((List (S53)) × Int) := (dioramaref02_combined.f k l0 l1 0).bind fun bt566 => (some (bt566.1, bt566.2))
set_option maxHeartbeats 8000000 in
set_option maxRecDepth 100000 in
theorem dioramaref02_Union.calls (k : Nat) (A0 : Option Addr) (c0 : Nat) (l0 : List (S53)) (A1 : Option Addr) (c1 : Nat) (l1 : List (S53)) (r1 : List (S53)) (r2 : Int) (w : World) (hr0 : Kd.C k53 w A0 l0.length l0) (hc0 : l0.length ≤ c0) (hr1 : Kd.C k53 w A1 l1.length l1) (hc1 : l1.length ≤ c1) (h : dioramaref02_Union.f k l0 l1 = some (r1, r2)) :
  Calls Tryz.prog 21 #[.slice A0 l0.length c0, .slice A1 l1.length c1] w fun e w' => ∃ v0_ : Value, e = .returned (.tuple #[v0_, .int .i64 r2]) ∧ Kd.R k53 53 w' w.heap.size (fun _ => True) v0_ r1 ∧ Below w.heap.size w w' := by
 have HR0 := Aside0.mk hr0; have HC0 := Aside0.mk hc0; clear hr0 hc0; have HR1 := Aside0.mk hr1; have HC1 := Aside0.mk hc1; clear hr1 hc1; have HB := Aside0.mk (Below.refl w.heap.size w); have H : ((dioramaref02_combined.f k l0 l1 0).bind fun bt566 => (some (bt566.1, bt566.2))) = some (r1, r2) := h
 clear h; obtain ⟨⟨t566, t567⟩, A3, H⟩ := ob H
 (try dsimp only at H)
 simp only [Option.some.injEq, Prod.mk.injEq] at H; obtain ⟨rfl, rfl⟩ := H
 go_enter Tryz.func21, Tryz.ntmps21
 go_wp2_with (first | ((with_reducible refine gate_callee (f := 45) rfl ?_); refine zC 8 Tryz.func45 #[.slice A0 l0.length c0, .slice A1 l1.length c1, .int .i64 0] ?_; (with_reducible refine (dioramaref02_combined.calls k _ _ l0 _ _ l1 0 t566 t567 _ ?side1 ?side2 ?side3 ?side4 A3.out).mono ?_); (case side1 => repeat (first | exact HR0.out | (with_reducible refine Kd.C_alloc ?_ _) | (with_reducible refine Kd.C_drewN ?_ _) | (with_reducible refine Kd.C_drew ?_))); (case side2 => exact HC0.out); (case side3 => repeat (first | exact HR1.out | (with_reducible refine Kd.C_alloc ?_ _) | (with_reducible refine Kd.C_drewN ?_ _) | (with_reducible refine Kd.C_drew ?_))); (case side4 => exact HC1.out); rintro e w4 ⟨v568, rfl, ho0, hb⟩; refine ⟨_, rfl, ?_⟩; have HO569 := Aside0.mk (Kd.R_lower ho0 sz); replace HB := bp hb; clear hb ho0))
 go_ret2
 exact ⟨_, ez, by (with_reducible repeat (first | apply Kd.R_alloc | apply Kd.R_drewN | apply Kd.R_drew)); exact HO569.out, bz⟩
def dioramaref02_Meet.f (k : Nat) (l0 : List (S53)) (l1 : List (S53)) : Option ((List (S53)) × Int) := (dioramaref02_combined.f k l0 l1 1).bind fun bt573 => (some (bt573.1, bt573.2))
set_option maxHeartbeats 8000000 in
set_option maxRecDepth 100000 in
theorem dioramaref02_Meet.calls (k : Nat) (A0 : Option Addr) (c0 : Nat) (l0 : List (S53)) (A1 : Option Addr) (c1 : Nat) (l1 : List (S53)) (r1 : List (S53)) (r2 : Int) (w : World) (hr0 : Kd.C k53 w A0 l0.length l0) (hc0 : l0.length ≤ c0) (hr1 : Kd.C k53 w A1 l1.length l1) (hc1 : l1.length ≤ c1) (h : dioramaref02_Meet.f k l0 l1 = some (r1, r2)) :
  Calls Tryz.prog 23 #[.slice A0 l0.length c0, .slice A1 l1.length c1] w fun e w' => ∃ v0_ : Value, e = .returned (.tuple #[v0_, .int .i64 r2]) ∧ Kd.R k53 53 w' w.heap.size (fun _ => True) v0_ r1 ∧ Below w.heap.size w w' := by
 have HR0 := Aside0.mk hr0; have HC0 := Aside0.mk hc0; clear hr0 hc0; have HR1 := Aside0.mk hr1; have HC1 := Aside0.mk hc1; clear hr1 hc1; have HB := Aside0.mk (Below.refl w.heap.size w); have H : ((dioramaref02_combined.f k l0 l1 1).bind fun bt573 => (some (bt573.1, bt573.2))) = some (r1, r2) := h
 clear h; obtain ⟨⟨t573, t574⟩, A3, H⟩ := ob H
 (try dsimp only at H)
 simp only [Option.some.injEq, Prod.mk.injEq] at H; obtain ⟨rfl, rfl⟩ := H
 go_enter Tryz.func23, Tryz.ntmps23
 go_wp2_with (first | ((with_reducible refine gate_callee (f := 45) rfl ?_); refine zC 8 Tryz.func45 #[.slice A0 l0.length c0, .slice A1 l1.length c1, .int .i64 1] ?_; (with_reducible refine (dioramaref02_combined.calls k _ _ l0 _ _ l1 1 t573 t574 _ ?side1 ?side2 ?side3 ?side4 A3.out).mono ?_); (case side1 => repeat (first | exact HR0.out | (with_reducible refine Kd.C_alloc ?_ _) | (with_reducible refine Kd.C_drewN ?_ _) | (with_reducible refine Kd.C_drew ?_))); (case side2 => exact HC0.out); (case side3 => repeat (first | exact HR1.out | (with_reducible refine Kd.C_alloc ?_ _) | (with_reducible refine Kd.C_drewN ?_ _) | (with_reducible refine Kd.C_drew ?_))); (case side4 => exact HC1.out); rintro e w4 ⟨v575, rfl, ho0, hb⟩; refine ⟨_, rfl, ?_⟩; have HO576 := Aside0.mk (Kd.R_lower ho0 sz); replace HB := bp hb; clear hb ho0))
 go_ret2
 exact ⟨_, ez, by (with_reducible repeat (first | apply Kd.R_alloc | apply Kd.R_drewN | apply Kd.R_drew)); exact HO576.out, bz⟩
def dioramaref02_Without.f (k : Nat) (l0 : List (S53)) (l1 : List (S53)) : Option ((List (S53)) × Int) := (dioramaref02_combined.f k l0 l1 2).bind fun bt580 => (some (bt580.1, bt580.2))
set_option maxHeartbeats 8000000 in
set_option maxRecDepth 100000 in
theorem dioramaref02_Without.calls (k : Nat) (A0 : Option Addr) (c0 : Nat) (l0 : List (S53)) (A1 : Option Addr) (c1 : Nat) (l1 : List (S53)) (r1 : List (S53)) (r2 : Int) (w : World) (hr0 : Kd.C k53 w A0 l0.length l0) (hc0 : l0.length ≤ c0) (hr1 : Kd.C k53 w A1 l1.length l1) (hc1 : l1.length ≤ c1) (h : dioramaref02_Without.f k l0 l1 = some (r1, r2)) :
  Calls Tryz.prog 25 #[.slice A0 l0.length c0, .slice A1 l1.length c1] w fun e w' => ∃ v0_ : Value, e = .returned (.tuple #[v0_, .int .i64 r2]) ∧ Kd.R k53 53 w' w.heap.size (fun _ => True) v0_ r1 ∧ Below w.heap.size w w' := by
 have HR0 := Aside0.mk hr0; have HC0 := Aside0.mk hc0; clear hr0 hc0; have HR1 := Aside0.mk hr1; have HC1 := Aside0.mk hc1; clear hr1 hc1; have HB := Aside0.mk (Below.refl w.heap.size w); have H : ((dioramaref02_combined.f k l0 l1 2).bind fun bt580 => (some (bt580.1, bt580.2))) = some (r1, r2) := h
 clear h; obtain ⟨⟨t580, t581⟩, A3, H⟩ := ob H
 (try dsimp only at H)
 simp only [Option.some.injEq, Prod.mk.injEq] at H; obtain ⟨rfl, rfl⟩ := H
 go_enter Tryz.func25, Tryz.ntmps25
 go_wp2_with (first | ((with_reducible refine gate_callee (f := 45) rfl ?_); refine zC 8 Tryz.func45 #[.slice A0 l0.length c0, .slice A1 l1.length c1, .int .i64 2] ?_; (with_reducible refine (dioramaref02_combined.calls k _ _ l0 _ _ l1 2 t580 t581 _ ?side1 ?side2 ?side3 ?side4 A3.out).mono ?_); (case side1 => repeat (first | exact HR0.out | (with_reducible refine Kd.C_alloc ?_ _) | (with_reducible refine Kd.C_drewN ?_ _) | (with_reducible refine Kd.C_drew ?_))); (case side2 => exact HC0.out); (case side3 => repeat (first | exact HR1.out | (with_reducible refine Kd.C_alloc ?_ _) | (with_reducible refine Kd.C_drewN ?_ _) | (with_reducible refine Kd.C_drew ?_))); (case side4 => exact HC1.out); rintro e w4 ⟨v582, rfl, ho0, hb⟩; refine ⟨_, rfl, ?_⟩; have HO583 := Aside0.mk (Kd.R_lower ho0 sz); replace HB := bp hb; clear hb ho0))
 go_ret2
 exact ⟨_, ez, by (with_reducible repeat (first | apply Kd.R_alloc | apply Kd.R_drewN | apply Kd.R_drew)); exact HO583.out, bz⟩
end Go.Proofs.YtekommcfpjonmaaGreat.E
namespace Go.Proofs.YtekommcfpjonmaaGreat.E
open Go.Proofs.YtekommcfpjonmaaGreat.Z Go.RowKit Go.Proofs.YtekommcfpjonmaaGreatW.PrintWords Go.Proofs.YtekommcfpjonmaaGreatW.PrintLast Go.Proofs.YtekommcfpjonmaaGreatW.PrintMore
attribute [local go_sem] max2_int min2_int max_two min_two max_three min_three max_four min_four
set_option linter.unusedVariables false
set_option linter.unusedSimpArgs false
attribute [local go_sem high] eqA24
end Go.Proofs.YtekommcfpjonmaaGreat.E
namespace Go.Proofs.YtekommcfpjonmaaGreat.E
open Go.Proofs.YtekommcfpjonmaaGreat.Z Go.RowKit Go.Proofs.YtekommcfpjonmaaGreatW.PrintWords Go.Proofs.YtekommcfpjonmaaGreatW.PrintLast Go.Proofs.YtekommcfpjonmaaGreatW.PrintMore
attribute [local go_sem] max2_int min2_int max_two min_two max_three min_three max_four min_four
set_option linter.unusedVariables false
set_option linter.unusedSimpArgs false
mutual
def exact_gcd.j0 : Nat → Int → Int → Option (Int)
  | 0, _, _ => none
  | k + 1, x0, x1 => exact_gcd.l0 k x0 x1
def exact_gcd.l0 : Nat → Int → Int → Option (Int)
  | 0, _, _ => none
  | k + 1, x0, x1 => if x1 = 0 then (some x0) else (exact_gcd.l0 k x1 (Int.tmod x0 x1))
end
def exact_gcd.f (k : Nat) (a0 : Int) (a1 : Int) : Option (Int) := if a0 < 0 then (exact_gcd.j0 k (wrap64 (-a0)) a1) else (exact_gcd.j0 k a0 a1)
set_option maxHeartbeats 8000000 in
set_option maxRecDepth 100000 in
theorem exact_gcd.calls (k : Nat) (a0 : Int) (a1 : Int) (r : Int) (w : World) (h : exact_gcd.f k a0 a1 = some r) :
  Calls Tryz.prog 134 #[.int .i64 a0, .int .i64 a1] w fun e w' => e = .returned (.int .i64 r) ∧ Drawn0 w w' := by
 have H : (if a0 < 0 then (exact_gcd.j0 k (wrap64 (-a0)) a1) else (exact_gcd.j0 k a0 a1)) = some r := h; clear h; have HC3 := Aside0.mk H; clear H
 go_enter Tryz.func134, Tryz.ntmps134
 go_upto_if 6 with (fail)
 repeat (go_quiet (fail); go_upto_if 6 with (fail))
 go_cut [0] (fun v0 wc => ∃ (kq : Nat) (x0_2 : Int), v0 = .int .i64 x0_2 ∧ Aside0 (exact_gcd.j0 kq x0_2 a1 = some r) ∧ Aside0 (kq ≤ k) ∧ Drawn0 w wc)
 case first =>
  have H := HC3.out; clear HC3
  by_cases c4 : a0 < 0
  ·rw [if_pos c4] at H; have c4b0 : decide (a0 < 0) = true := decide_eq_true c4; clear c4
   (first | rw [c4b0] | (simp only [i64_w, i32_w]; rw [c4b0]) | skip)
   have H' := Aside0.mk H; clear H
   go_wp2
   repeat (go_quiet (fail); try go_wp2)
   go_meet
   case rel => exact ⟨_, (wrap64 (-a0)), jz, H', ⟨by first | omega | exact Nat.le_refl _⟩, by repeat (first | exact Drawn0.refl _ | apply Drawn0.step)⟩
  ·rw [if_neg c4] at H; have c4b0 : decide (a0 < 0) = false := decide_eq_false c4; clear c4
   (first | rw [c4b0] | (simp only [i64_w, i32_w]; rw [c4b0]) | skip)
   have H' := Aside0.mk H; clear H
   go_wp2
   repeat (go_quiet (fail); try go_wp2)
   go_meet
   case rel => exact ⟨_, (a0), jz, H', ⟨by first | omega | exact Nat.le_refl _⟩, by repeat (first | exact Drawn0.refl _ | apply Drawn0.step)⟩
 case rest =>
  clear HC3
  try clear c1
  try clear p2
  try clear c4
  try clear c4b0
  obtain ⟨kq, x0_2, rfl, HA, HJ2, ⟨mc2, rfl⟩⟩ := hcut
  cases kq with
  | zero => exact absurd HA.out (by simp [exact_gcd.j0])
  | succ kj2 =>
   have H := HA.out; clear HA; simp only [exact_gcd.j0] at H; have H' := Aside0.mk H; clear H
   go_wp2
   repeat (go_quiet (fail); try go_wp2)
   go_loopg [0, 1] kj2 (fun kq v0 v1 w' => ∃ (x0_2 : Int) (x1_2 : Int), v0 = .int .i64 x0_2 ∧ v1 = .int .i64 x1_2 ∧ Aside0 (exact_gcd.l0 kq x0_2 x1_2 = some r) ∧ Aside0 (kq ≤ kj2) ∧ Drawn0 w w')
   case atStart => exact ⟨(x0_2), (a1), jz, jz, H', ⟨Nat.le_refl _⟩, by repeat (first | exact Drawn0.refl _ | apply Drawn0.step)⟩
   case round =>
    clear H'
    try clear c1
    try clear c2
    try clear p2
    try clear c4
    try clear c4b0
    try clear p2
    obtain ⟨x0_2, x1_2, rfl, rfl, HA, HK2, ⟨m2, rfl⟩⟩ := hrel
    cases gk with
    | zero => exact absurd HA.out (by simp [exact_gcd.l0])
    | succ k2 =>
     have H := HA.out; clear HA; simp only [exact_gcd.l0] at H
     by_cases c5 : x1_2 = 0
     ·rw [if_pos c5] at H; have c5b0 : (x1_2 == 0) = true := beq_iff_eq.mpr c5; have c5b1 : (x1_2 != 0) = false := bne_eq_false_iff_eq.mpr c5; clear c5; obtain rfl := Option.some.inj H
      go_wp2
      repeat (go_quiet (fail); try go_wp2)
      go_ret
      exact ⟨by first | rfl | (simp; done) | (simp [*]; done), by repeat (first | exact Drawn0.refl _ | apply Drawn0.step)⟩
     ·rw [if_neg c5] at H; have c5b0 : (x1_2 == 0) = false := beq_eq_false_iff_ne.mpr c5; have c5b1 : (x1_2 != 0) = true := bne_iff_ne.mpr c5; have H' := Aside0.mk H; clear H
      go_wp2
      repeat (go_quiet (fail); try go_wp2)
      go_roundg k2
      case measure => have := HJ2.out; have := HK2.out; omega
      case rel => exact ⟨(x1_2), (Int.tmod x0_2 x1_2), jz, jz, H', ⟨by have := HJ2.out; have := HK2.out; omega⟩, by repeat (first | exact Drawn0.refl _ | apply Drawn0.step)⟩
def exact_lowest.f (k : Nat) (a0 : Int) (a1 : Int) : Option (Int × Int) := (exact_gcd.f k a0 a1).bind fun t687 => (if t687 = 0 then (none) else (some (wrap64 (Int.tdiv a0 t687), wrap64 (Int.tdiv a1 t687))))
set_option maxHeartbeats 8000000 in
set_option maxRecDepth 100000 in
theorem exact_lowest.calls (k : Nat) (a0 : Int) (a1 : Int) (r1 : Int) (r2 : Int) (w : World) (h : exact_lowest.f k a0 a1 = some (r1, r2)) :
  Calls Tryz.prog 88 #[.int .i64 a0, .int .i64 a1] w fun e w' => e = .returned (.agg #[.int .i64 r1, .int .i64 r2]) ∧ Below w.heap.size w w' := by
 have hu24 := Tryz.underlying24; have HB := Aside0.mk (Below.refl w.heap.size w); have H : ((exact_gcd.f k a0 a1).bind fun t687 => (if t687 = 0 then (none) else (some (wrap64 (Int.tdiv a0 t687), wrap64 (Int.tdiv a1 t687))))) = some (r1, r2) := h
 clear h; obtain ⟨t687, A3, H⟩ := ob H
 by_cases c4 : t687 = 0
 ·rw [if_pos c4] at H
  exact absurd H (by simp)
 ·rw [if_neg c4] at H; have c4b0 : (t687 == 0) = false := beq_eq_false_iff_ne.mpr c4; have c4b1 : (t687 != 0) = true := bne_iff_ne.mpr c4; simp only [Option.some.injEq, Prod.mk.injEq] at H; obtain ⟨rfl, rfl⟩ := H
  go_enter Tryz.func88, Tryz.ntmps88
  try go_wp2_with (first | ((with_reducible refine gate_dst (N := 4) rfl ?_); refine zB 4 24 #[.int .i64 0, .int .i64 0] ?_; intro gb686 hg w5 hbox hb; have BK686 := Aside0.mk hbox; have GW686 := gz hg; have GE686 := gz hg; replace HB := bp hb; clear hb hbox hg) | ((with_reducible refine gate_callee (f := 134) rfl ?_); refine zC 8 Tryz.func134 #[.int .i64 a0, .int .i64 a1] ?_; (with_reducible refine (exact_gcd.calls k a0 a1 t687 _ A3.out).mono ?_); rintro e w' ⟨rfl, ⟨nd, rfl⟩⟩; refine ⟨_, rfl, ?_⟩; (try (rw [drewN_self w5]; generalize hq_ : World.drewN w5 _ = w5; have n0_ : Aside0 (w5.heap[gb686]? = some (.cells #[.int .i64 0, .int .i64 0] 24 (0, 0))) := ⟨by rw [← hq_]; exact kz⟩; have n1_ : Aside0 (Below w.heap.size w w5) := ⟨by rw [← hq_]; exact bz⟩; clear BK686 HB hq_; have BK686 := n0_; have HB := n1_; clear n0_ n1_))))
  replace BK686 := Aside0.mk (blk_drew BK686.out); replace HB := Aside0.mk (below_drew1 HB.out); refine start_ (n := 8) (S := fun w' => True) (ds := []) (bs 8 0) (by kernel_rfl) rfl rfl trivial (fun hHeld => ?_); generalize w5.drew = w6 at BK686 HB hHeld ⊢; refine zP 0 9 8 1 ?_; refine zP 1 10 8 3 ?_; refine zP 2 11 8 7 ?_; refine zP 3 12 8 15 ?_; refine zP 4 13 8 31 ?_; refine zP 5 14 8 63 ?_; refine zP 6 15 8 127 ?_; refine zN 7 none 8 255 (fun K hK => ?_); have hs7 : w6.cell? ⟨gb686, 0, none⟩ = some (.int .i64 0) := ct BK686 0; have hfs7 := blk_frozen BK686.out 0; have hs8 : w6.cell? ⟨gb686, 1, none⟩ = some (.int .i64 0) := ct BK686 1; have hfs8 := blk_frozen BK686.out 1; refine skip_ (w1 := ?_) (by rfl) rfl ?_ ?_
  rotate_left
  ·go_simp
   rfl
  refine hK.out _ _ trivial (fun hHeld => ?_); clear hK K; refine done_ (by kernel_rfl) ?_
  try go_wp2
  refine bodyPost_ret (results_cell_row rfl _ _ gb686 24 #[.int .i64 (wrap64 (Int.tdiv a0 t687)), .int .i64 (wrap64 (Int.tdiv a1 t687))] (0, 0) _ rfl (by (with_reducible repeat (first | refine blk_drewN ?_ _ | refine blk_drew ?_ | refine blk_alloc ?_ _)); refine blk_put (cs := #[.int .i64 (wrap64 (Int.tdiv a0 t687)), .int .i64 0]) ?_ 1 _ rfl; (with_reducible repeat (first | refine blk_drewN ?_ _ | refine blk_drew ?_ | refine blk_alloc ?_ _)); refine blk_put (cs := #[.int .i64 0, .int .i64 0]) ?_ 0 _ rfl; (with_reducible repeat (first | refine blk_drewN ?_ _ | refine blk_drew ?_ | refine blk_alloc ?_ _)); exact BK686.out) Tryz.underlying24 rfl (by kernel_rfl)) rfl ?_
  exact ⟨ez, bz⟩
end Go.Proofs.YtekommcfpjonmaaGreat.E
namespace Go.Proofs.YtekommcfpjonmaaGreat.Ea
open Go.RowKit Go Go.Proofs.YtekommcfpjonmaaGreatW.PrintWords Go.Proofs.YtekommcfpjonmaaGreatW.PrintLast Go.Proofs.YtekommcfpjonmaaGreatW.PrintMore Go.Proofs.YtekommcfpjonmaaGreat.Ml Go.Proofs.YtekommcfpjonmaaGreat.Mn Go.Proofs.YtekommcfpjonmaaGreat.Nd Go.Proofs.YtekommcfpjonmaaGreat.Z Go.Proofs.YtekommcfpjonmaaGreat.P Go.Proofs.YtekommcfpjonmaaGreat.Nc Go.Proofs.YtekommcfpjonmaaGreat.Nb Go.Proofs.YtekommcfpjonmaaGreat.Qa Go.Proofs.YtekommcfpjonmaaGreat.Qb Go.Proofs.YtekommcfpjonmaaGreat.E
set_option linter.unusedVariables false
set_option linter.unusedSimpArgs false
theorem gcd_l (y : Nat) : ∀ x k : Nat, y < k → exact_gcd.l0 k (x : Int) (y : Int) = some ((Nat.gcd x y : Nat) : Int) := by
 induction y using Nat.strongRecOn with
 | _ y ih =>
  intro x k hk
  obtain ⟨k, rfl⟩ : ∃ j, k = j + 1 := ⟨k - 1, by omega⟩
  unfold exact_gcd.l0
  by_cases hy : y = 0
  ·subst hy
   simp
  ·rw [if_neg (by omega)]
   have e : Int.tmod (x : Int) (y : Int) = ((x % y : Nat) : Int) := by rw [Int.tmod_eq_emod_of_nonneg (by omega)]; simp
   rw [e, ih (x % y) (Nat.mod_lt _ (by omega)) y k (by have := Nat.mod_lt x (show y > 0 by omega); omega)]
   congr 2
   rw [Nat.gcd_comm x y, Nat.gcd_rec y x, Nat.gcd_comm]
theorem gcd_f (a : Int) (b : Nat) (k : Nat) (h0 : -9223372036854775807 ≤ a) (h1 : a ≤ 9223372036854775807) (hk : b + 1 < k) : exact_gcd.f k a (b : Int) = some ((Int.gcd a b : Nat) : Int) := by
 obtain ⟨k, rfl⟩ : ∃ j, k = j + 1 := ⟨k - 1, by omega⟩
 have ej : ∀ x y, exact_gcd.j0 (k + 1) x y = exact_gcd.l0 k x y := fun _ _ => by unfold exact_gcd.j0; rfl
 unfold exact_gcd.f
 rw [ej, ej]
 by_cases ha : a < 0
 ·rw [if_pos ha, w64 (by omega) (by omega)]
  obtain ⟨n, hn⟩ : ∃ n : Nat, -a = (n : Int) := ⟨(-a).toNat, by omega⟩
  rw [hn, gcd_l b n k (by omega)]
  have : Int.gcd a b = Nat.gcd n b := by
   rw [show a = -(n : Int) by omega, Int.neg_gcd]; rfl
  rw [this]
 ·rw [if_neg ha]
  obtain ⟨n, rfl⟩ : ∃ n : Nat, a = (n : Int) := ⟨a.toNat, by omega⟩
  rw [gcd_l b n k (by omega)]
  rfl
def lowN (n d : Int) : Int := n / (Int.gcd n d : Int)
def lowD (n d : Int) : Int := d / (Int.gcd n d : Int)
theorem div_bound {n g : Int} (hg : 1 ≤ g) {m : Int} (h0 : -m ≤ n) (h1 : n ≤ m) (hd : g ∣ n) : -m ≤ n / g ∧ n / g ≤ m := by
 obtain ⟨q, rfl⟩ := hd
 rw [Int.mul_ediv_cancel_left _ (by omega)]
 have hm : 0 ≤ m := by omega
 rcases Int.lt_or_le q 0 with h | h
 ·have : g * (-q) ≥ 1 * (-q) := Int.mul_le_mul_of_nonneg_right hg (by omega)
  rw [Int.mul_neg] at this
  omega
 ·have : g * q ≥ 1 * q := Int.mul_le_mul_of_nonneg_right hg h
  omega
theorem lowest_f (n : Int) (d : Int) (h0 : -9223372036854775807 ≤ n) (h1 : n ≤ 9223372036854775807) (hd : 1 ≤ d) (hd1 : d ≤ 9223372036854775807) : ∃ k, exact_lowest.f k n d = some (lowN n d, lowD n d) := by
 obtain ⟨m, rfl⟩ : ∃ m : Nat, d = (m : Int) := ⟨d.toNat, by omega⟩
 refine ⟨m + 2, ?_⟩
 unfold exact_lowest.f lowN lowD
 rw [gcd_f n m (m + 2) h0 h1 (by omega), Option.bind_some]
 have hg : 1 ≤ ((Int.gcd n m : Nat) : Int) := by
  have := Int.gcd_pos_of_ne_zero_right n (show (m : Int) ≠ 0 by omega)
  omega
 have d1 : ((Int.gcd n m : Nat) : Int) ∣ n := Int.gcd_dvd_left n m
 have d2 : ((Int.gcd n m : Nat) : Int) ∣ (m : Int) := Int.gcd_dvd_right n m
 rw [if_neg (by omega), Int.tdiv_eq_ediv_of_dvd d1, Int.tdiv_eq_ediv_of_dvd d2]
 have b1 := div_bound hg h0 h1 d1
 have b2 := div_bound hg (m := 9223372036854775807) (by omega) hd1 d2
 rw [w64 (by omega) (by omega), w64 (by omega) (by omega)]
def isScale (s : Int) : Bool := decide (1 ≤ s) && decide (s ≤ 1000000)
def isTicks (s : Int) : Bool := decide (-1099511627776 ≤ s) && decide (s ≤ 1099511627776)
def isHow (h : Int) : Bool := decide (h = 0) || decide (h = 1) || decide (h = 2)
def valid (n d : Int) : Bool := decide (1 ≤ d) && decide (d ≤ 1152921504606846976) && decide (-1152921504606846976 ≤ n) && decide (n ≤ 1152921504606846976)
def tm (n d : Int) : Value := .agg #[.int .i64 n, .int .i64 d]
def er (e : Int) : Value := .int .i64 e
set_option maxHeartbeats 1000000 in
theorem isScale_n (s : Int) (w : World) : Calls Tryz.prog 78 #[.int .i64 s] w (fun e w' => e = .returned (.bool (isScale s)) ∧ w = w') := by
 go_enter Tryz.func78, Tryz.ntmps78
 go_wp2
 all_goals
  go_ret
  refine ⟨ret_b ?_, rfl⟩
  unfold isScale
  first | (simp_all; done) | (simp_all; omega) | grind
set_option maxHeartbeats 1000000 in
theorem isTicks_n (s : Int) (w : World) : Calls Tryz.prog 132 #[.int .i64 s] w (fun e w' => e = .returned (.bool (isTicks s)) ∧ w = w') := by
 go_enter Tryz.func132, Tryz.ntmps132
 go_wp2
 all_goals
  go_ret
  refine ⟨ret_b ?_, rfl⟩
  unfold isTicks
  first | (simp_all; done) | (simp_all; omega) | grind
set_option maxHeartbeats 1000000 in
theorem isHow_n (s : Int) (w : World) : Calls Tryz.prog 79 #[.int .i64 s] w (fun e w' => e = .returned (.bool (isHow s)) ∧ w = w') := by
 go_enter Tryz.func79, Tryz.ntmps79
 go_wp2
 all_goals
  go_ret
  refine ⟨ret_b ?_, rfl⟩
  unfold isHow
  first | (simp_all; done) | (simp_all; omega) | grind
set_option maxHeartbeats 2000000 in
set_option maxRecDepth 100000 in
theorem Valid_n (n d : Int) (w : World) : Calls Tryz.prog 38 #[tm n d] w (fun e w' => e = .returned (.bool (valid n d)) ∧ Below w.heap.size w w') := by
 have hu := Tryz.underlying24
 unfold tm
 go_enter Tryz.func38, Tryz.ntmps38
 go_wp2
 all_goals
  go_ret
  refine ⟨ret_b ?_, below_alloc (Below.refl _ _) _⟩
  unfold valid
  first | (simp_all; done) | (simp_all; omega) | grind
end Go.Proofs.YtekommcfpjonmaaGreat.Ea
namespace Go.Proofs.YtekommcfpjonmaaGreat.Ra
open Go.RowKit Go Go.Proofs.YtekommcfpjonmaaGreatW.PrintWords Go.Proofs.YtekommcfpjonmaaGreatW.PrintLast Go.Proofs.YtekommcfpjonmaaGreatW.PrintMore Go.Proofs.YtekommcfpjonmaaGreat.Ml Go.Proofs.YtekommcfpjonmaaGreat.Mn Go.Proofs.YtekommcfpjonmaaGreat.Nd Go.Proofs.YtekommcfpjonmaaGreat.Z Go.Proofs.YtekommcfpjonmaaGreat.P Go.Proofs.YtekommcfpjonmaaGreat.Nc Go.Proofs.YtekommcfpjonmaaGreat.Nb Go.Proofs.YtekommcfpjonmaaGreat.Da Go.Proofs.YtekommcfpjonmaaGreat.Qa Go.Proofs.YtekommcfpjonmaaGreat.Qb Go.Proofs.YtekommcfpjonmaaGreat.Ea
set_option linter.unusedVariables false
set_option linter.unusedSimpArgs false
def ratN (n d : Int) : Int := if d < 0 then lowN (-n) (-d) else lowN n d
def ratD (n d : Int) : Int := if d < 0 then lowD (-n) (-d) else lowD n d
structure GcI (w0 w : World) (a b : Int) (n : Nat) (vg vr : Value) (k : Nat) : Prop where mk ::
 at_ : ∃ Ag cg lg Ar cr lr, vg = .slice Ag (List.length lg) cg ∧ vr = .slice Ar (List.length lr) cr ∧ lg.length ≤ cg ∧ lr.length ≤ cr ∧ Kd.C (Kd.int .u32) w Ag lg.length lg ∧ Kd.C (Kd.int .u32) w Ar lr.length lr ∧ Cn 4294967296 lg ∧ Cn 4294967296 lr ∧ lg.length ≤ n ∧ lr.length ≤ n ∧ Int.gcd (dv 4294967296 lg) (dv 4294967296 lr) = Int.gcd a b ∧ dv 4294967296 lr ≤ (k : Int)
 b : Below w0.heap.size w0 w
theorem dv_pos {l : List Int} (h : Cn 4294967296 l) (hl : l ≠ []) : 0 < dv 4294967296 l := by
 have h1 := dv_len (a := []) (by decide) (Dg.nil _) h (by cases l with | nil => exact absurd rfl hl | cons x t => simp)
 simpa only [dv] using h1
theorem gcd_step {x y q r : Int} (h : x = q * y + r) : Int.gcd y r = Int.gcd x y := by
 rw [h, Int.gcd_comm (q * y + r) y, Int.mul_comm]
 simp
theorem quo_exact {x g q r : Int} (hg : 0 < g) (hd : g ∣ x) (h0 : 0 ≤ r) (h1 : r < g) (h : x = q * g + r) : q = x / g := by
 have : x / g = q := by
  rw [h, Int.add_comm, Int.add_mul_ediv_right _ _ (by omega), Int.ediv_eq_zero_of_lt h0 h1]
  omega
 exact this.symm
theorem sg_quo {na nb : Bool} {a b A B G : Int} (ha : a = sg na A) (hb : b = sg nb B) (hA : 0 ≤ A) (hB : 0 < B) (hG : G = (Int.gcd a b : Nat)) : sg (!(na == nb)) (A / G) = ratN a b ∧ B / G = ratD a b := by
 have e : ∀ n : Int, Int.gcd (-n) b = Int.gcd n b := fun n => Int.neg_gcd
 have dA : G ∣ A := by
  have : G ∣ a := by rw [hG]; exact Int.gcd_dvd_left _ _
  rw [ha] at this
  cases na
  ·simpa [sg] using this
  ·simpa [sg] using this
 unfold ratN ratD lowN lowD
 cases nb with
 | true =>
  have hb' : b = -B := by simpa [sg] using hb
  rw [if_pos (by omega), if_pos (by omega)]
  rw [show Int.gcd (-a) (-b) = Int.gcd a b by rw [Int.neg_gcd, Int.gcd_neg], ← hG, hb', Int.neg_neg]
  cases na with
  | true =>
   have ha' : a = -A := by simpa [sg] using ha
   rw [ha', Int.neg_neg]
   exact ⟨rfl, rfl⟩
  | false =>
   have ha' : a = A := by simpa [sg] using ha
   rw [ha', Int.neg_ediv_of_dvd dA]
   exact ⟨rfl, rfl⟩
 | false =>
  have hb' : b = B := by simpa [sg] using hb
  rw [if_neg (by omega), if_neg (by omega), ← hG, hb']
  cases na with
  | true =>
   have ha' : a = -A := by simpa [sg] using ha
   rw [ha', Int.neg_ediv_of_dvd dA]
   exact ⟨rfl, rfl⟩
  | false =>
   have ha' : a = A := by simpa [sg] using ha
   rw [ha']
   exact ⟨rfl, rfl⟩
theorem sg_dvd {s : Bool} {x z g : Int} (h : z = sg s x) (hd : g ∣ z) : g ∣ x := by
 subst h
 cases s
 ·simpa [sg] using hd
 ·simpa [sg] using hd
def SfP (w : World) (gx : Nat) (a b : Int) (na nb B : Nat) (e : Ending) (w' : World) : Prop := e = .returned (.pointer (some ⟨gx, 0, none⟩)) ∧ Below B w w' ∧ IsN w' gx 0 (ratN a b) na ∧ IsN w' gx 2 (ratD a b) nb
theorem sg_bne (a b : Bool) : (a != b) = !(a == b) := by cases a <;> cases b <;> rfl
set_option maxHeartbeats 8000000 in
set_option maxRecDepth 100000 in
theorem setFrac_n (gx ga oa gb ob : Nat) (a b : Int) (na nb B : Nat) (w : World) (hx0 : Room w gx 0) (hx2 : Room w gx 2) (ha : IsN w ga oa a na) (hb : IsN w gb ob b nb) (hbp : b ≠ 0) (hl : na + nb ≤ 1000) (hB1 : B ≤ gx) :
  Calls Tryz.prog 135 #[.pointer (some ⟨gx, 0, none⟩), .pointer (some ⟨ga, oa, none⟩), .pointer (some ⟨gb, ob, none⟩)] w (SfP w gx a b na nb B) := by
 obtain ⟨nega, Aa, cca, la, sa, hca, ra, ca, hla, hza, qa⟩ := ha.open
 obtain ⟨negb, Ab, ccb, lb, sb, hcb, rb, cb, hlb, hzb, qb⟩ := hb.open
 have a1 := sa.cell1
 have b1 := sb.cell1
 have lgx := hx0.lt
 go_enter Tryz.func135, Tryz.ntmps135
 go_wp2_with fail
 refine start_ (n := 11) (S := fun w' => w'.cell? ⟨ga, oa + 1, none⟩ = some (.slice Aa la.length cca) ∧ w'.cell? ⟨gb, ob + 1, none⟩ = some (.slice Ab lb.length ccb)) (ds := []) (bs 11 0) (by kernel_rfl) rfl rfl ⟨a1, b1⟩ (fun hHeld => ?_)
 refine zP 0 16 11 1 ?_
 refine zP 1 17 11 3 ?_
 refine zP 2 18 11 7 ?_
 refine zP 5 21 11 39 ?_
 refine zP 6 22 11 103 ?_
 refine zP 7 23 11 231 ?_
 refine zT 3 19 11 239 hHeld ?_
 refine zT 8 24 11 495 hHeld ?_
 refine zN 4 (some 20) 11 511 (fun K hK => ?_)
 refine zG Tryz.func158 #[.slice Aa la.length cca] ?_
 with_reducible refine (clone_n Aa cca la w.drew hca (Kd.C_drew ra) (by omega)).mono ?_
 rintro e w2 ⟨v4, rfl, hM4, hb4⟩
 refine ⟨_, rfl, ?_⟩
 have hb4' := below_drew' hb4
 refine hK.out _ _ ⟨(sa.below hb4').cell1, (sb.below hb4').cell1⟩ (fun hHeld => ?_)
 clear hK K
 refine zM 20 ?_
 refine zP 9 7 11 1023 ?_
 refine zP 10 8 11 2047 ?_
 refine done_ (by kernel_rfl) ?_
 obtain ⟨A4, c4, rfl, hc4, r4⟩ := hM4
 have HI := Aside0.mk (show GcI w w2 a b (na + nb) (.slice A4 la.length c4) (.slice Ab lb.length ccb) (dv 4294967296 lb).toNat from
  ⟨⟨A4, c4, la, Ab, ccb, lb, rfl, rfl, hc4, hcb, r4, Kd.C_below rb hb4', ca, cb, by omega, by omega, by
   have p0 := dv_nonneg (by decide) ca.dg
   have p1 := dv_nonneg (by decide) cb.dg
   rw [hza, hzb]
   cases nega <;> cases negb <;> simp [sg, Int.neg_gcd, Int.gcd_neg], by have := dv_nonneg (by decide) cb.dg; omega⟩, hb4'⟩)
 have HH := Aside0.mk (And.intro ha (And.intro hb (And.intro hx0 hx2)))
 clear hHeld r4 hb4 hb4' hc4 a1 b1
 go_wp2_with fail
 go_loopg [7, 8] (dv 4294967296 lb).toNat (fun kq v7 v8 w' => Aside0 (GcI w w' a b (na + nb) v7 v8 kq))
 case atStart => exact HI
 case round =>
  clear HI
  obtain ⟨⟨⟨Ag, cg, lg, Ar, cr, lr, rfl, rfl, hcg, hcr, rg, rr, cag, car, hlg, hlr, hgc, hk⟩, hbw⟩⟩ := hrel
  by_cases hr : lr = []
  ·subst hr
   have hG : dv 4294967296 lg = (Int.gcd a b : Nat) := by
    have h0 := dv_nonneg (by decide) cag.dg
    rw [← hgc]
    simp only [dv, Int.gcd_zero]
    omega
   have hgp : 0 < dv 4294967296 lg := by
    have := Int.gcd_pos_of_ne_zero_right a hbp
    omega
   have hgn : lg ≠ [] := by rintro rfl; simp [dv] at hgp
   have sa' := sa.below hbw
   have sb' := sb.below hbw
   have a1 := sa'.cell1
   have b1 := sb'.cell1
   have RA := Aside0.mk (And.intro (Kd.C_below ra hbw) (And.intro (Kd.C_below rb hbw) rg))
   have HW := Aside0.mk (And.intro hbw (And.intro hG hgp))
   clear hbw hG hgp hgc hk rr rg
   go_wp2_with fail
   refine (divMag_n Aa cca la Ag cg lg wr hca RA.out.1 hcg RA.out.2.2 ca cag hgn (by omega) (by omega)).mono ?_
   rintro e w3 ⟨v0, v1, q1, r1, rfl, hq1, hr1, cq1, cr1, lq1, lr1, eq1, lt1, hb3⟩
   have a1' := (sa'.below hb3).cell1
   have b1' := (sb'.below hb3).cell1
   have K1 := Aside0.mk (And.intro hq1 (And.intro (quo_exact HW.out.2.2 (sg_dvd hza (HW.out.2.1 ▸ Int.gcd_dvd_left _ _)) (dv_nonneg (by decide) cr1.dg) lt1 eq1) hb3))
   clear hq1 hr1 cr1 lr1 eq1 lt1 a1 b1
   have hbw3 := HW.out.1.trans (hb3.mono HW.out.1.size)
   have HB3 := Aside0.mk hbw3
   go_wp2_with fail
   refine (divMag_n Ab ccb lb Ag cg lg w3 hcb (Kd.C_below RA.out.2.1 hb3) hcg (Kd.C_below RA.out.2.2 hb3) cb cag hgn (by omega) (by omega)).mono ?_
   rintro e w4 ⟨v2, v3, q2, r2, rfl, hq2, hr2, cq2, cr2, lq2, lr2, eq2, lt2, hb4⟩
   have hbw4 := hbw3.trans (hb4.mono hbw3.size)
   have sa4 := sa.below hbw4
   have sb4 := sb.below hbw4
   have a0 := sa4.cell0
   have b0 := sb4.cell0
   have K2 := Aside0.mk (And.intro hq2 (And.intro (quo_exact HW.out.2.2 (sg_dvd hzb (HW.out.2.1 ▸ Int.gcd_dvd_right _ _)) (dv_nonneg (by decide) cr2.dg) lt2 eq2) hb4))
   have HB4 := Aside0.mk hbw4
   clear hq2 hr2 cr2 lr2 eq2 lt2 a1' b1' hb3 hb4 hbw3 hbw4 sa' sb' HB3
   go_wp2_with fail
   refine start_ (n := 10) (S := fun w' => w'.cell? ⟨ga, oa, none⟩ = some (.bool nega) ∧ w'.cell? ⟨gb, ob, none⟩ = some (.bool negb)) (ds := []) (bs 10 0) (by kernel_rfl) rfl rfl ⟨a0, b0⟩ (fun hHeld => ?_)
   refine zP 0 54 10 1 ?_
   refine zP 1 55 10 3 ?_
   refine zP 2 56 10 7 ?_
   refine zP 4 58 10 23 ?_
   refine zP 5 59 10 55 ?_
   refine zP 6 60 10 119 ?_
   refine zT 3 57 10 127 hHeld ?_
   refine zT 7 61 10 255 hHeld ?_
   refine zP 8 62 10 511 ?_
   refine zP 9 15 10 1023 ?_
   refine done_ (by kernel_rfl) ?_
   have X := HH.out.2.2
   have hb5 : Below w4.heap.size w4 w4.drew := below_drew' (Below.refl _ _)
   have hbw5 := HB4.out.trans (hb5.mono HB4.out.size)
   go_wp2_with fail
   refine (set_n gx 0 v0 q1 (nega != negb) na w4.drew (X.1.below hbw5) ((K1.out.1.below K2.out.2.2).below hb5) cq1 (by omega)).mono ?_
   rintro e w6 ⟨rfl, hw6, hN6⟩
   have K3 := Aside0.mk (And.intro hw6 (And.intro hN6 (And.intro hbw5 ((K2.out.1.below hb5)))))
   clear hw6 hN6 hbw5 hb5 X
   go_wp2_with fail
   have hr2' : Room w6 gx 2 := by
    obtain ⟨n2, v2', h2⟩ := HH.out.2.2.2.below K3.out.2.2.1
    exact ⟨n2, v2', K3.out.1.slot h2 (.inr (by omega))⟩
   refine (set_n gx 2 v2 q2 false nb w6 hr2' (K3.out.1.mag (HH.out.2.2.1.below K3.out.2.2.1) K3.out.2.2.2) cq2 (by omega)).mono ?_
   rintro e w7 ⟨rfl, hw7, hN7⟩
   have K4 := Aside0.mk (And.intro hw7 hN7)
   clear hw7 hN7
   go_wp2_with fail
   go_ret
   have hsq := sg_quo hza hzb (dv_nonneg (by decide) ca.dg) (dv_pos cb (by rintro rfl; cases negb <;> simp [dv, sg] at hzb <;> exact hbp hzb)) HW.out.2.1
   rw [← K1.out.2.1, ← K2.out.2.1, ← sg_bne] at hsq
   have hs0 := K3.out.2.2.1.size
   refine ⟨rfl, ?_, hsq.1 ▸ K4.out.1.isN hr2' K3.out.2.1 (.inr (by omega)), hsq.2 ▸ K4.out.2⟩
   have hB : Below B w w4.drew := ⟨K3.out.2.2.1.os, K3.out.2.2.1.tape, K3.out.2.2.1.output, K3.out.2.2.1.size, fun i hi => K3.out.2.2.1.block i (by omega)⟩
   exact hB.trans ((K3.out.1.below hB1 (by omega)).trans (K4.out.1.below hB1 (by have := K3.out.1.size; omega)))
  ·cases gk with
   | zero =>
    exfalso
    have := dv_pos car hr
    omega
   | succ k1 =>
    have hpos : 0 < lr.length := by cases lr with | nil => exact absurd rfl hr | cons x t => simp
    have HW := Aside0.mk (And.intro hbw (And.intro hgc hk))
    have HR := Aside0.mk rr
    have HG := Aside0.mk rg
    clear hbw hgc hk rr rg
    go_wp2_with fail
    refine (divMag_n Ag cg lg Ar cr lr wr hcg HG.out hcr HR.out cag car hr (by omega) (by omega)).mono ?_
    rintro e w3 ⟨v0, v1, q1, r1, rfl, hq1, hr1, cq1, cr1, lq1, lr1, eq1, lt1, hb3⟩
    obtain ⟨A5, c5, rfl, hc5, r5⟩ := hr1
    have HW3 := Aside0.mk (HW.out.1.trans (hb3.mono HW.out.1.size))
    have HN := Aside0.mk (show GcI w w3 a b (na + nb) (.slice Ar lr.length cr) (.slice A5 r1.length c5) k1 from
     ⟨⟨Ar, cr, lr, A5, c5, r1, rfl, rfl, hcr, hc5, Kd.C_below HR.out hb3, r5, car, cr1, hlr, by omega, (gcd_step eq1).trans HW.out.2.1, by have := HW.out.2.2; omega⟩, HW3.out⟩)
    clear hq1 eq1 lt1 hb3 r5
    go_wp2_with fail
    go_roundg k1
    case measure => omega
    case rel => exact HN
theorem down_n (gx : Nat) (z : Int) (n : Nat) (w : World) (h : IsN w gx 2 z n) (hz : z ≠ 0) :
  Calls Tryz.prog 115 #[.pointer (some ⟨gx, 0, none⟩)] w (fun e w' => e = .returned (.pointer (some ⟨gx, 2, none⟩)) ∧ w = w') := by
 obtain ⟨neg, A, c, l, s, hc, r, cn, hl, hz2, q⟩ := h.open
 have a1 := s.cell1
 have hln : ((l.length : Int) == 0) = false := by
  cases l with
  | nil => exfalso; cases neg <;> simp [dv, sg] at hz2 <;> exact hz hz2
  | cons x t => simp; omega
 go_enter Tryz.func115, Tryz.ntmps115
 go_wp2_with fail
 go_ret
 exact ⟨rfl, rfl⟩
theorem denom_n (gx : Nat) (z : Int) (n : Nat) (w : World) (h : IsN w gx 2 z n) (hz : z ≠ 0) :
  Calls Tryz.prog 117 #[.pointer (some ⟨gx, 0, none⟩)] w (fun e w' => e = .returned (.pointer (some ⟨gx, 2, none⟩)) ∧ w = w') := by
 have HD := Aside0.mk (down_n gx z n w h hz)
 go_enter Tryz.func117, Tryz.ntmps117
 go_wp2_with fail
 refine HD.out.mono ?_
 rintro e w2 ⟨rfl, rfl⟩
 go_wp2_with fail
 go_ret
 exact ⟨rfl, rfl⟩
theorem num_n (gx : Nat) (w : World) :
  Calls Tryz.prog 116 #[.pointer (some ⟨gx, 0, none⟩)] w (fun e w' => e = .returned (.pointer (some ⟨gx, 0, none⟩)) ∧ w = w') := by
 go_enter Tryz.func116, Tryz.ntmps116
 go_wp2_with fail
 go_ret
 exact ⟨rfl, rfl⟩
end Go.Proofs.YtekommcfpjonmaaGreat.Ra
namespace Go.Proofs.YtekommcfpjonmaaGreat.Rf
open Go.RowKit Go Go.Proofs.YtekommcfpjonmaaGreatW.PrintWords Go.Proofs.YtekommcfpjonmaaGreatW.PrintLast Go.Proofs.YtekommcfpjonmaaGreatW.PrintMore Go.Proofs.YtekommcfpjonmaaGreat.Ml Go.Proofs.YtekommcfpjonmaaGreat.Mn Go.Proofs.YtekommcfpjonmaaGreat.Nd Go.Proofs.YtekommcfpjonmaaGreat.Z Go.Proofs.YtekommcfpjonmaaGreat.Ea Go.Proofs.YtekommcfpjonmaaGreat.Ra
set_option linter.unusedVariables false
set_option linter.unusedSimpArgs false
def qq (a b : Int) : Rat := Rat.divInt a b
theorem rat_low {a b : Int} (hb : b ≠ 0) : ratN a b = (qq a b).num ∧ ratD a b = ((qq a b).den : Int) := by
 unfold qq ratN ratD lowN lowD
 rw [Rat.num_divInt, Rat.den_divInt, if_neg hb]
 rcases Int.lt_or_le b 0 with h | h
 ·rw [if_pos h, if_pos h, Int.sign_eq_neg_one_of_neg h, Int.neg_gcd, Int.gcd_neg, Int.gcd_comm b a]
  refine ⟨by rw [Int.neg_one_mul], ?_⟩
  rw [Int.natCast_ediv, Int.ofNat_natAbs_of_nonpos (by omega)]
 ·rw [if_neg (by omega), if_neg (by omega), Int.sign_eq_one_of_pos (by omega), Int.gcd_comm b a]
  refine ⟨by rw [Int.one_mul], ?_⟩
  rw [Int.natCast_ediv, Int.natAbs_of_nonneg h]
def cmpQ (p q : Rat) : Int := if p < q then -1 else if q < p then 1 else 0
end Go.Proofs.YtekommcfpjonmaaGreat.Rf
namespace Go.Proofs.YtekommcfpjonmaaGreat.Sx
open Go.RowKit Go Go.Proofs.YtekommcfpjonmaaGreatW.PrintWords Go.Proofs.YtekommcfpjonmaaGreatW.PrintLast Go.Proofs.YtekommcfpjonmaaGreatW.PrintMore Go.Proofs.YtekommcfpjonmaaGreat.Mn Go.Proofs.YtekommcfpjonmaaGreat.Rf Go.Proofs.YtekommcfpjonmaaGreat.E Go.Proofs.YtekommcfpjonmaaGreat.Sg
set_option linter.unusedVariables false
set_option linter.unusedSimpArgs false
abbrev Tm := S24
abbrev Sn := S53
def vT (t : Tm) : Bool := Ea.valid t.f0 t.f1
def qT (t : Tm) : Rat := qq t.f0 t.f1
def lT (q : Rat) : Tm := ⟨q.num, (q.den : Int)⟩
theorem vT_is {t : Tm} (h : vT t = true) : (-1152921504606846976 ≤ t.f0 ∧ t.f0 ≤ 1152921504606846976) ∧ 1 ≤ t.f1 ∧ t.f1 ≤ 1152921504606846976 := by
 unfold vT Ea.valid at h
 simp only [Bool.and_eq_true, decide_eq_true_eq] at h
 omega
theorem qT_lT (q : Rat) : qT (lT q) = q := Rat.num_divInt_den q
theorem parts {a b : Int} (hb : 0 < b) : ∃ g : Int, 0 < g ∧ a = (qq a b).num * g ∧ b = ((qq a b).den : Int) * g := by
 obtain ⟨h1, h2⟩ := rat_low (a := a) (b := b) (by omega)
 refine ⟨(Int.gcd a b : Nat), ?_, ?_, ?_⟩
 ·have := Int.gcd_pos_of_ne_zero_right a (show b ≠ 0 by omega)
  omega
 ·rw [← h1]
  unfold Ra.ratN Ea.lowN
  rw [if_neg (by omega)]
  exact (Int.ediv_mul_cancel (Int.gcd_dvd_left a b)).symm
 ·rw [← h2]
  unfold Ra.ratD Ea.lowD
  rw [if_neg (by omega)]
  exact (Int.ediv_mul_cancel (Int.gcd_dvd_right a b)).symm
theorem vT_low {t : Tm} (h : vT t = true) : vT (lT (qT t)) = true := by
 have hv := vT_is h
 obtain ⟨g, hg, e1, e2⟩ := parts (a := t.f0) (b := t.f1) (by omega)
 unfold vT Ea.valid lT qT
 generalize hN : (qq t.f0 t.f1).num = N at *
 have hD0 : 0 < ((qq t.f0 t.f1).den : Int) := by have := (qq t.f0 t.f1).den_pos; omega
 generalize ((qq t.f0 t.f1).den : Int) = D at *
 have k1 : D ≤ D * g := by
  have := Int.mul_le_mul_of_nonneg_left (show 1 ≤ g by omega) (Int.le_of_lt hD0)
  omega
 have k2 : N ≤ 1152921504606846976 := by
  refine Int.not_lt.1 fun hc => ?_
  have := Int.mul_le_mul_of_nonneg_left (show 1 ≤ g by omega) (show 0 ≤ N by omega)
  omega
 have k3 : -1152921504606846976 ≤ N := by
  refine Int.not_lt.1 fun hc => ?_
  have := Int.mul_le_mul_of_nonneg_left (show 1 ≤ g by omega) (show 0 ≤ -N by omega)
  simp only [Int.neg_mul] at this
  omega
 simp only [Bool.and_eq_true, decide_eq_true_eq]
 omega
theorem lT_inj {p q : Rat} (h : lT p = lT q) : p = q := by rw [← qT_lT p, h, qT_lT]
def qS (s : Sn) : Sq := (qT s.f0, qT s.f1)
def lS (s : Sq) : Sn := ⟨lT s.1, lT s.2⟩
theorem qS_lS (s : Sq) : qS (lS s) = s := Prod.ext (qT_lT _) (qT_lT _)
theorem map_lS : ∀ l : List Sq, (l.map lS).map qS = l
 | [] => rfl
 | a :: t => by rw [List.map_cons, List.map_cons, map_lS t, qS_lS]
def vS (s : Sn) : Bool := vT s.f0 && (vT s.f1 && !(decide (qT s.f1 < qT s.f0)))
theorem vS_is {s : Sn} (h : vS s = true) : vT s.f0 = true ∧ vT s.f1 = true ∧ qT s.f0 ≤ qT s.f1 := by
 unfold vS at h
 simp only [Bool.and_eq_true, Bool.not_eq_true', decide_eq_false_iff_not] at h
 exact ⟨h.1, h.2.1, Rat.not_lt.1 h.2.2⟩
def ins (a : Sq) : List Sq → List Sq
 | [] => [a]
 | x :: l => if a.1 ≤ x.1 then a :: x :: l else x :: ins a l
def srt : List Sq → List Sq
 | [] => []
 | a :: l => ins a (srt l)
theorem ins_mem {a s : Sq} : ∀ {l : List Sq}, s ∈ ins a l ↔ s = a ∨ s ∈ l
 | [] => by simp [ins]
 | x :: l => by
  rw [ins]
  split
  ·simp
  ·rw [List.mem_cons, ins_mem, List.mem_cons]
   constructor
   ·rintro (h | h | h) <;> simp [h]
   ·rintro (h | h | h) <;> simp [h]
theorem srt_mem {s : Sq} : ∀ {l : List Sq}, s ∈ srt l ↔ s ∈ l
 | [] => Iff.rfl
 | a :: l => by rw [srt, ins_mem, srt_mem, List.mem_cons]
theorem ins_od {a : Sq} (ha : a.1 < a.2) : ∀ {l : List Sq}, Od l → Od (ins a l)
 | [], _ => ⟨ha, by simp, trivial⟩
 | x :: l, h => by
  rw [ins]
  split
  ·rename_i hc
   refine ⟨ha, fun y hy => ?_, h⟩
   rcases List.mem_cons.1 hy with rfl | hy
   ·exact hc
   ·have := h.2.1 y hy
    grind
  ·rename_i hc
   refine ⟨h.1, fun y hy => ?_, ins_od ha h.2.2⟩
   rcases ins_mem.1 hy with rfl | hy
   ·grind
   ·exact h.2.1 y hy
def full (l : List Sq) : List Sq := l.filter (fun s => decide (s.1 < s.2))
theorem full_in {l : List Sq} {q : Rat} : inS (full l) q ↔ inS l q := by
 unfold inS full
 constructor
 ·rintro ⟨s, hs, h⟩
  exact ⟨s, (List.mem_filter.1 hs).1, h⟩
 ·rintro ⟨s, hs, h⟩
  refine ⟨s, List.mem_filter.2 ⟨hs, ?_⟩, h⟩
  rw [decide_eq_true_eq]
  grind
theorem srt_od : ∀ {l : List Sq}, (∀ s ∈ l, s.1 < s.2) → Od (srt l)
 | [], _ => trivial
 | a :: l, h => ins_od (h a (by simp)) (srt_od (fun s hs => h s (by simp [hs])))
theorem mem_in {l m : List Sq} (h : ∀ s, s ∈ l ↔ s ∈ m) (q : Rat) : inS l q ↔ inS m q := by
 unfold inS
 constructor
 ·rintro ⟨s, hs, k⟩
  exact ⟨s, (h s).1 hs, k⟩
 ·rintro ⟨s, hs, k⟩
  exact ⟨s, (h s).2 hs, k⟩
def cnl (l : List Sq) : List Sq := mrg (srt (full l))
theorem full_lt {l : List Sq} : ∀ s ∈ full l, s.1 < s.2 := fun s hs => by
 have := (List.mem_filter.1 hs).2
 simpa using this
theorem cnl_cn (l : List Sq) : Cn (cnl l) := mrg_cn (srt_od full_lt)
theorem cnl_in (l : List Sq) (q : Rat) : inS (cnl l) q ↔ inS l q := (mrg_in (srt_od full_lt) q).trans ((mem_in (fun s => srt_mem) q).trans full_in)
theorem cnl_of {l m : List Sq} (hc : Cn m) (h : ∀ q, inS m q ↔ inS l q) : m = cnl l := cn_uniq m (cnl l) hc (cnl_cn l) (fun q => (h q).trans (cnl_in l q).symm)
theorem cnl_sorted {l m : List Sq} (ho : Od m) (hm : ∀ s, s ∈ m ↔ s ∈ full l) : mrg m = cnl l :=
 cnl_of (mrg_cn ho) (fun q => (mrg_in ho q).trans ((mem_in hm q).trans full_in))
end Go.Proofs.YtekommcfpjonmaaGreat.Sx
namespace Go.Proofs.YtekommcfpjonmaaGreat.Os
open Go.ChangeShapes Go.WideShapes Go.ChangeAt Go.RowKit Go.Joins Go.Deep Go.Proofs.YtekommcfpjonmaaGreatW.PrintWords Go.Proofs.YtekommcfpjonmaaGreatW.PrintLast Go.Proofs.YtekommcfpjonmaaGreatW.PrintMore Go.Proofs.YtekommcfpjonmaaGreat.E
set_option linter.unusedVariables false
theorem laidOut : laidOutB Tryz.prog = true := by kernel_rfl
theorem own : ownKnob Tryz.prog.godebug = none := by kernel_rfl
section
variable {H : Type} {enc : TypeId × Value → H} {w : World} {base : Nat} {spare : Nat → Bool} {held : Bool}
theorem one_int {n : Nat} {v : Value} {y : DataW H × List MemPlace} (h : DataW.trod enc Tryz.prog w base spare held n 3 [v] = some y) : ∃ z, v = .int .i64 z ∧ (Lit.int .i64 z).wf = true := by
 obtain ⟨z, hz, _, hw⟩ := DataW.trod_int Tryz.underlying3 h
 simp only [List.cons.injEq, and_true] at hz
 exact ⟨z, hz, hw⟩
theorem four {α : Type} {l : List α} (h : l.length = 4) : ∃ a b c d, l = [a, b, c, d] := by
 match l, h with
 | [a, b, c, d], _ => exact ⟨a, b, c, d, rfl⟩
theorem len2 {α : Type} {l : List α} (h : l.length = 2) : ∃ a b, l = [a, b] := by
 match l, h with
 | [a, b], _ => exact ⟨a, b, rfl⟩
set_option maxRecDepth 100000 in
theorem one_time {n : Nat} {cs : List Value} {y : DataW H × List MemPlace} (h : DataW.trod enc Tryz.prog w base spare held n 24 cs = some y) : ∃ a b, cs = [.int .i64 a, .int .i64 b] ∧ (Lit.int .i64 a).wf = true ∧ (Lit.int .i64 b).wf = true := by
 obtain ⟨xs, k, _, hx, hl, hlen, hg⟩ := DataW.trod_struct Tryz.underlying24 h
 obtain ⟨a, b, rfl⟩ := len2 (hl.trans (by kernel_rfl : Tryz.prog.cellsOf 24 = 2))
 obtain ⟨y0, y1, rfl⟩ := len2 hlen
 have h0 := hg 0 _ rfl
 have h1 := hg 1 _ rfl
 simp only [List.getElem?_cons_zero, List.getElem?_cons_succ] at h0 h1
 obtain ⟨z0, rfl, w0⟩ := one_int h0
 obtain ⟨z1, rfl, w1⟩ := one_int h1
 exact ⟨z0, z1, rfl, w0, w1⟩
set_option maxRecDepth 100000 in
theorem one_span {n : Nat} {cs : List Value} {y : DataW H × List MemPlace} (h : DataW.trod enc Tryz.prog w base spare held n 53 cs = some y) : ∃ x : S53, cs = [.int .i64 x.f0.f0, .int .i64 x.f0.f1, .int .i64 x.f1.f0, .int .i64 x.f1.f1] := by
 obtain ⟨xs, k, _, hx, hl, hlen, hg⟩ := DataW.trod_struct Tryz.underlying53 h
 obtain ⟨a, b, c, d, rfl⟩ := four (hl.trans (by kernel_rfl : Tryz.prog.cellsOf 53 = 4))
 obtain ⟨y0, y1, rfl⟩ := len2 hlen
 have h0 := hg 0 _ rfl
 have h1 := hg 1 _ rfl
 simp only [List.getElem?_cons_zero, List.getElem?_cons_succ] at h0 h1
 obtain ⟨n0, m0, e0, _, _⟩ := one_time h0
 obtain ⟨n1, m1, e1, _, _⟩ := one_time h1
 have e0' : [a, b] = [.int .i64 n0, .int .i64 m0] := e0
 have e1' : [c, d] = [.int .i64 n1, .int .i64 m1] := e1
 simp only [List.cons.injEq, and_true] at e0' e1'
 obtain ⟨rfl, rfl⟩ := e0'
 obtain ⟨rfl, rfl⟩ := e1'
 exact ⟨⟨⟨n0, m0⟩, ⟨n1, m1⟩⟩, rfl⟩
structure Sps (w : World) (a : Option Addr) (len cap : Nat) (l : List S53) : Prop where
 n : l.length = len
 c : Kd.C k53 w a l.length l
 h : l.length ≤ cap
theorem list_of {α : Type} (P : Nat → α → Prop) (n : Nat) (h : ∀ i, i < n → ∃ x, P i x) : ∃ l : List α, l.length = n ∧ ∀ i x, l[i]? = some x → P i x := by
 induction n with
 | zero => exact ⟨[], rfl, by simp⟩
 | succ n ih =>
  obtain ⟨l, hl, hp⟩ := ih (fun i hi => h i (by omega))
  obtain ⟨x, hx⟩ := h n (by omega)
  refine ⟨l ++ [x], by simp [hl], fun i y hy => ?_⟩
  by_cases hi : i < l.length
  ·rw [List.getElem?_append_left hi] at hy
   exact hp i y hy
  ·have hi2 : i = l.length := by
    have := (List.getElem?_eq_some_iff.1 hy).1
    simp only [List.length_append, List.length_cons, List.length_nil] at this
    omega
   subst hi2
   simp only [Nat.le_refl, List.getElem?_append_right, Nat.sub_self, List.getElem?_cons_zero, Option.some.injEq] at hy
   subst hy
   rw [hl]
   exact hx
theorem slice_spans {n : Nat} {a : Option Addr} {len cap : Nat} {y : DataW H × List MemPlace} (h : DataW.trod enc Tryz.prog w base spare held n 22 [.slice a len cap] = some y) : ∃ l, Sps w a len cap l := by
 rcases open_slice Tryz.underlying22 h with ⟨hcs, _⟩ | ⟨x, l, c, m, k, D, Pl, hcs, _, hl, hm, hmm, _, hi⟩
 ·simp only [List.cons.injEq, and_true, Value.slice.injEq] at hcs
  obtain ⟨rfl, rfl, rfl⟩ := hcs
  exact ⟨[], rfl, Kd.C_nil _ _, Nat.le_refl _⟩
 ·simp only [List.cons.injEq, and_true, Value.slice.injEq] at hcs
  obtain ⟨rfl, rfl, rfl⟩ := hcs
  have hC : Tryz.prog.cellsOf 53 = 4 := by kernel_rfl
  have hlm : len ≤ m := by rw [hmm]; split <;> omega
  obtain ⟨L, hL, hp⟩ := list_of (fun i (z : S53) => (∀ j u, ([.int .i64 z.f0.f0, .int .i64 z.f0.f1, .int .i64 z.f1.f0, .int .i64 z.f1.f1] : List Value)[j]? = some u → w.cell? (x.add (i * 4 + j)) = some u)) len (fun i hlt => by
   obtain ⟨cs', hc, ht⟩ := hi i (by omega)
   obtain ⟨z, rfl⟩ := one_span ht
   rw [hC] at hc
   obtain ⟨_, _, hat⟩ := World.cells?_some hc
   refine ⟨z, fun j u hu => ?_⟩
   have hj : j < 4 := (List.getElem?_eq_some_iff.1 hu).1
   have := hat j hj
   rw [← Go.Deep.add_add, this, hu])
  exact ⟨L, hL, ⟨rfl, by have := hm; unfold maxLen at this; omega, fun _ => ⟨x, rfl, fun j p hj => ⟨_, rfl, k53_mk w p, (hp j p hj)⟩⟩⟩, by omega⟩
set_option maxRecDepth 100000 in
theorem open_spans {r : Reach} {b0 : Nat} {v : Value} {d : DataW H} {p : List MemPlace} (hv : Value.okWide Tryz.prog w r b0 22 v) (h : DataW.Trod enc Tryz.prog w base spare held 22 v d p) :
  ∃ a len cap l, v = .slice a len cap ∧ Sps w a len cap l := by
 obtain ⟨a, len, cap, rfl⟩ := okWide_slice Tryz.underlying22 hv
 obtain ⟨fuel, hf⟩ := h
 obtain ⟨l, hl⟩ := slice_spans (a := a) (len := len) (cap := cap) hf
 exact ⟨a, len, cap, l, rfl, hl⟩
end
end Go.Proofs.YtekommcfpjonmaaGreat.Os
namespace Go.Proofs.YtekommcfpjonmaaGreat.Pa
open Go.RowKit Go.Proofs.YtekommcfpjonmaaGreat.P Go.Proofs.YtekommcfpjonmaaGreat.E Go.Proofs.YtekommcfpjonmaaGreatW.PrintWords Go.Proofs.YtekommcfpjonmaaGreatW.PrintLast Go.Proofs.YtekommcfpjonmaaGreat.Ml Go.Proofs.YtekommcfpjonmaaGreat.Mn
set_option linter.unusedVariables false
set_option linter.unusedSimpArgs false
abbrev Bd : Int := 1000000000
abbrev Nn (l : List Int) : Prop := Cn 1000000000 l
theorem top_cons {x : Int} {l : List Int} (h : Top l) (hx : l = [] → x ≠ 0) : Top (x :: l) := by
 intro hne
 cases l with
 | nil => simpa using hx rfl
 | cons y t =>
  rw [List.getLast_cons (by simp)]
  exact h (by simp)
theorem digit_f (l : List Int) (i : Nat) : dioramaref02_digit.f l (i : Int) = some (l.getD i 0) := by
 unfold dioramaref02_digit.f
 by_cases h : i < l.length
 ·rw [if_pos (by omega), if_pos (by omega), rd_nat]
 ·rw [if_neg (by omega), getD_ge (by omega)]
theorem tmodB {x : Int} (h : 0 ≤ x) : Int.tmod x 1000000000 = x % 1000000000 := Int.tmod_eq_emod_of_nonneg h
theorem tdivB {x : Int} (h : 0 ≤ x) : Int.tdiv x 1000000000 = x / 1000000000 := Int.tdiv_eq_ediv_of_nonneg h
theorem of_l (m : Nat) : ∀ (x : Int) (acc : List Int), 0 ≤ x → x < pw 1000000000 m → x ≤ 9223372036854775807 → acc.length + m ≤ 1000 → ∃ r, Ev (fun k => dioramaref02_Of.l0 k x acc) (acc ++ r) ∧ Nn r ∧ dv 1000000000 r = x ∧ r.length ≤ m := by
 induction m with
 | zero =>
  intro x acc h0 h1 _ _
  have hx : x = 0 := by simp [pw] at h1; omega
  subst hx
  exact ⟨[], Ev.step (f := fun _ => some (acc ++ [])) (fun k => by simp [dioramaref02_Of.l0]) (Ev.now _), Cn.nil _, rfl, Nat.le_refl _⟩
 | succ m ih =>
  intro x acc h0 h1 h2 hl
  by_cases hx : x = 0
  ·subst hx
   exact ⟨[], Ev.step (f := fun _ => some (acc ++ [])) (fun k => by simp [dioramaref02_Of.l0]) (Ev.now _), Cn.nil _, rfl, Nat.zero_le _⟩
  ·have hd : x / 1000000000 < pw 1000000000 m := by
    rw [pw_succ] at h1
    omega
   obtain ⟨r, he, hc, hv, hr⟩ := ih (x / 1000000000) (acc ++ [x % 1000000000]) (by omega) hd (by omega) (by simp; omega)
   refine ⟨x % 1000000000 :: r, ?_, ⟨Dg.cons (by omega) (by omega) hc.dg, top_cons hc.top (fun h => ?_)⟩, ?_, by simp; omega⟩
   ·rw [List.append_assoc, List.singleton_append] at he
    refine Ev.step (fun k => ?_) he
    simp only [dioramaref02_Of.l0]
    rw [if_pos (by omega), if_pos (by omega), tdivB h0, tmodB h0, w64 (by omega) (by omega)]
   ·subst h
    simp only [dv] at hv
    omega
   ·simp only [dv] at hv ⊢
    rw [hv]
    omega
theorem of_f (x : Int) (h0 : 0 ≤ x) (h1 : x ≤ 9223372036854775807) : ∃ r, Ev (fun k => dioramaref02_Of.f k x) r ∧ Nn r ∧ dv 1000000000 r = x ∧ r.length ≤ 3 := by
 obtain ⟨r, he, h⟩ := of_l 3 x [] h0 (by simp [pw]; omega) h1 (by simp)
 exact ⟨r, he, h⟩
theorem trimmed_l (l : List Int) (hd : Dg 1000000000 l) (hl : l.length ≤ 1000000) : ∀ n : Nat, n ≤ l.length → dv 1000000000 (l.take n) = dv 1000000000 l → ∃ r, Ev (fun k => dioramaref02_trimmed.l0 k l (n : Int)) r ∧ Nn r ∧ dv 1000000000 r = dv 1000000000 l ∧ r.length ≤ n := by
 intro n
 induction n with
 | zero =>
  intro _ hv
  refine ⟨[], Ev.step (f := fun _ => some []) (fun k => ?_) (Ev.now _), Cn.nil _, by rw [← hv]; rfl, Nat.le_refl _⟩
  simp [dioramaref02_trimmed.l0]
 | succ n ih =>
  intro hn hv
  have hw : wrap64 (((n + 1 : Nat) : Int) - 1) = (n : Int) := by rw [w64 (by omega) (by omega)]; omega
  by_cases hz : l.getD n 0 = 0
  ·obtain ⟨r, he, hc, hr, hlr⟩ := ih (by omega) (by rw [← hv] ; rw [dv_take_succ', hz]; omega)
   refine ⟨r, Ev.step (fun k => ?_) he, hc, hr, by omega⟩
   simp only [dioramaref02_trimmed.l0, hw, rd_nat]
   rw [if_pos (by omega), if_pos (by omega), if_pos (by omega), if_pos hz]
  ·refine ⟨l.take (n + 1), Ev.step (f := fun _ => some (l.take (n + 1))) (fun k => ?_) (Ev.now _), ⟨hd.take _, top_of_getD ?_⟩, hv, by simp; omega⟩
   ·simp only [dioramaref02_trimmed.l0, hw, rd_nat]
    rw [if_pos (by omega), if_pos (by omega), if_pos (by omega), if_neg hz, if_pos (by omega), if_pos (by omega), Int.toNat_natCast]
   ·rw [List.length_take, Nat.min_eq_left (by omega)]
    simp only [Nat.add_sub_cancel]
    rw [List.getD_eq_getElem?_getD, List.getElem?_take_of_lt (by omega), ← List.getD_eq_getElem?_getD]
    exact hz
theorem trimmed_f (l : List Int) (hd : Dg 1000000000 l) (hl : l.length ≤ 1000000) : ∃ r, Ev (fun k => dioramaref02_trimmed.f k l) r ∧ Nn r ∧ dv 1000000000 r = dv 1000000000 l ∧ r.length ≤ l.length :=
 trimmed_l l hd hl l.length (Nat.le_refl _) (by rw [List.take_length])
theorem cmp1 {x y : Int} (h : x < y) : Nd.cmpI x y = -1 := by unfold Nd.cmpI; rw [if_pos h]
theorem cmp2 {x y : Int} (h : y < x) : Nd.cmpI x y = 1 := by unfold Nd.cmpI; rw [if_neg (by omega), if_pos h]
theorem cmp0 {x y : Int} (h : x = y) : Nd.cmpI x y = 0 := by unfold Nd.cmpI; rw [if_neg (by omega), if_neg (by omega)]
theorem compare_l (a b : List Int) (ha : Dg 1000000000 a) (hb : Dg 1000000000 b) (hl : a.length = b.length) (hn : a.length ≤ 1000000) : ∀ i : Nat, i ≤ a.length → dv 1000000000 (a.drop i) = dv 1000000000 (b.drop i) →
  Ev (fun k => dioramaref02_Compare.l0 k a b ((i : Int) - 1)) (Nd.cmpI (dv 1000000000 a) (dv 1000000000 b)) := by
 intro i
 induction i with
 | zero =>
  intro _ h
  refine Ev.step (f := fun _ => some 0) (fun k => ?_) (by rw [cmp0 (by simpa using h)]; exact Ev.now _)
  simp [dioramaref02_Compare.l0]
 | succ i ih =>
  intro hi h
  have e : (((i + 1 : Nat) : Int) - 1) = (i : Int) := by omega
  have hw : wrap64 ((i : Int) - 1) = (i : Int) - 1 := w64 (by omega) (by omega)
  rw [e]
  rcases Int.lt_trichotomy (a.getD i 0) (b.getD i 0) with h1 | h1 | h1
  ·rw [cmp1 (dv_less (by decide) ha hb hl i (by omega) h h1)]
   refine Ev.step (f := fun _ => some (-1)) (fun k => ?_) (Ev.now _)
   simp only [dioramaref02_Compare.l0, rd_nat]
   rw [if_pos (by omega), if_pos (by omega), if_pos (by omega), if_pos (by omega), if_pos h1]
  ·refine Ev.step (fun k => ?_) (ih (by omega) (by rw [dv_drop _ a i (by omega), dv_drop _ b i (by omega), h1, h]))
   simp only [dioramaref02_Compare.l0, rd_nat, hw]
   rw [if_pos (by omega), if_pos (by omega), if_pos (by omega), if_pos (by omega), if_neg (by omega), if_neg (by omega)]
  ·rw [cmp2 (dv_less (by decide) hb ha hl.symm i (by omega) h.symm h1)]
   refine Ev.step (f := fun _ => some 1) (fun k => ?_) (Ev.now _)
   simp only [dioramaref02_Compare.l0, rd_nat]
   rw [if_pos (by omega), if_pos (by omega), if_pos (by omega), if_pos (by omega), if_neg (by omega), if_pos h1]
theorem compare_f (a b : List Int) (ha : Nn a) (hb : Nn b) (hn : a.length ≤ 1000000) (hm : b.length ≤ 1000000) : Ev (fun k => dioramaref02_Compare.f k a b) (Nd.cmpI (dv 1000000000 a) (dv 1000000000 b)) := by
 by_cases hl : a.length = b.length
 ·have h := compare_l a b ha.dg hb.dg hl hn a.length (Nat.le_refl _) (by rw [List.drop_of_length_le (Nat.le_refl _), List.drop_of_length_le (by omega)])
  refine Ev.congr (fun k => ?_) h
  simp only [dioramaref02_Compare.f]
  rw [if_pos (by omega), w64 (by omega) (by omega)]
 ·by_cases h1 : a.length < b.length
  ·rw [cmp1 (dv_len (by decide) ha.dg hb h1)]
   refine Ev.congr (f := fun _ => some (-1)) (fun k => ?_) (Ev.now _)
   simp only [dioramaref02_Compare.f]
   rw [if_neg (by omega), if_pos (by omega)]
  ·rw [cmp2 (dv_len (by decide) hb.dg ha (by omega))]
   refine Ev.congr (f := fun _ => some 1) (fun k => ?_) (Ev.now _)
   simp only [dioramaref02_Compare.f]
   rw [if_neg (by omega), if_neg (by omega)]
end Go.Proofs.YtekommcfpjonmaaGreat.Pa
namespace Go.Proofs.YtekommcfpjonmaaGreat.Pb
open Go.RowKit Go.Proofs.YtekommcfpjonmaaGreat.P Go.Proofs.YtekommcfpjonmaaGreat.E Go.Proofs.YtekommcfpjonmaaGreatW.PrintWords Go.Proofs.YtekommcfpjonmaaGreatW.PrintLast Go.Proofs.YtekommcfpjonmaaGreat.Ml Go.Proofs.YtekommcfpjonmaaGreat.Mn Go.Proofs.YtekommcfpjonmaaGreat.Pa
set_option linter.unusedVariables false
set_option linter.unusedSimpArgs false
theorem nv_take_all {l : List Int} {n : Nat} (h : l.length ≤ n) : dv 1000000000 (l.take n) = dv 1000000000 l := by rw [List.take_of_length_le h]
theorem dg_snoc {l : List Int} {x : Int} (h : Dg 1000000000 l) (h0 : 0 ≤ x) (h1 : x < 1000000000) : Dg 1000000000 (l ++ [x]) := h.append (Dg.cons h0 h1 (Dg.nil _))
theorem w1 {i : Nat} (h : i ≤ 10000000) : wrap64 ((i : Int) + 1) = ((i + 1 : Nat) : Int) := by rw [w64 (by omega) (by omega)]; omega
theorem minus_l (a b : List Int) (ha : Dg 1000000000 a) (hb : Dg 1000000000 b) (hn : a.length ≤ 1000000) (hlb : b.length ≤ a.length) (hle : dv 1000000000 b ≤ dv 1000000000 a) :
  ∀ (d i : Nat) (out : List Int) (c : Int), i + d = a.length → out.length = i → Dg 1000000000 out → 0 ≤ c → c ≤ 1 → dv 1000000000 out = dv 1000000000 (a.take i) - dv 1000000000 (b.take i) + c * pw 1000000000 i →
  ∃ r, Ev (fun k => dioramaref02_Minus.l0 k a b out c (i : Int)) r ∧ Nn r ∧ dv 1000000000 r = dv 1000000000 a - dv 1000000000 b ∧ r.length ≤ a.length := by
 intro d
 induction d with
 | zero =>
  intro i out c hi hl hd h0 h1 hv
  obtain ⟨r, he, hc, hr, hlr⟩ := trimmed_f out hd (by omega)
  have hlt := dv_lt (by decide) hd
  rw [hl] at hlt
  rw [nv_take_all (by omega), nv_take_all (by omega)] at hv
  have c0 : c = 0 := by
   rcases (show c = 0 ∨ c = 1 by omega) with h | h
   ·exact h
   ·rw [h] at hv
    omega
  refine ⟨r, Ev.step (f := fun k => (dioramaref02_trimmed.f k out).bind fun t => some t) (fun k => ?_) (Ev.bind he (Ev.now _)), hc, by rw [hr, hv, c0]; omega, by omega⟩
  simp only [dioramaref02_Minus.l0]
  rw [if_neg (by omega)]
 | succ d ih =>
  intro i out c hi hl hd h0 h1 hv
  have hx := ha.getD (by decide) i
  have hy := hb.getD (by decide) i
  have e1 := dv_take_succ' 1000000000 a i
  have e2 := dv_take_succ' 1000000000 b i
  have e3 := pw_succ 1000000000 i
  generalize hxv : a.getD i 0 = x at *
  generalize hyv : b.getD i 0 = y at *
  have hw : wrap64 (wrap64 (x - y) - c) = x - y - c := by rw [w64 (x := x - y) (by omega) (by omega), w64 (by omega) (by omega)]
  have hw2 : wrap64 (x - y - c + 1000000000) = x - y - c + 1000000000 := w64 (by omega) (by omega)
  by_cases hneg : x - y - c < 0
  ·obtain ⟨r, he, h⟩ := ih (i + 1) (out ++ [x - y - c + 1000000000]) 1 (by omega) (by simp [hl]) (dg_snoc hd (by omega) (by omega)) (by decide) (by decide) (by
    rw [dv_snoc, hl, hv, e1, e2, e3]
    grind)
   refine ⟨r, Ev.step (fun k => ?_) he, h⟩
   simp only [dioramaref02_Minus.l0]
   rw [if_pos (by omega), digit_f, digit_f, hxv, hyv]
   simp only [Option.bind_some, hw, hw2]
   rw [if_pos hneg, if_pos (by omega), w1 (by omega)]
  ·obtain ⟨r, he, h⟩ := ih (i + 1) (out ++ [x - y - c]) 0 (by omega) (by simp [hl]) (dg_snoc hd (by omega) (by omega)) (by decide) (by decide) (by
    rw [dv_snoc, hl, hv, e1, e2]
    grind)
   refine ⟨r, Ev.step (fun k => ?_) he, h⟩
   simp only [dioramaref02_Minus.l0]
   rw [if_pos (by omega), digit_f, digit_f, hxv, hyv]
   simp only [Option.bind_some, hw, hw2]
   rw [if_neg hneg, if_pos (by omega), w1 (by omega)]
theorem len_le {a b : List Int} (ha : Nn a) (hb : Nn b) (h : dv 1000000000 b ≤ dv 1000000000 a) : b.length ≤ a.length := by
 refine Nat.le_of_not_lt fun hl => ?_
 have := dv_len (by decide) ha.dg hb hl
 omega
theorem minus_f (a b : List Int) (ha : Nn a) (hb : Nn b) (hn : a.length ≤ 1000000) (hle : dv 1000000000 b ≤ dv 1000000000 a) : ∃ r, Ev (fun k => dioramaref02_Minus.f k a b) r ∧ Nn r ∧ dv 1000000000 r = dv 1000000000 a - dv 1000000000 b ∧ r.length ≤ a.length :=
 minus_l a b ha.dg hb.dg hn (len_le ha hb hle) hle a.length 0 [] 0 (by omega) rfl (Dg.nil _) (by decide) (by decide) (by simp [dv])
theorem plus_l (a b : List Int) (ha : Nn a) (hb : Nn b) (hn : a.length ≤ 1000000) (hm : b.length ≤ 1000000) :
  ∀ (d i : Nat) (out : List Int) (c : Int), i + d = max a.length b.length + 1 → out.length = i → Dg 1000000000 out → 0 ≤ c → c ≤ 1 → (i ≤ max a.length b.length ∨ c = 0) → (i < a.length ∨ i < b.length ∨ 0 < c ∨ Top out) → dv 1000000000 out = dv 1000000000 (a.take i) + dv 1000000000 (b.take i) - c * pw 1000000000 i →
  ∃ r, Ev (fun k => dioramaref02_Plus.l0 k a b out c (i : Int)) r ∧ Nn r ∧ dv 1000000000 r = dv 1000000000 a + dv 1000000000 b ∧ r.length ≤ max a.length b.length + 1 := by
 intro d
 induction d with
 | zero =>
  intro i out c hi hl hd h0 h1 hic ht hv
  have c0 : c = 0 := by omega
  subst c0
  rw [nv_take_all (by omega), nv_take_all (by omega)] at hv
  refine ⟨out, Ev.step (f := fun k => dioramaref02_Plus.j1 k a b out 0 (i : Int) (decide ((0 : Int) > 0))) (fun k => ?_) (Ev.step (f := fun _ => some out) (fun k => ?_) (Ev.now _)), ⟨hd, ?_⟩, by rw [hv]; omega, by omega⟩
  ·simp only [dioramaref02_Plus.l0]
   rw [if_neg (by omega), if_neg (by omega)]
  ·simp [dioramaref02_Plus.j1]
  ·rcases ht with h | h | h | h
   ·omega
   ·omega
   ·omega
   ·exact h
 | succ d ih =>
  intro i out c hi hl hd h0 h1 hic ht hv
  by_cases hgo : i < a.length ∨ i < b.length ∨ 0 < c
  ·have hx := ha.dg.getD (by decide) i
   have hy := hb.dg.getD (by decide) i
   have e1 := dv_take_succ' 1000000000 a i
   have e2 := dv_take_succ' 1000000000 b i
   have e3 := pw_succ 1000000000 i
   have zx : a.length ≤ i → a.getD i 0 = 0 := fun h => getD_ge h
   have zy : b.length ≤ i → b.getD i 0 = 0 := fun h => getD_ge h
   have tx : i + 1 = a.length → a.getD i 0 ≠ 0 := fun h => by have := top_getD ha.top (by omega); rwa [← h, Nat.add_sub_cancel] at this
   have ty : i + 1 = b.length → b.getD i 0 ≠ 0 := fun h => by have := top_getD hb.top (by omega); rwa [← h, Nat.add_sub_cancel] at this
   generalize hxv : a.getD i 0 = x at *
   generalize hyv : b.getD i 0 = y at *
   have hw : wrap64 (wrap64 (x + y) + c) = x + y + c := by rw [w64 (x := x + y) (by omega) (by omega), w64 (by omega) (by omega)]
   have hw2 : wrap64 ((x + y + c) / 1000000000) = (x + y + c) / 1000000000 := w64 (by omega) (by omega)
   obtain ⟨r, he, h⟩ := ih (i + 1) (out ++ [(x + y + c) % 1000000000]) ((x + y + c) / 1000000000) (by omega) (by simp [hl]) (dg_snoc hd (by omega) (by omega)) (by omega) (by omega)
    (by
     by_cases hmx : i < max a.length b.length
     ·left; omega
     ·right
      rw [zx (by omega), zy (by omega)]
      omega)
    (by
     by_cases g1 : i + 1 < a.length
     ·exact .inl g1
     ·by_cases g2 : i + 1 < b.length
      ·exact .inr (.inl g2)
      ·by_cases g3 : 0 < (x + y + c) / 1000000000
       ·exact .inr (.inr (.inl g3))
       ·refine .inr (.inr (.inr (top_of_getD ?_)))
        have hne : (x + y + c) % 1000000000 ≠ 0 := by
         rcases hgo with g | g | g
         ·have := tx (by omega); omega
         ·have := ty (by omega); omega
         ·omega
        simp only [List.length_append, List.length_singleton, Nat.add_sub_cancel]
        rw [List.getD_eq_getElem?_getD, List.getElem?_append_right (Nat.le_refl _)]
        simpa using hne)
    (by
     rw [dv_snoc, hl, hv, e1, e2, e3]
     have hdm := Int.mul_ediv_add_emod (x + y + c) 1000000000
     generalize (x + y + c) / 1000000000 = Q at *
     generalize (x + y + c) % 1000000000 = R at *
     have : R = x + y + c - 1000000000 * Q := by omega
     subst this
     grind)
   refine ⟨r, ?_, h⟩
   have hj : Ev (fun k => dioramaref02_Plus.j1 k a b out c (i : Int) true) r := by
    refine Ev.step (fun k => ?_) he
    simp only [dioramaref02_Plus.j1, if_true]
    rw [digit_f, digit_f, hxv, hyv]
    simp only [Option.bind_some, hw]
    rw [if_pos (by omega), tmodB (by omega), tdivB (by omega), hw2, w1 (by omega)]
   refine Ev.step (fun k => ?_) hj
   simp only [dioramaref02_Plus.l0]
   by_cases g1 : i < a.length
   ·rw [if_pos (by omega)]
   ·rw [if_neg (by omega)]
    by_cases g2 : i < b.length
    ·rw [if_pos (by omega)]
    ·rw [if_neg (by omega), decide_eq_true (show c > 0 by omega)]
  ·have c0 : c = 0 := by omega
   subst c0
   rw [nv_take_all (by omega), nv_take_all (by omega)] at hv
   refine ⟨out, Ev.step (f := fun k => dioramaref02_Plus.j1 k a b out 0 (i : Int) (decide ((0 : Int) > 0))) (fun k => ?_) (Ev.step (f := fun _ => some out) (fun k => ?_) (Ev.now _)), ⟨hd, ?_⟩, by rw [hv]; omega, by omega⟩
   ·simp only [dioramaref02_Plus.l0]
    rw [if_neg (by omega), if_neg (by omega)]
   ·simp [dioramaref02_Plus.j1]
   ·rcases ht with h | h | h | h
    ·omega
    ·omega
    ·omega
    ·exact h
theorem plus_f (a b : List Int) (ha : Nn a) (hb : Nn b) (hn : a.length ≤ 1000000) (hm : b.length ≤ 1000000) : ∃ r, Ev (fun k => dioramaref02_Plus.f k a b) r ∧ Nn r ∧ dv 1000000000 r = dv 1000000000 a + dv 1000000000 b ∧ r.length ≤ max a.length b.length + 1 :=
 plus_l a b ha hb hn hm (max a.length b.length + 1) 0 [] 0 (by omega) rfl (Dg.nil _) (by decide) (by decide) (.inr rfl) (.inr (.inr (.inr (fun h => absurd rfl h)))) (by simp [dv])
theorem mulB {c x y o : Int} (hc0 : 0 ≤ c) (hc1 : c < 1000000000) (hx0 : 0 ≤ x) (hx1 : x < 1000000000) (hy0 : 0 ≤ y) (hy1 : y < 1000000000) (ho0 : 0 ≤ o) (ho1 : o < 1000000000) :
  wrap64 (wrap64 (o + wrap64 (x * y)) + c) = o + x * y + c ∧ 0 ≤ o + x * y + c ∧ wrap64 (Int.tdiv (o + x * y + c) 1000000000) = (o + x * y + c) / 1000000000 ∧ (o + x * y + c) / 1000000000 < 1000000000 := by
 obtain ⟨h1, h2⟩ := mul_lt_sq hx0 hx1 hy0 hy1
 have h2' : x * y ≤ 999999998000000001 := h2
 rw [w64 (x := x * y) (by omega) (by omega), w64 (x := o + x * y) (by omega) (by omega), w64 (x := o + x * y + c) (by omega) (by omega), tdivB (by omega), w64 (by omega) (by omega)]
 refine ⟨rfl, by omega, rfl, by omega⟩
set_option maxHeartbeats 1000000 in
theorem times_l1 (a b : List Int) (i : Nat) (x : Int) (hx : a.getD i 0 = x) (hi : i < a.length) (hb : Dg 1000000000 b) (hx0 : 0 ≤ x) (hx1 : x < 1000000000) (hn : a.length + b.length ≤ 1000000) :
  ∀ (d j : Nat) (out : List Int) (c : Int), j + d = b.length → Dg 1000000000 out → out.length = a.length + b.length → 0 ≤ c → c < 1000000000 → (∀ m, i + b.length ≤ m → out.getD m 0 = 0) →
  ∃ out', (∀ r, Ev (fun k => dioramaref02_Times.l0 k a b out' ((i + 1 : Nat) : Int)) r → Ev (fun k => dioramaref02_Times.l1 k a b out (i : Int) c (j : Int)) r) ∧ out'.length = a.length + b.length ∧ Dg 1000000000 out' ∧
   dv 1000000000 out' = dv 1000000000 out + c * pw 1000000000 (i + j) + x * dv 1000000000 (b.drop j) * pw 1000000000 (i + j) ∧ ∀ m, i + 1 + b.length ≤ m → out'.getD m 0 = 0 := by
 intro d
 induction d with
 | zero =>
  intro j out c hj hd hl h0 h1 hz
  obtain rfl : j = b.length := by omega
  have hend : ∀ (out : List Int) (j : Nat) r, b.length ≤ j → Ev (fun k => dioramaref02_Times.l0 k a b out ((i + 1 : Nat) : Int)) r → Ev (fun k => dioramaref02_Times.l1 k a b out (i : Int) 0 (j : Int)) r := by
   intro out j r hj he
   refine Ev.step (fun k => ?_) he
   simp only [dioramaref02_Times.l1]
   rw [if_neg (by omega), if_neg (by omega), w1 (by omega)]
  rw [List.drop_of_length_le (Nat.le_refl _)]
  by_cases hc : c = 0
  ·subst hc
   exact ⟨out, fun r he => hend out _ r (Nat.le_refl _) he, hl, hd, by simp [dv], fun m hm => hz m (by omega)⟩
  ·refine ⟨out.set (i + b.length) c, fun r he => ?_, by simp [hl], hd.set _ h0 h1, ?_, fun m hm => by rw [getD_set (by omega)]; exact hz m (by omega)⟩
   ·have h2 := hend (out.set (i + b.length) c) (b.length + 1) r (by omega) he
    refine Ev.step (fun k => ?_) h2
    have hw : wrap64 ((i : Int) + (b.length : Int)) = ((i + b.length : Nat) : Int) := by rw [w64 (by omega) (by omega)]; omega
    obtain ⟨g1, g2, g3, g4⟩ := mulB (o := 0) (y := 0) h0 h1 hx0 hx1 (by decide) (by decide) (by decide) (by decide)
    have e0 : (0 : Int) + x * 0 + c = c := by omega
    rw [e0] at g1 g3
    simp only [dioramaref02_Times.l1, hw, rd_nat, hx, Int.toNat_natCast]
    rw [if_neg (by omega), if_pos (by omega), if_pos (by omega), if_pos (by omega), if_pos (by omega), if_pos (by omega), digit_f, getD_ge (Nat.le_refl _), hz _ (Nat.le_refl _)]
    simp only [Option.bind_some, g1, g3]
    rw [tmodB h0, Int.emod_eq_of_lt h0 h1, Int.ediv_eq_zero_of_lt h0 h1, w1 (by omega)]
   ·rw [dv_set _ _ _ _ (by omega), hz _ (Nat.le_refl _)]
    simp [dv]
 | succ d ih =>
  intro j out c hj hd hl h0 h1 hz
  have hy := hb.getD (by decide) j
  have ho := hd.getD (by decide) (i + j)
  have c1 : (j : Int) < (b.length : Int) := by omega
  have c2 : 0 ≤ ((i + j : Nat) : Int) := by omega
  have c3 : ((i + j : Nat) : Int) < (out.length : Int) := by omega
  have c4 : 0 ≤ (i : Int) := by omega
  have c5 : (i : Int) < (a.length : Int) := by omega
  have c6 : i + j < out.length := by omega
  have c7 : j < b.length := by omega
  have hw : wrap64 ((i : Int) + (j : Int)) = ((i + j : Nat) : Int) := by rw [w64 (by omega) (by omega)]; omega
  have hw1 := w1 (i := j) (by omega)
  have HW := Aside0.mk (And.intro hw hw1)
  clear hw hw1
  generalize hyv : b.getD j 0 = y at *
  generalize hov : out.getD (i + j) 0 = o at *
  obtain ⟨g1, g2, g3, g4⟩ := mulB h0 h1 hx0 hx1 hy.1 hy.2 ho.1 ho.2
  have gm := Int.mul_ediv_add_emod (o + x * y + c) 1000000000
  have gr0 := Int.emod_nonneg (o + x * y + c) (show (1000000000 : Int) ≠ 0 by decide)
  have gr1 := Int.emod_lt_of_pos (o + x * y + c) (show (0 : Int) < 1000000000 by decide)
  have gq0 : 0 ≤ (o + x * y + c) / 1000000000 := Int.ediv_nonneg g2 (by decide)
  have gt := tmodB g2
  generalize (o + x * y + c) / 1000000000 = q at *
  generalize (o + x * y + c) % 1000000000 = r' at *
  have hs : r' + 1000000000 * q = c + (x * y + o) := by clear g1 g3 gt; omega
  have HG := Aside0.mk (And.intro g1 (And.intro g3 gt))
  clear g1 g3 gt gm
  obtain ⟨out', k1, k2, k3, k4, k5⟩ := ih (j + 1) (out.set (i + j) r') q (by omega) (hd.set _ gr0 gr1) (by simp [hl]) gq0 g4 (fun m hm => by rw [getD_set (by omega)]; exact hz m hm)
  refine ⟨out', fun r he => ?_, k2, k3, ?_, k5⟩
  ·refine Ev.step (fun k => ?_) (k1 r he)
   simp only [dioramaref02_Times.l1, HW.out.1, rd_nat, hx, Int.toNat_natCast]
   rw [if_pos c1, if_pos c2, if_pos c3, if_pos c4, if_pos c5, digit_f, hyv, hov]
   simp only [Option.bind_some, HG.out.1, HG.out.2.1, HG.out.2.2, HW.out.2]
  ·rw [k4, dv_set _ _ _ _ c6, hov, dv_drop 1000000000 b j c7, hyv, ← Nat.add_assoc, pw_succ]
   exact (mul_step hs).symm
theorem times_l0 (a b : List Int) (ha : Dg 1000000000 a) (hb : Dg 1000000000 b) (hn : a.length + b.length ≤ 1000000) :
  ∀ (d i : Nat) (out : List Int), i + d = a.length → Dg 1000000000 out → out.length = a.length + b.length → dv 1000000000 out = dv 1000000000 (a.take i) * dv 1000000000 b → (∀ m, i + b.length ≤ m → out.getD m 0 = 0) →
  ∃ r, Ev (fun k => dioramaref02_Times.l0 k a b out (i : Int)) r ∧ Nn r ∧ dv 1000000000 r = dv 1000000000 a * dv 1000000000 b ∧ r.length ≤ a.length + b.length := by
 intro d
 induction d with
 | zero =>
  intro i out hi hd hl hv hz
  obtain ⟨r, he, hc, hr, hlr⟩ := trimmed_f out hd (by omega)
  refine ⟨r, Ev.step (f := fun k => (dioramaref02_trimmed.f k out).bind fun t => some t) (fun k => ?_) (Ev.bind he (Ev.now _)), hc, by rw [hr, hv, nv_take_all (by omega)], by omega⟩
  simp only [dioramaref02_Times.l0]
  rw [if_neg (by omega)]
 | succ d ih =>
  intro i out hi hd hl hv hz
  have hx := ha.getD (by decide) i
  obtain ⟨out', k1, k2, k3, k4, k5⟩ := times_l1 a b i (a.getD i 0) rfl (by omega) hb hx.1 hx.2 hn b.length 0 out 0 (by omega) hd hl (by decide) (by decide) hz
  obtain ⟨r, he, h⟩ := ih (i + 1) out' (by omega) k3 k2 (by
   rw [k4, hv, dv_take_succ' _ a i]
   simp only [List.drop_zero, Nat.add_zero]
   grind) (fun m hm => k5 m (by omega))
  refine ⟨r, Ev.step (fun k => ?_) (k1 r he), h⟩
  simp only [dioramaref02_Times.l0]
  rw [if_pos (by omega)]
  rfl
theorem times_f (a b : List Int) (ha : Nn a) (hb : Nn b) (hn : a.length + b.length ≤ 1000000) : ∃ r, Ev (fun k => dioramaref02_Times.f k a b) r ∧ Nn r ∧ dv 1000000000 r = dv 1000000000 a * dv 1000000000 b ∧ r.length ≤ a.length + b.length := by
 have e1 : wrap64 ((a.length : Int) + (b.length : Int)) = ((a.length + b.length : Nat) : Int) := by rw [w64 (by omega) (by omega)]; omega
 obtain ⟨r, he, h⟩ := times_l0 a b ha.dg hb.dg hn a.length 0 (List.replicate (a.length + b.length) 0) (by omega) (Dg.replicate (by decide) _) (by simp) (by rw [dv_replicate]; simp [dv]) (fun m _ => by
  rw [List.getD_eq_getElem?_getD, List.getElem?_replicate]
  split <;> rfl)
 refine ⟨r, Ev.congr (fun k => ?_) he, h⟩
 simp only [dioramaref02_Times.f, e1, Int.toNat_natCast]
 rw [if_pos (by omega), if_pos (by omega)]
 rfl
theorem drop_le (l : List Int) (hd : Dg 1000000000 l) (i : Nat) : dv 1000000000 (l.drop i) ≤ dv 1000000000 l ∧ 0 ≤ dv 1000000000 (l.drop i) := by
 have h0 := dv_nonneg (by decide) (hd.drop i)
 refine ⟨?_, h0⟩
 by_cases hi : i ≤ l.length
 ·have h1 := dv_split 1000000000 l i hi
  have h2 := dv_nonneg (by decide) (hd.take i)
  have h3 : 0 < pw 1000000000 i := pow_pos (by decide) i
  have h4 : 1 * dv 1000000000 (l.drop i) ≤ pw 1000000000 i * dv 1000000000 (l.drop i) := Int.mul_le_mul_of_nonneg_right (by omega) h0
  omega
 ·rw [List.drop_of_length_le (by omega)]
  exact dv_nonneg (by decide) hd
theorem small_l (l : List Int) (hd : Dg 1000000000 l) (hn : l.length ≤ 1000000) (hs : dv 1000000000 l ≤ 9223372036854775807) : ∀ i : Nat, i ≤ l.length → Ev (fun k => dioramaref02_Small.l0 k l (dv 1000000000 (l.drop i)) ((i : Int) - 1)) (dv 1000000000 l, true) := by
 intro i
 induction i with
 | zero =>
  intro _
  refine Ev.step (f := fun _ => some (dv 1000000000 l, true)) (fun k => ?_) (Ev.now _)
  simp [dioramaref02_Small.l0]
 | succ i ih =>
  intro hi
  have e : (((i + 1 : Nat) : Int) - 1) = (i : Int) := by omega
  have h1 := dv_drop 1000000000 l i (by omega)
  have h2 := drop_le l hd i
  have h3 := drop_le l hd (i + 1)
  have hx := hd.getD (by decide) i
  rw [e]
  refine Ev.step (fun k => ?_) (ih (by omega))
  simp only [dioramaref02_Small.l0, rd_nat]
  rw [if_pos (by omega), if_pos (by omega), if_pos (by omega), w64 (x := _ * 1000000000) (by omega) (by omega), w64 (x := _ + _) (by omega) (by omega), w64 (x := (i : Int) - 1) (by omega) (by omega), h1]
  congr 1
  omega
theorem small_f (l : List Int) (most : Int) (hl : Nn l) (hn : l.length ≤ 1000000) (h0 : 0 ≤ most) (h1 : most ≤ 9223372036854775807) : Ev (fun k => dioramaref02_Small.f k l most) (if most < dv 1000000000 l then (0, false) else (dv 1000000000 l, true)) := by
 obtain ⟨r, he, hr, hv, hlr⟩ := of_f most h0 h1
 have hc := compare_f l r hl hr hn (by omega)
 rw [hv] at hc
 by_cases hb : most < dv 1000000000 l
 ·rw [if_pos hb]
  rw [cmp2 hb] at hc
  exact Ev.bind he (Ev.bind hc (Ev.congr (f := fun _ => some (0, false)) (fun k => by simp) (Ev.now _)))
 ·rw [if_neg hb]
  have hle : ¬ (Nd.cmpI (dv 1000000000 l) most > 0) := by
   unfold Nd.cmpI
   by_cases h2 : dv 1000000000 l < most
   ·rw [if_pos h2]; decide
   ·rw [if_neg h2, if_neg hb]; decide
  have h2 := small_l l hl.dg hn (by omega) l.length (Nat.le_refl _)
  rw [List.drop_of_length_le (Nat.le_refl _)] at h2
  refine Ev.bind he (Ev.bind hc (Ev.congr (fun k => ?_) h2))
  rw [if_neg hle, w64 (by omega) (by omega)]
  rfl
end Go.Proofs.YtekommcfpjonmaaGreat.Pb
namespace Go.Proofs.YtekommcfpjonmaaGreat.Qr
open Go.RowKit Go Go.Proofs.YtekommcfpjonmaaGreatW.PrintWords Go.Proofs.YtekommcfpjonmaaGreatW.PrintLast Go.Proofs.YtekommcfpjonmaaGreatW.PrintMore Go.Proofs.YtekommcfpjonmaaGreat.Ml Go.Proofs.YtekommcfpjonmaaGreat.Mn Go.Proofs.YtekommcfpjonmaaGreat.Nd Go.Proofs.YtekommcfpjonmaaGreat.Pa Go.Proofs.YtekommcfpjonmaaGreat.Pb Go.Proofs.YtekommcfpjonmaaGreat.Rf Go.Proofs.YtekommcfpjonmaaGreat.E
set_option linter.unusedVariables false
set_option linter.unusedSimpArgs false
structure RV (b : Bool) (x y : List Int) (q : Rat) (n : Nat) : Prop where
 nx : Nn x
 ny : Nn y
 pos : 0 < dv 1000000000 y
 eq : q = qq (sg b (dv 1000000000 x)) (dv 1000000000 y)
 lx : x.length ≤ n
 ly : y.length ≤ n
theorem RV.mono {b : Bool} {x y : List Int} {q : Rat} {n m : Nat} (h : RV b x y q n) (hm : n ≤ m) : RV b x y q m := ⟨h.nx, h.ny, h.pos, h.eq, Nat.le_trans h.lx hm, Nat.le_trans h.ly hm⟩
theorem RV.x0 {b : Bool} {x y : List Int} {q : Rat} {n : Nat} (h : RV b x y q n) : 0 ≤ dv 1000000000 x := dv_nonneg (by decide) h.nx.dg
def RE (f : Nat → Option (Bool × List Int × List Int)) (q : Rat) (n : Nat) : Prop := ∃ b x y, Ev f (b, x, y) ∧ RV b x y q n
theorem qq_parts {a b : Int} (hb : 0 < b) : ∃ g : Int, 0 < g ∧ a = (qq a b).num * g ∧ b = ((qq a b).den : Int) * g := by
 obtain ⟨h1, h2⟩ := rat_low (a := a) (b := b) (by omega)
 refine ⟨(Int.gcd a b : Nat), ?_, ?_, ?_⟩
 ·have := Int.gcd_pos_of_ne_zero_right a (show b ≠ 0 by omega)
  omega
 ·rw [← h1]
  unfold Ra.ratN Ea.lowN
  rw [if_neg (by omega)]
  exact (Int.ediv_mul_cancel (Int.gcd_dvd_left a b)).symm
 ·rw [← h2]
  unfold Ra.ratD Ea.lowD
  rw [if_neg (by omega)]
  exact (Int.ediv_mul_cancel (Int.gcd_dvd_right a b)).symm
theorem qq_lt {a b c d : Int} (hb : 0 < b) (hd : 0 < d) : qq a b < qq c d ↔ a * d < c * b := by
 obtain ⟨g, hg, e1, e2⟩ := qq_parts (a := a) hb
 obtain ⟨h, hh, e3, e4⟩ := qq_parts (a := c) hd
 rw [Rat.lt_iff]
 generalize (qq a b).num = N1 at *
 generalize ((qq a b).den : Int) = D1 at *
 generalize (qq c d).num = N2 at *
 generalize ((qq c d).den : Int) = D2 at *
 subst e1 e2 e3 e4
 have k1 : N1 * g * (D2 * h) = N1 * D2 * (g * h) := by grind
 have k2 : N2 * h * (D1 * g) = N2 * D1 * (g * h) := by grind
 rw [k1, k2]
 exact (Int.mul_lt_mul_right (Int.mul_pos hg hh)).symm
theorem sumR_f {b1 b2 : Bool} {x1 y1 x2 y2 : List Int} {p q : Rat} {n m : Nat} (h1 : RV b1 x1 y1 p n) (h2 : RV b2 x2 y2 q m) (hl : n + m + 2 ≤ 1000000) : RE (fun k => dioramaref02_Sum.f k b1 x1 y1 b2 x2 y2) (p + q) (n + m + 1) := by
 have l1 := h1.lx
 have l2 := h1.ly
 have l3 := h2.lx
 have l4 := h2.ly
 obtain ⟨u, eu, nu, vu, lu⟩ := times_f x1 y2 h1.nx h2.ny (by omega)
 obtain ⟨v, ev, nv, vv, lv⟩ := times_f x2 y1 h2.nx h1.ny (by omega)
 obtain ⟨y, ey, ny, vy, ly⟩ := times_f y1 y2 h1.ny h2.ny (by omega)
 have hpos : 0 < dv 1000000000 y := by rw [vy]; exact Int.mul_pos h1.pos h2.pos
 have heq : p + q = qq (sg b1 (dv 1000000000 u) + sg b2 (dv 1000000000 v)) (dv 1000000000 y) := by
  have e1 : sg b1 (dv 1000000000 u) = sg b1 (dv 1000000000 x1) * dv 1000000000 y2 := by rw [vu]; cases b1 <;> simp [sg, Int.neg_mul]
  have e2 : sg b2 (dv 1000000000 v) = sg b2 (dv 1000000000 x2) * dv 1000000000 y1 := by rw [vv]; cases b2 <;> simp [sg, Int.neg_mul]
  rw [h1.eq, h2.eq, vy, e1, e2]
  unfold qq
  rw [Rat.divInt_add_divInt _ _ (by have := h1.pos; omega) (by have := h2.pos; omega)]
 by_cases hb : b1 = b2
 ·subst hb
  obtain ⟨s, es, ns, vs, ls⟩ := plus_f u v nu nv (by omega) (by omega)
  refine ⟨b1, s, y, ?_, ⟨ns, ny, hpos, ?_, by omega, by omega⟩⟩
  ·refine Ev.congr (fun k => rfl) (Ev.bind eu (Ev.bind ev (Ev.bind ey ?_)))
   exact Ev.congr (fun k => if_pos (by simp)) (Ev.bind es (Ev.now _))
  ·rw [heq, vs]
   cases b1
   ·simp [sg]
   ·simp [sg, Int.neg_add]
 ·have hc := compare_f u v nu nv (by omega) (by omega)
  have hne : ¬ (b1 == b2) = true := by simpa using hb
  by_cases hle : dv 1000000000 v ≤ dv 1000000000 u
  ·obtain ⟨s, es, ns, vs, ls⟩ := minus_f u v nu nv (by omega) hle
   refine ⟨b1, s, y, ?_, ⟨ns, ny, hpos, ?_, by omega, by omega⟩⟩
   ·refine Ev.congr (fun k => rfl) (Ev.bind eu (Ev.bind ev (Ev.bind ey ?_)))
    refine Ev.congr (fun k => if_neg hne) (Ev.bind hc ?_)
    refine Ev.congr (fun k => if_pos ?_) (Ev.bind es (Ev.now _))
    unfold cmpI
    rw [if_neg (by omega)]
    split <;> decide
   ·rw [heq, vs]
    cases b1 <;> cases b2 <;> simp [sg] at hb ⊢ <;> congr 1 <;> omega
  ·obtain ⟨s, es, ns, vs, ls⟩ := minus_f v u nv nu (by omega) (by omega)
   refine ⟨b2, s, y, ?_, ⟨ns, ny, hpos, ?_, by omega, by omega⟩⟩
   ·refine Ev.congr (fun k => rfl) (Ev.bind eu (Ev.bind ev (Ev.bind ey ?_)))
    refine Ev.congr (fun k => if_neg hne) (Ev.bind hc ?_)
    refine Ev.congr (fun k => if_neg ?_) (Ev.bind es (Ev.now _))
    unfold cmpI
    rw [if_pos (by omega)]
    decide
   ·rw [heq, vs]
    cases b1 <;> cases b2 <;> simp [sg] at hb ⊢ <;> congr 1 <;> omega
theorem RV.neg {b : Bool} {x y : List Int} {q : Rat} {n : Nat} (h : RV b x y q n) : RV (!b) x y (-q) n := by
 refine ⟨h.nx, h.ny, h.pos, ?_, h.lx, h.ly⟩
 rw [h.eq]
 unfold qq
 rw [Rat.neg_divInt]
 congr 1
 cases b <;> simp [sg]
theorem RV.sign {b : Bool} {x y : List Int} {q : Rat} {n : Nat} (h : RV b x y q n) : (b && decide ((x.length : Int) > 0)) = decide (q < 0) := by
 have h0 := h.x0
 have hz := dv_eq_zero (by decide) h.nx
 have hq : q < 0 ↔ sg b (dv 1000000000 x) < 0 := by
  have e : (0 : Rat) = qq 0 1 := by unfold qq; simp
  rw [h.eq, e, qq_lt h.pos (by decide)]
  simp
 rw [Bool.eq_iff_iff]
 simp only [Bool.and_eq_true, decide_eq_true_eq, hq]
 have hl : (x.length : Int) > 0 ↔ dv 1000000000 x ≠ 0 := by
  rw [ne_eq, hz]
  cases x <;> simp
 rw [hl]
 cases b
 ·simp [sg]; omega
 ·simp [sg]; omega
theorem lessR_f {b1 b2 : Bool} {x1 y1 x2 y2 : List Int} {p q : Rat} {n m : Nat} (h1 : RV b1 x1 y1 p n) (h2 : RV b2 x2 y2 q m) (hl : n + m + 2 ≤ 1000000) : Ev (fun k => dioramaref02_Less.f k b1 x1 y1 b2 x2 y2) (decide (p < q)) := by
 obtain ⟨b, x, y, he, hv⟩ := sumR_f h1 h2.neg hl
 have hs := hv.sign
 have e : decide (p + -q < 0) = decide (p < q) := by
  congr 1
  apply propext
  constructor <;> intro h <;> grind
 rw [e] at hs
 refine Ev.congr (fun k => rfl) (Ev.bind he ?_)
 cases b with
 | true =>
  refine Ev.congr (fun k => if_pos rfl) ?_
  rw [← hs]
  exact Ev.now _
 | false =>
  refine Ev.congr (f := fun _ => some false) (fun k => if_neg (by simp)) ?_
  rw [← hs]
  exact Ev.now _
end Go.Proofs.YtekommcfpjonmaaGreat.Qr
namespace Go.Proofs.YtekommcfpjonmaaGreat.Pc
open Go.RowKit Go.Proofs.YtekommcfpjonmaaGreat.P Go.Proofs.YtekommcfpjonmaaGreat.E Go.Proofs.YtekommcfpjonmaaGreatW.PrintWords Go.Proofs.YtekommcfpjonmaaGreatW.PrintLast Go.Proofs.YtekommcfpjonmaaGreat.Ml Go.Proofs.YtekommcfpjonmaaGreat.Mn Go.Proofs.YtekommcfpjonmaaGreat.Pa Go.Proofs.YtekommcfpjonmaaGreat.Pb
set_option linter.unusedVariables false
set_option linter.unusedSimpArgs false
theorem drop_set' {l : List Int} {i : Nat} {v : Int} : (l.set i v).drop (i + 1) = l.drop (i + 1) := by
 rw [List.drop_set]
 simp
theorem over_l1 (a b q rest : List Int) (i : Nat) (hb : Nn b) (hr : Nn rest) (hi : i < q.length) (hq : q.length ≤ 1000000) (hlb : b.length ≤ 100000) (hlr : rest.length ≤ 200000) (hbp : 0 < dv 1000000000 b) :
  ∀ (m : Nat) (low high : Int), high - low ≤ m → 0 ≤ low → low ≤ high → high ≤ 999999999 → low * dv 1000000000 b ≤ dv 1000000000 rest → dv 1000000000 rest < (high + 1) * dv 1000000000 b →
  ∃ t rest', 0 ≤ t ∧ t < 1000000000 ∧ Nn rest' ∧ dv 1000000000 rest = t * dv 1000000000 b + dv 1000000000 rest' ∧ dv 1000000000 rest' < dv 1000000000 b ∧ (∀ r, Ev (fun k => dioramaref02_Over.l0 k a b (q.set i t) rest' ((i : Int) - 1)) r → Ev (fun k => dioramaref02_Over.l1 k a b q rest (i : Int) low high) r) := by
 intro m
 induction m with
 | zero =>
  intro low high hm h0 h1 h2 hlo hhi
  obtain rfl : low = high := by omega
  obtain ⟨o, eo, ho, vo, lo⟩ := of_f low h0 (by omega)
  obtain ⟨p, ep, hp, vp, lp⟩ := times_f b o hb ho (by omega)
  have e1 : dv 1000000000 p = low * dv 1000000000 b := by rw [vp, vo, Int.mul_comm]
  obtain ⟨s, es, hs, vs, ls⟩ := minus_f rest p hr hp (by omega) (by omega)
  have e2 : (low + 1) * dv 1000000000 b = low * dv 1000000000 b + dv 1000000000 b := by rw [Int.add_mul]; omega
  refine ⟨low, s, h0, by omega, hs, by omega, by omega, fun r he => ?_⟩
  refine Ev.step (f := fun k => (dioramaref02_Of.f k low).bind fun t197 => ((dioramaref02_Times.f k b t197).bind fun t200 => ((dioramaref02_Minus.f k rest t200).bind fun t203 => (dioramaref02_Over.l0 k a b (q.set i low) t203 ((i : Int) - 1))))) (fun k => ?_) (Ev.bind eo (Ev.bind ep (Ev.bind es he)))
  simp only [dioramaref02_Over.l1, Int.toNat_natCast]
  rw [if_neg (by omega), if_pos (by omega), if_pos (by omega), w64 (by omega) (by omega)]
 | succ m ih =>
  intro low high hm h0 h1 h2 hlo hhi
  by_cases hlt : low < high
  ·have hmid : wrap64 (Int.tdiv (wrap64 (wrap64 (low + high) + 1)) 2) = (low + high + 1) / 2 := by
    rw [w64 (x := low + high) (by omega) (by omega), w64 (x := low + high + 1) (by omega) (by omega), Int.tdiv_eq_ediv_of_nonneg (by omega), w64 (by omega) (by omega)]
   have hm1 : low < (low + high + 1) / 2 := by omega
   have hm2 : (low + high + 1) / 2 ≤ high := by omega
   generalize (low + high + 1) / 2 = mid at *
   obtain ⟨o, eo, ho, vo, lo⟩ := of_f mid (by omega) (by omega)
   obtain ⟨p, ep, hp, vp, lp⟩ := times_f b o hb ho (by omega)
   have e1 : dv 1000000000 p = mid * dv 1000000000 b := by rw [vp, vo, Int.mul_comm]
   have ec := compare_f p rest hp hr (by omega) (by omega)
   rw [e1] at ec
   by_cases hc : mid * dv 1000000000 b ≤ dv 1000000000 rest
   ·obtain ⟨t, rest', g1, g2, g3, g4, g5, g6⟩ := ih mid high (by omega) (by omega) hm2 h2 hc hhi
    have hle : Nd.cmpI (mid * dv 1000000000 b) (dv 1000000000 rest) ≤ 0 := by
     unfold Nd.cmpI
     by_cases h2 : mid * dv 1000000000 b < dv 1000000000 rest
     ·rw [if_pos h2]; decide
     ·rw [if_neg h2, if_neg (by omega)]; decide
    refine ⟨t, rest', g1, g2, g3, g4, g5, fun r he => ?_⟩
    refine Ev.step (f := fun k => (dioramaref02_Of.f k mid).bind fun t206 => ((dioramaref02_Times.f k b t206).bind fun t209 => ((dioramaref02_Compare.f k t209 rest).bind fun t212 => (if t212 ≤ 0 then (dioramaref02_Over.l1 k a b q rest (i : Int) mid high) else (dioramaref02_Over.l1 k a b q rest (i : Int) low (wrap64 (mid - 1))))))) (fun k => ?_) (Ev.bind eo (Ev.bind ep (Ev.bind ec (Ev.congr (fun k => ?_) (g6 r he)))))
    ·simp only [dioramaref02_Over.l1, hmid]
     rw [if_pos hlt]
    ·rw [if_pos hle]
   ·have hw : wrap64 (mid - 1) = mid - 1 := w64 (by omega) (by omega)
    obtain ⟨t, rest', g1, g2, g3, g4, g5, g6⟩ := ih low (mid - 1) (by omega) h0 (by omega) (by omega) hlo (by rw [Int.sub_add_cancel]; omega)
    have hle : ¬ Nd.cmpI (mid * dv 1000000000 b) (dv 1000000000 rest) ≤ 0 := by
     rw [cmp2 (by omega)]; decide
    refine ⟨t, rest', g1, g2, g3, g4, g5, fun r he => ?_⟩
    refine Ev.step (f := fun k => (dioramaref02_Of.f k mid).bind fun t206 => ((dioramaref02_Times.f k b t206).bind fun t209 => ((dioramaref02_Compare.f k t209 rest).bind fun t212 => (if t212 ≤ 0 then (dioramaref02_Over.l1 k a b q rest (i : Int) mid high) else (dioramaref02_Over.l1 k a b q rest (i : Int) low (wrap64 (mid - 1))))))) (fun k => ?_) (Ev.bind eo (Ev.bind ep (Ev.bind ec (Ev.congr (fun k => ?_) (g6 r he)))))
    ·simp only [dioramaref02_Over.l1, hmid]
     rw [if_pos hlt]
    ·rw [if_neg hle, hw]
  ·exact ih low high (by omega) h0 h1 h2 hlo hhi
theorem over_l0 (a b : List Int) (ha : Dg 1000000000 a) (hb : Nn b) (hla : a.length ≤ 100000) (hlb : b.length ≤ 100000) (hbp : 0 < dv 1000000000 b) :
  ∀ (i : Nat) (q rest : List Int), i ≤ a.length → q.length = a.length → Dg 1000000000 q → Nn rest → dv 1000000000 rest < dv 1000000000 b → dv 1000000000 (a.drop i) = dv 1000000000 (q.drop i) * dv 1000000000 b + dv 1000000000 rest →
  ∃ r1 r2, Ev (fun k => dioramaref02_Over.l0 k a b q rest ((i : Int) - 1)) (r1, r2) ∧ Nn r1 ∧ Nn r2 ∧ dv 1000000000 a = dv 1000000000 r1 * dv 1000000000 b + dv 1000000000 r2 ∧ dv 1000000000 r2 < dv 1000000000 b ∧ r1.length ≤ a.length ∧ r2.length ≤ b.length := by
 have hlen : ∀ {l : List Int}, Nn l → dv 1000000000 l < dv 1000000000 b → l.length ≤ b.length := by
  intro l hl h
  refine Nat.le_of_not_lt fun h2 => ?_
  have := dv_len (by decide) hb.dg hl h2
  omega
 intro i
 induction i with
 | zero =>
  intro q rest _ hq dq hr hlt hv
  obtain ⟨r, he, hc, hvr, hlr⟩ := trimmed_f q dq (by omega)
  rw [List.drop_zero, List.drop_zero] at hv
  refine ⟨r, rest, Ev.step (f := fun k => (dioramaref02_trimmed.f k q).bind fun t => some (t, rest)) (fun k => ?_) (Ev.bind he (Ev.now _)), hc, hr, by rw [hvr]; exact hv, hlt, by omega, hlen hr hlt⟩
  simp [dioramaref02_Over.l0]
 | succ i ih =>
  intro q rest hi hq dq hr hlt hv
  have e : (((i + 1 : Nat) : Int) - 1) = (i : Int) := by omega
  have hx := ha.getD (by decide) i
  have hlr := hlen hr hlt
  obtain ⟨u, eu, hu, vu, lu⟩ := trimmed_f (a.getD i 0 :: rest) (Dg.cons hx.1 hx.2 hr.dg) (by simp; omega)
  have vu2 : dv 1000000000 u = a.getD i 0 + 1000000000 * dv 1000000000 rest := vu
  have r0 := dv_nonneg (by decide) hr.dg
  simp only [List.length_cons] at lu
  obtain ⟨t, rest', g1, g2, g3, g4, g5, g6⟩ := over_l1 a b q u i hb hu (by omega) (by omega) hlb (by omega) hbp 999999999 0 999999999 (by decide) (by decide) (by decide) (by decide) (by have := dv_nonneg (by decide) hu.dg ; omega) (by
   have : (1000000000 : Int) * (dv 1000000000 rest + 1) ≤ 1000000000 * dv 1000000000 b := Int.mul_le_mul_of_nonneg_left (by omega) (by decide)
   rw [vu2]
   omega)
  obtain ⟨r1, r2, he, h⟩ := ih (q.set i t) rest' (by omega) (by simpa using hq) (dq.set _ g1 g2) g3 g5 (by
   rw [dv_drop _ a i (by omega), dv_drop _ (q.set i t) i (by simp; omega), drop_set', getD_set_self (by omega), hv]
   have := vu2
   rw [g4] at this
   grind)
  refine ⟨r1, r2, ?_, h⟩
  rw [e]
  refine Ev.step (f := fun k => (dioramaref02_trimmed.f k (a.getD i 0 :: rest)).bind fun t193 => (dioramaref02_Over.l1 k a b q t193 (i : Int) 0 999999999)) (fun k => ?_) (Ev.bind eu (g6 _ he))
  simp only [dioramaref02_Over.l0, rd_nat, Option.bind_some, List.singleton_append, List.length_singleton]
  rw [if_pos (by omega), if_pos (by omega), if_pos (by omega), if_pos (by omega)]
theorem over_f (a b : List Int) (ha : Nn a) (hb : Nn b) (hla : a.length ≤ 100000) (hlb : b.length ≤ 100000) (hbp : 0 < dv 1000000000 b) :
  ∃ r1 r2, Ev (fun k => dioramaref02_Over.f k a b) (r1, r2) ∧ Nn r1 ∧ Nn r2 ∧ dv 1000000000 a = dv 1000000000 r1 * dv 1000000000 b + dv 1000000000 r2 ∧ dv 1000000000 r2 < dv 1000000000 b ∧ r1.length ≤ a.length ∧ r2.length ≤ b.length := by
 obtain ⟨r1, r2, he, h⟩ := over_l0 a b ha.dg hb hla hlb hbp a.length (List.replicate a.length 0) [] (Nat.le_refl _) (by simp) (Dg.replicate (by decide) _) (Cn.nil _) hbp (by rw [List.drop_of_length_le (Nat.le_refl _), List.drop_of_length_le (by simp)]; simp [dv])
 refine ⟨r1, r2, Ev.congr (fun k => ?_) he, h⟩
 simp only [dioramaref02_Over.f, Int.toNat_natCast]
 rw [if_pos (by omega), if_pos (by omega), w64 (by omega) (by omega)]
end Go.Proofs.YtekommcfpjonmaaGreat.Pc
namespace Go.Proofs.YtekommcfpjonmaaGreat.Qt
open Go.RowKit Go Go.Proofs.YtekommcfpjonmaaGreatW.PrintWords Go.Proofs.YtekommcfpjonmaaGreatW.PrintLast Go.Proofs.YtekommcfpjonmaaGreatW.PrintMore Go.Proofs.YtekommcfpjonmaaGreat.Ml Go.Proofs.YtekommcfpjonmaaGreat.Mn Go.Proofs.YtekommcfpjonmaaGreat.Nd Go.Proofs.YtekommcfpjonmaaGreat.Pa Go.Proofs.YtekommcfpjonmaaGreat.Pb Go.Proofs.YtekommcfpjonmaaGreat.Pc Go.Proofs.YtekommcfpjonmaaGreat.Ea Go.Proofs.YtekommcfpjonmaaGreat.Rf Go.Proofs.YtekommcfpjonmaaGreat.E Go.Proofs.YtekommcfpjonmaaGreat.Qr
set_option linter.unusedVariables false
set_option linter.unusedSimpArgs false
def tmV (q : Rat) : (Int × Int) × Int := if valid q.num q.den = true then ((q.num, (q.den : Int)), 0) else ((0, 0), 2)
theorem time_l {b : Bool} {x y : List Int} (r : Int × Int × Int) (hfin : ∀ u, Nn u → u.length ≤ 1000 → 0 < dv 1000000000 u → dv 1000000000 u = (Int.gcd (dv 1000000000 x) (dv 1000000000 y) : Nat) → Ev (fun k => dioramaref02_Time.l0 k u [] b x y) r) :
  ∀ (m : Nat) (u v : List Int), Nn u → Nn v → u.length ≤ 1000 → v.length ≤ 1000 → (0 < dv 1000000000 u ∨ 0 < dv 1000000000 v) → Int.gcd (dv 1000000000 u) (dv 1000000000 v) = Int.gcd (dv 1000000000 x) (dv 1000000000 y) → (dv 1000000000 v).toNat ≤ m → Ev (fun k => dioramaref02_Time.l0 k u v b x y) r := by
 have zero : ∀ (u v : List Int), Nn u → Nn v → u.length ≤ 1000 → (0 < dv 1000000000 u ∨ 0 < dv 1000000000 v) → Int.gcd (dv 1000000000 u) (dv 1000000000 v) = Int.gcd (dv 1000000000 x) (dv 1000000000 y) → dv 1000000000 v = 0 → Ev (fun k => dioramaref02_Time.l0 k u v b x y) r := by
  intro u v hu hv lu hp hg h0
  obtain rfl := (dv_eq_zero (by decide) hv).1 h0
  have hz : dv 1000000000 [] = 0 := rfl
  rw [hz] at hg hp
  have hpu : 0 < dv 1000000000 u := by omega
  refine hfin u hu lu hpu ?_
  rw [← hg, Int.gcd_zero_right]
  omega
 intro m
 induction m with
 | zero =>
  intro u v hu hv lu lv hp hg hm
  have : 0 ≤ dv 1000000000 v := dv_nonneg (by decide) hv.dg
  exact zero u v hu hv lu hp hg (by omega)
 | succ m ih =>
  intro u v hu hv lu lv hp hg hm
  have hv0 : 0 ≤ dv 1000000000 v := dv_nonneg (by decide) hv.dg
  by_cases h0 : dv 1000000000 v = 0
  ·exact zero u v hu hv lu hp hg h0
  ·obtain ⟨r1, r2, he, n1, n2, e1, e2, l1, l2⟩ := over_f u v hu hv (by omega) (by omega) (by omega)
   have hr0 : 0 ≤ dv 1000000000 r2 := dv_nonneg (by decide) n2.dg
   have hl : (v.length : Int) > 0 := by
    cases v with
    | nil => exact absurd rfl h0
    | cons a t => simp
   refine Ev.step (fun k => by rw [dioramaref02_Time.l0]) (Ev.congr (fun k => if_pos hl) (Ev.bind he ?_))
   exact ih v r2 hv n2 lv (by omega) (.inl (by omega)) ((Ra.gcd_step e1).trans hg) (by omega)
theorem time_f {b : Bool} {x y : List Int} {q : Rat} {n : Nat} (h : RV b x y q n) (hn : n ≤ 1000) : Ev (fun k => dioramaref02_Time.f k b x y) ((tmV q).1.1, (tmV q).1.2, (tmV q).2) := by
 have lx := h.lx
 have ly := h.ly
 have hx0 := h.x0
 have hy0 := h.pos
 by_cases hx : (x.length : Int) = 0
 ·have hxn : x = [] := by cases x with | nil => rfl | cons a t => simp at hx; omega
  have hq : q = 0 := by
   rw [h.eq, hxn]
   unfold qq
   cases b <;> simp [sg, dv]
  refine Ev.congr (f := fun _ => some (0, 1, 0)) (fun k => if_pos hx) ?_
  rw [hq]
  exact Ev.now _
 ·have hz := dv_eq_zero (by decide) h.nx
  have hX : dv 1000000000 x ≠ 0 := fun e => by rw [hz.1 e] at hx; exact hx rfl
  have hG : (Int.gcd (sg b (dv 1000000000 x)) (dv 1000000000 y) : Nat) = Int.gcd (dv 1000000000 x) (dv 1000000000 y) := by
   cases b <;> simp [sg, Int.neg_gcd]
  obtain ⟨s1, s2⟩ := Ra.sg_quo (na := b) (nb := false) (a := sg b (dv 1000000000 x)) (b := dv 1000000000 y) (A := dv 1000000000 x) (B := dv 1000000000 y) (G := (Int.gcd (sg b (dv 1000000000 x)) (dv 1000000000 y) : Nat)) rfl (by simp [sg]) hx0 hy0 rfl
  obtain ⟨t1, t2⟩ := rat_low (a := sg b (dv 1000000000 x)) (b := dv 1000000000 y) (by omega)
  rw [t1, ← h.eq] at s1
  rw [t2, ← h.eq] at s2
  have hbb : (!(b == false)) = b := by cases b <;> rfl
  rw [hbb, hG] at s1
  rw [hG] at s2
  refine Ev.congr (fun k => if_neg hx) ?_
  refine time_l _ ?_ _ x y h.nx h.ny (by omega) (by omega) (.inr hy0) rfl (Nat.le_refl _)
  intro u hu lu hup hug
  rw [← hug] at s1 s2
  have ex := Int.mul_ediv_add_emod (dv 1000000000 x) (dv 1000000000 u)
  obtain ⟨p1, p2, pe, pn1, pn2, pe1, pe2, pl1, pl2⟩ := over_f x u h.nx hu (by omega) (by omega) hup
  obtain ⟨o1, o2, oe, on1, on2, oe1, oe2, ol1, ol2⟩ := over_f y u h.ny hu (by omega) (by omega) hup
  have p0 : 0 ≤ dv 1000000000 p2 := dv_nonneg (by decide) pn2.dg
  have o0 : 0 ≤ dv 1000000000 o2 := dv_nonneg (by decide) on2.dg
  have hp := (Int.ediv_emod_unique (a := dv 1000000000 x) (b := dv 1000000000 u) (q := dv 1000000000 p1) (r := dv 1000000000 p2) hup).2 ⟨by rw [pe1, Int.add_comm, Int.mul_comm], p0, pe2⟩
  have ho := (Int.ediv_emod_unique (a := dv 1000000000 y) (b := dv 1000000000 u) (q := dv 1000000000 o1) (r := dv 1000000000 o2) hup).2 ⟨by rw [oe1, Int.add_comm, Int.mul_comm], o0, oe2⟩
  rw [hp.1] at s1
  rw [ho.1] at s2
  have q0 : 0 ≤ dv 1000000000 p1 := dv_nonneg (by decide) pn1.dg
  have hden : 1 ≤ (q.den : Int) := by have := q.den_pos; omega
  have sm1 := small_f p1 1152921504606846976 pn1 (by omega) (by decide) (by decide)
  have sm2 := small_f o1 1152921504606846976 on1 (by omega) (by decide) (by decide)
  have bad : ¬ (dv 1000000000 p1 ≤ 1152921504606846976 ∧ dv 1000000000 o1 ≤ 1152921504606846976) → tmV q = ((0, 0), 2) := by
   intro hh
   unfold tmV
   refine if_neg fun hv => hh ?_
   unfold Ea.valid at hv
   simp only [Bool.and_eq_true, decide_eq_true_eq] at hv
   rw [← s1, ← s2] at hv
   cases b <;> simp [sg] at hv <;> omega
  refine Ev.step (fun k => by rw [dioramaref02_Time.l0]) (Ev.congr (fun k => if_neg (show ¬ ((([] : List Int).length : Int) > 0) by simp)) (Ev.bind pe (Ev.bind oe (Ev.bind sm1 (Ev.bind sm2 ?_)))))
  by_cases h1 : 1152921504606846976 < dv 1000000000 p1
  ·rw [if_pos h1, bad (by omega)]
   refine Ev.congr (fun k => if_neg (show ¬ (false = true) by decide)) (Ev.step (fun k => by rw [dioramaref02_Time.j1]) (Ev.congr (fun k => if_pos rfl) (Ev.now _)))
  ·rw [if_neg h1]
   refine Ev.congr (fun k => if_pos rfl) ?_
   by_cases h2 : 1152921504606846976 < dv 1000000000 o1
   ·rw [if_pos h2, bad (by omega)]
    exact Ev.step (fun k => by rw [dioramaref02_Time.j1]) (Ev.congr (fun k => if_pos (show (!false) = true from rfl)) (Ev.now _))
   ·rw [if_neg h2]
    have hv : tmV q = ((q.num, (q.den : Int)), 0) := by
     unfold tmV
     refine if_pos ?_
     unfold Ea.valid
     simp only [Bool.and_eq_true, decide_eq_true_eq]
     rw [← s1, ← s2]
     rw [← s2] at hden
     cases b <;> simp [sg] <;> omega
    rw [hv, ← s1, ← s2]
    refine Ev.step (fun k => by rw [dioramaref02_Time.j1]) (Ev.congr (fun k => if_neg (show ¬ (!true) = true by decide)) ?_)
    cases b with
    | false => exact Ev.congr (fun k => if_neg (by decide)) (Ev.now _)
    | true =>
     refine Ev.congr (fun k => if_pos rfl) ?_
     rw [w64 (by omega) (by omega)]
     exact Ev.now _
end Go.Proofs.YtekommcfpjonmaaGreat.Qt
namespace Go.Proofs.YtekommcfpjonmaaGreat.Qu
open Go.RowKit Go Go.Proofs.YtekommcfpjonmaaGreatW.PrintWords Go.Proofs.YtekommcfpjonmaaGreatW.PrintLast Go.Proofs.YtekommcfpjonmaaGreatW.PrintMore Go.Proofs.YtekommcfpjonmaaGreat.Ml Go.Proofs.YtekommcfpjonmaaGreat.Mn Go.Proofs.YtekommcfpjonmaaGreat.Nd Go.Proofs.YtekommcfpjonmaaGreat.Pa Go.Proofs.YtekommcfpjonmaaGreat.Pb Go.Proofs.YtekommcfpjonmaaGreat.Pc Go.Proofs.YtekommcfpjonmaaGreat.Rf Go.Proofs.YtekommcfpjonmaaGreat.E Go.Proofs.YtekommcfpjonmaaGreat.Qr Go.Proofs.YtekommcfpjonmaaGreat.Qt
set_option linter.unusedVariables false
set_option linter.unusedSimpArgs false
theorem ratOf_f (n d : Int) (hn : -9223372036854775807 ≤ n) (hn1 : n ≤ 9223372036854775807) (hd : 0 < d) (hd1 : d ≤ 9223372036854775807) : RE (fun k => dioramaref02_RatOf.f k n d) (qq n d) 3 := by
 obtain ⟨y, ey, ny, vy, ly⟩ := of_f d (by omega) hd1
 by_cases h : n < 0
 ·obtain ⟨x, ex, nx, vx, lx⟩ := of_f (-n) (by omega) (by omega)
  have hs : Ev (fun k => dioramaref02_size.f k n) x := by
   refine Ev.congr (fun k => if_pos h) ?_
   rw [w64 (by omega) (by omega)]
   exact Ev.bind ex (Ev.now _)
  refine ⟨decide (n < 0), x, y, Ev.congr (fun k => rfl) (Ev.bind hs (Ev.bind ey (Ev.now _))), ⟨nx, ny, by rw [vy]; exact hd, ?_, lx, ly⟩⟩
  rw [vx, vy, decide_eq_true h]
  simp [sg]
 ·obtain ⟨x, ex, nx, vx, lx⟩ := of_f n (by omega) hn1
  have hs : Ev (fun k => dioramaref02_size.f k n) x := Ev.congr (fun k => if_neg h) (Ev.bind ex (Ev.now _))
  refine ⟨decide (n < 0), x, y, Ev.congr (fun k => rfl) (Ev.bind hs (Ev.bind ey (Ev.now _))), ⟨nx, ny, by rw [vy]; exact hd, ?_, lx, ly⟩⟩
  rw [vx, vy, decide_eq_false h]
  simp [sg]
theorem rvalid_f (n d : Int) : dioramaref02_Valid.f n d = some (Ea.valid n d) := by
 unfold dioramaref02_Valid.f Ea.valid
 by_cases h1 : d ≥ 1
 ·rw [if_pos h1, decide_eq_true (show 1 ≤ d from h1)]
  by_cases h2 : d ≤ 1152921504606846976
  ·rw [if_pos h2, decide_eq_true h2]
   by_cases h3 : n ≥ -1152921504606846976
   ·rw [if_pos h3, decide_eq_true (show -1152921504606846976 ≤ n from h3)]
    rfl
   ·rw [if_neg h3, decide_eq_false (show ¬ -1152921504606846976 ≤ n from h3)]
    rfl
  ·rw [if_neg h2, decide_eq_false h2]
   rfl
 ·rw [if_neg h1, decide_eq_false (show ¬ 1 ≤ d from h1)]
  rfl
theorem valid_is {n d : Int} (h : Ea.valid n d = true) : (-1152921504606846976 ≤ n ∧ n ≤ 1152921504606846976) ∧ 1 ≤ d ∧ d ≤ 1152921504606846976 := by
 unfold Ea.valid at h
 simp only [Bool.and_eq_true, decide_eq_true_eq] at h
 omega
theorem ratOf_v {n d : Int} (h : Ea.valid n d = true) : RE (fun k => dioramaref02_RatOf.f k n d) (qq n d) 3 := by
 have := valid_is h
 exact ratOf_f n d (by omega) (by omega) (by omega) (by omega)
end Go.Proofs.YtekommcfpjonmaaGreat.Qu
namespace Go.Proofs.YtekommcfpjonmaaGreat.Sy
open Go.RowKit Go Go.Proofs.YtekommcfpjonmaaGreatW.PrintWords Go.Proofs.YtekommcfpjonmaaGreatW.PrintLast Go.Proofs.YtekommcfpjonmaaGreatW.PrintMore Go.Proofs.YtekommcfpjonmaaGreat.Mn Go.Proofs.YtekommcfpjonmaaGreat.Rf Go.Proofs.YtekommcfpjonmaaGreat.E Go.Proofs.YtekommcfpjonmaaGreat.Sg Go.Proofs.YtekommcfpjonmaaGreat.Sx
set_option linter.unusedVariables false
set_option linter.unusedSimpArgs false
def clnL (l : List Sn) : List Sn := (cnl (l.map qS)).map lS
def allV (l : List Sn) : Bool := l.all vS
def tch (a b : Sn) : Sn × Bool := if qT a.f1 < qT b.f0 then (a, false) else (if qT a.f1 < qT b.f1 then ⟨a.f0, b.f1⟩ else a, true)
def jnS : Sn → List Sn → List Sn
 | a, [] => [a]
 | a, x :: r => if (tch a x).2 = true then jnS (tch a x).1 r else a :: jnS x r
def mrgS : List Sn → List Sn
 | [] => []
 | a :: r => jnS a r
theorem jnS_lS : ∀ (r : List Sq) (a : Sq), jnS (lS a) (r.map lS) = (jn a r).map lS
 | [], a => rfl
 | x :: r, a => by
  rw [List.map_cons, jnS, jn]
  unfold tch
  have e1 : qT (lS a).f1 = a.2 := qT_lT _
  have e2 : qT (lS x).f0 = x.1 := qT_lT _
  have e3 : qT (lS x).f1 = x.2 := qT_lT _
  rw [e1, e2, e3]
  by_cases h : a.2 < x.1
  ·rw [if_pos h, if_pos h, if_neg (show ¬ (false = true) by decide), jnS_lS r x]
   rfl
  ·rw [if_neg h, if_neg h, if_pos rfl]
   have e : (if a.2 < x.2 then (⟨(lS a).f0, (lS x).f1⟩ : Sn) else lS a) = lS (a.1, mxR a.2 x.2) := by
    unfold mxR lS
    split <;> rfl
   show jnS (if a.2 < x.2 then (⟨(lS a).f0, (lS x).f1⟩ : Sn) else lS a) (r.map lS) = _
   rw [e, jnS_lS r _]
theorem mrgS_lS (l : List Sq) : mrgS (l.map lS) = (mrg l).map lS := by
 cases l with
 | nil => rfl
 | cons a r => exact jnS_lS r a
def lowF (l : List Sn) : List Sn := (full (l.map qS)).map lS
theorem lowF_cons (s : Sn) (l : List Sn) : lowF (s :: l) = if qT s.f0 < qT s.f1 then lS (qS s) :: lowF l else lowF l := by
 unfold lowF full
 rw [List.map_cons, List.filter_cons]
 by_cases h : qT s.f0 < qT s.f1
 ·rw [if_pos (decide_eq_true (show (qS s).1 < (qS s).2 from h)), if_pos h]
  rfl
 ·rw [if_neg (show ¬ decide ((qS s).1 < (qS s).2) = true from fun hc => h (of_decide_eq_true hc)), if_neg h]
theorem mrgS_sorted {l m : List Sn} (hm : m.Perm (lowF l)) (ho : ∀ i j : Nat, i < j → ∀ x y, m[i]? = some x → m[j]? = some y → ¬ qT y.f0 < qT x.f0) : mrgS m = clnL l := by
 have e : m = (m.map qS).map lS := by
  have : ∀ s ∈ m, lS (qS s) = s := fun s hs => by
   obtain ⟨q, hq, rfl⟩ := List.mem_map.1 (show s ∈ (full (l.map qS)).map lS from hm.mem_iff.1 hs)
   rw [qS_lS]
  rw [List.map_map]
  conv => lhs; rw [← List.map_id m]
  exact List.map_congr_left (fun s hs => (this s hs).symm)
 have hmem : ∀ s, s ∈ m.map qS ↔ s ∈ full (l.map qS) := fun s => by
  constructor
  ·intro h
   obtain ⟨x, hx, rfl⟩ := List.mem_map.1 h
   obtain ⟨q, hq, rfl⟩ := List.mem_map.1 (show x ∈ (full (l.map qS)).map lS from hm.mem_iff.1 hx)
   rw [qS_lS]
   exact hq
  ·intro h
   refine List.mem_map.2 ⟨lS s, hm.mem_iff.2 (List.mem_map.2 ⟨s, h, rfl⟩), qS_lS s⟩
 have hod : ∀ (m : List Sn), (∀ s ∈ m, qT s.f0 < qT s.f1) → (∀ i j : Nat, i < j → ∀ x y, m[i]? = some x → m[j]? = some y → ¬ qT y.f0 < qT x.f0) → Od (m.map qS) := by
  intro m
  induction m with
  | nil => intro _ _; trivial
  | cons a t ih =>
   intro h1 h2
   refine ⟨h1 a (by simp), fun x hx => ?_, ih (fun s hs => h1 s (by simp [hs])) (fun i j hij x y hx hy => h2 (i + 1) (j + 1) (by omega) x y (by simpa using hx) (by simpa using hy))⟩
   obtain ⟨y, hy, rfl⟩ := List.mem_map.1 hx
   obtain ⟨j, hj, he⟩ := List.getElem_of_mem hy
   exact Rat.not_lt.1 (h2 0 (j + 1) (by omega) a y rfl (by simp [List.getElem?_eq_getElem hj, he]))
 have hf : ∀ s ∈ m, qT s.f0 < qT s.f1 := fun s hs => by
  have := (hmem (qS s)).1 (List.mem_map.2 ⟨s, hs, rfl⟩)
  exact full_lt _ this
 rw [e, mrgS_lS, cnl_sorted (hod m hf ho) hmem]
 rfl
end Go.Proofs.YtekommcfpjonmaaGreat.Sy
namespace Go.Proofs.YtekommcfpjonmaaGreat.Eb
open Go.RowKit Go Go.Proofs.YtekommcfpjonmaaGreatW.PrintWords Go.Proofs.YtekommcfpjonmaaGreatW.PrintLast Go.Proofs.YtekommcfpjonmaaGreatW.PrintMore Go.Proofs.YtekommcfpjonmaaGreat.Ml Go.Proofs.YtekommcfpjonmaaGreat.Mn Go.Proofs.YtekommcfpjonmaaGreat.Nd Go.Proofs.YtekommcfpjonmaaGreat.Z Go.Proofs.YtekommcfpjonmaaGreat.P Go.Proofs.YtekommcfpjonmaaGreat.Nc Go.Proofs.YtekommcfpjonmaaGreat.Nb Go.Proofs.YtekommcfpjonmaaGreat.Qa Go.Proofs.YtekommcfpjonmaaGreat.Qb Go.Proofs.YtekommcfpjonmaaGreat.Ea Go.Proofs.YtekommcfpjonmaaGreat.E
set_option linter.unusedVariables false
set_option linter.unusedSimpArgs false
set_option maxHeartbeats 2000000 in
theorem product_n (a b : Int) (w : World) (a0 : -9223372036854775808 ≤ a) (a1 : a ≤ 9223372036854775807) (b0 : -9223372036854775808 ≤ b) (b1 : b ≤ 9223372036854775807) :
  Calls Tryz.prog 81 #[.int .i64 a, .int .i64 b] w (NewP w (a * b) 4) := by
 have hA := Aside0.mk (And.intro (And.intro a0 a1) (And.intro b0 b1))
 clear a0 a1 b0 b1
 go_enter Tryz.func81, Tryz.ntmps81
 go_wp2_with fail
 have hr := room_new w
 have hb1 : Below w.heap.size w (w.alloc (.cells #[.bool false, .slice none 0 0] 119)) := below_alloc (Below.refl _ w) _
 have s1 := hb1.size
 refine (newInt_n a _ hA.out.1.1 hA.out.1.2).mono ?_
 rintro e w2 ⟨g1, hg1, rfl, hb2, hN1⟩
 have H1 := Aside0.mk (And.intro hr (And.intro hb1 (And.intro hb2 hN1)))
 clear hr hb1 hb2 hN1
 go_wp2_with fail
 refine (newInt_n b _ hA.out.2.1 hA.out.2.2).mono ?_
 rintro e w3 ⟨g2, hg2, rfl, hb3, hN2⟩
 have H2 := Aside0.mk (And.intro hb3 hN2)
 clear hb3 hN2
 go_wp2_with fail
 have hlt := H1.out.1.lt
 refine (mul_n w.heap.size 0 g1 0 g2 0 a b 2 2 w3 ((H1.out.1.below H1.out.2.2.1).below H2.out.1) (H1.out.2.2.2.below H2.out.1) H2.out.2 (by decide)).mono ?_
 rintro e w4 ⟨rfl, hw, hN⟩
 have H3 := Aside0.mk (And.intro hw hN)
 clear hw hN
 go_wp2_with fail
 go_ret
 have s2 := H1.out.2.1.size
 have s3 := H1.out.2.2.1.size
 have s4 := H2.out.1.size
 exact ⟨_, Nat.le_refl _, rfl, H1.out.2.1.trans ((H1.out.2.2.1.mono s2).trans ((H2.out.1.mono (by omega)).trans (H3.out.1.below (Nat.le_refl _) (by omega)))), H3.out.2⟩
theorem _root_.Go.Proofs.YtekommcfpjonmaaGreat.Nd.Wrote.room' {w w' : World} {g o g2 o2 : Nat} (h : Wrote w w' g o) (_ : Room w g o) (hr : Room w g2 o2) (hne : g2 ≠ g) : Room w' g2 o2 := Wrote.room h hr hne
def rnd (h n d : Int) : Int := if h = 1 then (n + d - 1) / d else if h = 2 then (n * 2 + d) / (d * 2) else n / d
set_option maxHeartbeats 4000000 in
theorem rounded_n (gn gd nn nd : Nat) (n d h : Int) (w : World) (hn : IsN w gn 0 n nn) (hd : IsN w gd 0 d nd) (hp : 0 < d) (hh : h = 0 ∨ h = 1 ∨ h = 2) (hl : nn + nd ≤ 100) :
  Calls Tryz.prog 80 #[.pointer (some ⟨gn, 0, none⟩), .pointer (some ⟨gd, 0, none⟩), .int .i64 h] w (NewP w (rnd h n d) (nn + nd + 10)) := by
 have hb1 : Below w.heap.size w (w.alloc (.cells #[.bool false, .slice none 0 0] 119)) := below_alloc (Below.refl _ w) _
 have s1 := hb1.size
 have hr := room_new w
 rcases hh with rfl | rfl | rfl
 ·go_enter Tryz.func80, Tryz.ntmps80
  go_wp2_with fail
  refine (divI_n w.heap.size 0 gn 0 gd 0 n d nn nd w.heap.size _ hr (hn.below hb1) (hd.below hb1) hp (by omega) (Nat.le_refl _)).mono ?_
  rintro e w2 ⟨rfl, hB, hN⟩
  have H := Aside0.mk (And.intro hB hN)
  clear hB hN
  go_wp2_with fail
  go_ret
  exact ⟨_, Nat.le_refl _, rfl, hb1.trans H.out.1, H.out.2.mono (by omega)⟩
 ·go_enter Tryz.func80, Tryz.ntmps80
  go_wp2_with fail
  refine (add_n w.heap.size 0 gn 0 gd 0 n d nn nd _ hr (hn.below hb1) (hd.below hb1).w (by omega)).mono ?_
  rintro e w2 ⟨rfl, hw, hN⟩
  have hx := hn.lt
  have hy := hd.lt
  have H := Aside0.mk (And.intro hw (And.intro hN (hw.isN hr (hd.below hb1) (.inl (by omega)))))
  have HB2 := Aside0.mk (hb1.trans (hw.below (Nat.le_refl _) s1))
  clear hw hN
  go_wp2_with fail
  refine (newInt_n 1 _ (by decide) (by decide)).mono ?_
  rintro e w3 ⟨g3, hg3, rfl, hb3, hN3⟩
  have H3 := Aside0.mk (And.intro hb3 hN3)
  have hm : max nn nd ≤ nn + nd := by omega
  clear hb3 hN3
  go_wp2_with fail
  have hx2 := H.out.2.1.below H3.out.1
  refine (subI_n w.heap.size 0 w.heap.size 0 g3 0 (n + d) 1 _ 2 w3 hx2.room hx2 H3.out.2 (by omega)).mono ?_
  rintro e w4 ⟨rfl, hw4, hN4⟩
  have s2 := HB2.out.size
  have s3 := H3.out.1.size
  have hlt := H.out.2.2.lt
  have hyd : IsN w4 gd 0 d nd := hw4.isN hx2.room (H.out.2.2.below H3.out.1) (.inl (by omega))
  have HB4 := Aside0.mk (show Below w.heap.size w w4 from (HB2.out.trans (H3.out.1.mono s2)).trans (hw4.below (Nat.le_refl _) (by omega)))
  have H4 := Aside0.mk (And.intro hN4 hyd)
  clear hw4 hN4 hyd
  go_wp2_with fail
  have hb5 : Below w4.heap.size w4 (w4.alloc (.cells #[.bool false, .slice none 0 0] 119)) := below_alloc (Below.refl _ w4) _
  refine (divI_n w4.heap.size 0 w.heap.size 0 gd 0 (n + d - 1) d _ nd w4.heap.size _ (room_new w4) (H4.out.1.below hb5) (H4.out.2.below hb5) hp (by omega) (Nat.le_refl _)).mono ?_
  rintro e w6 ⟨rfl, hB6, hN6⟩
  have H6 := Aside0.mk (And.intro hB6 hN6)
  clear hB6 hN6
  go_wp2_with fail
  go_ret
  have s4 := HB4.out.size
  exact ⟨_, s4, rfl, HB4.out.trans ((hb5.trans H6.out.1).mono s4), H6.out.2.mono (by omega)⟩
 ·go_enter Tryz.func80, Tryz.ntmps80
  go_wp2_with fail
  generalize hw1 : w.alloc (.cells #[.bool false, .slice none 0 0] 119) = w1 at *
  have sz1 : w1.heap.size = w.heap.size + 1 := by rw [← hw1]; simp
  have hb2 : Below w1.heap.size w1 (w1.alloc (.cells #[.bool false, .slice none 0 0] 119)) := below_alloc (Below.refl _ w1) _
  have hr2 := room_new w1
  rw [sz1] at hr2
  refine (lsh_n (w.heap.size + 1) 0 gn 0 n nn _ hr2 ((hn.below hb1).below hb2) (by omega)).mono ?_
  rintro e w3 ⟨rfl, hw3, hN3⟩
  have hx := hn.lt
  have hy := hd.lt
  have s2 := hb2.size
  have hA := hw3.room' hr2 (hr.below hb2) (by omega)
  have hD := hw3.isN hr2 ((hd.below hb1).below hb2) (.inl (by omega))
  have HB3 := Aside0.mk ((hb1.trans (hb2.mono s1)).trans (hw3.below (by omega) (by omega)))
  have H3 := Aside0.mk (And.intro hN3 (And.intro hA hD))
  clear hw3 hN3 hA hD
  go_wp2_with fail
  refine (add_n w.heap.size 0 (w.heap.size + 1) 0 gd 0 (n * 2) d (nn + 1) nd w3 H3.out.2.1 H3.out.1 H3.out.2.2.w (by omega)).mono ?_
  rintro e w4 ⟨rfl, hw4, hN4⟩
  have hD := hw4.isN H3.out.2.1 H3.out.2.2 (.inl (by omega))
  have s3 := HB3.out.size
  have HB4 := Aside0.mk (HB3.out.trans (hw4.below (Nat.le_refl _) s3))
  have H4 := Aside0.mk (And.intro hN4 hD)
  clear hw4 hN4 hD
  go_wp2_with fail
  have hb5 : Below w4.heap.size w4 (w4.alloc (.cells #[.bool false, .slice none 0 0] 119)) := below_alloc (Below.refl _ w4) _
  have s4 := HB4.out.size
  have s5 := hb5.size
  have hy4 := H4.out.2.lt
  have hx4 := H4.out.1.lt
  refine (lsh_n w4.heap.size 0 gd 0 d nd _ (room_new w4) (H4.out.2.below hb5) (by omega)).mono ?_
  rintro e w6 ⟨rfl, hw6, hN6⟩
  have hS := hw6.isN (room_new w4) (H4.out.1.below hb5) (.inl (by omega))
  have HB6 := Aside0.mk (HB4.out.trans ((hb5.mono s4).trans (hw6.below s4 (by omega))))
  have H6 := Aside0.mk (And.intro hN6 hS)
  clear hw6 hN6 hS
  go_wp2_with fail
  have hb7 : Below w6.heap.size w6 (w6.alloc (.cells #[.bool false, .slice none 0 0] 119)) := below_alloc (Below.refl _ w6) _
  have hm : max (nn + 1) nd ≤ nn + nd + 1 := by omega
  refine (divI_n w6.heap.size 0 w.heap.size 0 w4.heap.size 0 (n * 2 + d) (d * 2) _ (nd + 1) w6.heap.size _ (room_new w6) (H6.out.2.below hb7) (H6.out.1.below hb7) (by omega) (by omega) (Nat.le_refl _)).mono ?_
  rintro e w8 ⟨rfl, hB8, hN8⟩
  have H8 := Aside0.mk (And.intro hB8 hN8)
  clear hB8 hN8
  go_wp2_with fail
  go_ret
  have s6 := HB6.out.size
  exact ⟨_, s6, rfl, HB6.out.trans ((hb7.trans H8.out.1).mono s6), H8.out.2.mono (by omega)⟩
theorem blk_two {w : World} {g : Nat} {t : TypeId} {a b x y : Value} (h : w.heap[g]? = some (.cells #[a, b] t (0, 0))) : ((w.setCell ⟨g, 0, none⟩ x).setCell ⟨g, 1, none⟩ y).heap[g]? = some (.cells #[x, y] t (0, 0)) :=
 blk_put (cs := #[x, b]) (blk_put (cs := #[a, b]) h 0 x rfl) 1 y rfl
def two (a b : Value) : Value := .tuple #[a, b]
def vFrom (t s : Int) : Value := if isTicks t && isScale s then two (tm (lowN t s) (lowD t s)) (er 0) else two (tm 0 0) (er 1)
set_option maxHeartbeats 4000000 in
set_option maxRecDepth 100000 in
theorem From_n (t s : Int) (w : World) : Calls Tryz.prog 85 #[.int .i64 t, .int .i64 s] w (ValP w (vFrom t s)) := by
 have hu := Tryz.underlying24
 unfold vFrom two tm er
 have hb1 : ∀ c, Below w.heap.size w (w.alloc c) := fun c => below_alloc (Below.refl _ w) _
 cases ht : isTicks t with
 | false =>
  go_enter Tryz.func85, Tryz.ntmps85
  go_wp2_with fail
  refine (isTicks_n t _).mono ?_
  rintro e w2 ⟨rfl, rfl⟩
  rw [ht]
  go_wp2_with fail
  refine bodyPost_ret (results_ct rfl _ _ w.heap.size 24 #[.int .i64 0, .int .i64 0] (0, 0) _ rfl (blk_new w _) Tryz.underlying24 rfl (by kernel_rfl)) rfl ?_
  exact ⟨rfl, hb1 _⟩
 | true =>
  cases hs : isScale s with
  | false =>
   go_enter Tryz.func85, Tryz.ntmps85
   go_wp2_with fail
   refine (isTicks_n t _).mono ?_
   rintro e w2 ⟨rfl, rfl⟩
   rw [ht]
   go_wp2_with fail
   refine (isScale_n s _).mono ?_
   rintro e w2 ⟨rfl, rfl⟩
   rw [hs]
   go_wp2_with fail
   refine bodyPost_ret (results_ct rfl _ _ w.heap.size 24 #[.int .i64 0, .int .i64 0] (0, 0) _ rfl (blk_new w _) Tryz.underlying24 rfl (by kernel_rfl)) rfl ?_
   exact ⟨rfl, hb1 _⟩
  | true =>
   have ht2 : -1099511627776 ≤ t ∧ t ≤ 1099511627776 := by unfold isTicks at ht; simpa using ht
   have hs2 : 1 ≤ s ∧ s ≤ 1000000 := by unfold isScale at hs; simpa using hs
   obtain ⟨k, hk⟩ := lowest_f t s (by omega) (by omega) (by omega) (by omega)
   have HK := Aside0.mk hk
   clear hk ht2 hs2
   go_enter Tryz.func85, Tryz.ntmps85
   go_wp2_with fail
   refine (isTicks_n t _).mono ?_
   rintro e w2 ⟨rfl, rfl⟩
   rw [ht]
   go_wp2_with fail
   refine (isScale_n s _).mono ?_
   rintro e w2 ⟨rfl, rfl⟩
   rw [hs]
   go_wp2_with fail
   refine (exact_lowest.calls k t s _ _ _ HK.out).mono ?_
   rintro e w3 ⟨rfl, hb3⟩
   have hblk := blk_below (blk_new w _) hb3
   have hc0 : w3.cell? ⟨w.heap.size, 0, none⟩ = some (.int .i64 0) := (blk_cell hblk 0).trans rfl
   have hf0 := blk_frozen hblk 0
   have hc1 : w3.cell? ⟨w.heap.size, 1, none⟩ = some (.int .i64 0) := (blk_cell hblk 1).trans rfl
   have hf1 := blk_frozen hblk 1
   have HB3 := Aside0.mk ((hb1 _).trans (hb3.mono (hb1 _).size))
   have HBL := Aside0.mk hblk
   clear hblk hb3
   go_wp2_with fail
   refine bodyPost_ret (results_ct rfl _ _ w.heap.size 24 #[.int .i64 (lowN t s), .int .i64 (lowD t s)] (0, 0) _ rfl (blk_two HBL.out) Tryz.underlying24 rfl (by kernel_rfl)) rfl ?_
   exact ⟨rfl, (HB3.out.setCell (Nat.le_refl _) _).setCell (Nat.le_refl _) _⟩
def big (q : Int) : Bool := decide (1099511627776 < (q.natAbs : Int))
def vTicks (n d s h : Int) : Value := if valid n d then (if isScale s && isHow h then (if big (rnd h (n * s) d) then two (.int .i64 0) (er 2) else two (.int .i64 (rnd h (n * s) d)) (er 0)) else two (.int .i64 0) (er 1)) else two (.int .i64 0) (er 4)
set_option maxHeartbeats 8000000 in
set_option maxRecDepth 100000 in
theorem Ticks_n (n d s h : Int) (w : World) : Calls Tryz.prog 35 #[tm n d, .int .i64 s, .int .i64 h] w (ValP w (vTicks n d s h)) := by
 have hu := Tryz.underlying24
 have hb1 : Below w.heap.size w (w.alloc (.cells #[.int .i64 n, .int .i64 d] 24)) := below_alloc (Below.refl _ w) _
 have hbk := blk_new w (.cells #[.int .i64 n, .int .i64 d] 24)
 have s1 := hb1.size
 cases hv : valid n d with
 | false =>
  rw [show vTicks n d s h = .tuple #[.int .i64 0, .int .i64 4] by unfold vTicks; rw [hv]; rfl]
  unfold tm
  go_enter Tryz.func35, Tryz.ntmps35
  go_wp2_with fail
  refine (Valid_n n d _).mono ?_
  rintro e w2 ⟨rfl, hb2⟩
  rw [hv]
  go_wp2_with fail
  go_ret2
  exact ⟨rfl, hb1.trans (hb2.mono s1)⟩
 | true =>
  cases hs : isScale s with
  | false =>
   rw [show vTicks n d s h = .tuple #[.int .i64 0, .int .i64 1] by unfold vTicks; rw [hv, hs]; rfl]
   unfold tm
   go_enter Tryz.func35, Tryz.ntmps35
   go_wp2_with fail
   refine (Valid_n n d _).mono ?_
   rintro e w2 ⟨rfl, hb2⟩
   rw [hv]
   go_wp2_with fail
   refine (isScale_n s _).mono ?_
   rintro e w3 ⟨rfl, rfl⟩
   rw [hs]
   go_wp2_with fail
   go_ret2
   exact ⟨rfl, hb1.trans (hb2.mono s1)⟩
  | true =>
   cases hh : isHow h with
   | false =>
    rw [show vTicks n d s h = .tuple #[.int .i64 0, .int .i64 1] by unfold vTicks; rw [hv, hs, hh]; rfl]
    unfold tm
    go_enter Tryz.func35, Tryz.ntmps35
    go_wp2_with fail
    refine (Valid_n n d _).mono ?_
    rintro e w2 ⟨rfl, hb2⟩
    rw [hv]
    go_wp2_with fail
    refine (isScale_n s _).mono ?_
    rintro e w3 ⟨rfl, rfl⟩
    rw [hs]
    go_wp2_with fail
    refine (isHow_n h _).mono ?_
    rintro e w3 ⟨rfl, rfl⟩
    rw [hh]
    go_wp2_with fail
    go_ret2
    exact ⟨rfl, hb1.trans (hb2.mono s1)⟩
   | true =>
    have hv2 : ((1 ≤ d ∧ d ≤ 1152921504606846976) ∧ -1152921504606846976 ≤ n) ∧ n ≤ 1152921504606846976 := by unfold valid at hv; simpa using hv
    have hs2 : 1 ≤ s ∧ s ≤ 1000000 := by unfold isScale at hs; simpa using hs
    have hh2 : h = 0 ∨ h = 1 ∨ h = 2 := by unfold isHow at hh; simp at hh; omega
    obtain ⟨⟨⟨hd1, hd2⟩, hn1⟩, hn2⟩ := hv2
    have hV : vTicks n d s h = if big (rnd h (n * s) d) then .tuple #[.int .i64 0, .int .i64 2] else .tuple #[.int .i64 (rnd h (n * s) d), .int .i64 0] := by unfold vTicks; rw [hv, hs, hh]; rfl
    generalize vTicks n d s h = V at hV ⊢
    generalize hqq : rnd h (n * s) d = q at hV
    have HQ := Aside0.mk (And.intro hqq hV)
    clear hqq hV
    unfold tm
    go_enter Tryz.func35, Tryz.ntmps35
    go_wp2_with fail
    refine (Valid_n n d _).mono ?_
    rintro e w2 ⟨rfl, hb2⟩
    rw [hv]
    go_wp2_with fail
    refine (isScale_n s _).mono ?_
    rintro e w3 ⟨rfl, rfl⟩
    rw [hs]
    go_wp2_with fail
    refine (isHow_n h _).mono ?_
    rintro e w3 ⟨rfl, rfl⟩
    rw [hh]
    have hbk2 := blk_below hbk hb2
    have HB2 := Aside0.mk (hb1.trans (hb2.mono s1))
    clear hb2 hbk
    have hc0 : w2.cell? ⟨w.heap.size, 0, none⟩ = some (.int .i64 n) := (blk_cell hbk2 0).trans rfl
    have hc1 : w2.cell? ⟨w.heap.size, 1, none⟩ = some (.int .i64 d) := (blk_cell hbk2 1).trans rfl
    go_wp2_with fail
    refine start_ (n := 10) (S := fun w' => w'.cell? ⟨w.heap.size, 0, none⟩ = some (.int .i64 n) ∧ w'.cell? ⟨w.heap.size, 1, none⟩ = some (.int .i64 d)) (ds := []) (bs 10 0) (by kernel_rfl) rfl rfl ⟨hc0, hc1⟩ (fun hHeld => ?_)
    refine zP 0 20 10 1 ?_
    refine zP 2 22 10 5 ?_
    refine zP 4 24 10 21 ?_
    refine zP 7 27 10 149 ?_
    refine zT 1 21 10 151 hHeld ?_
    refine zT 5 25 10 183 hHeld ?_
    refine zN 3 (some 23) 10 191 (fun K hK => ?_)
    refine zG Tryz.func81 #[.int .i64 n, .int .i64 s] ?_
    with_reducible refine (product_n n s _ (by omega) (by omega) (by omega) (by omega)).mono ?_
    rintro e w4 ⟨g4, hg4, rfl, hb4, hN4⟩
    refine ⟨_, rfl, ?_⟩
    have hb4' := below_drew' hb4
    refine hK.out _ _ ⟨pw_cell_below hb4' hc0, pw_cell_below hb4' hc1⟩ (fun hHeld => ?_)
    clear hK K
    refine zM 23 ?_
    refine zN 6 (some 26) 10 255 (fun K hK => ?_)
    refine zG Tryz.func82 #[.int .i64 d] ?_
    with_reducible refine (newInt_n d w4 (by omega) (by omega)).mono ?_
    rintro e w5 ⟨g5, hg5, rfl, hb5, hN5⟩
    refine ⟨_, rfl, ?_⟩
    have hb45 := hb4'.trans (hb5.mono hb4'.size)
    refine hK.out _ _ ⟨pw_cell_below hb45 hc0, pw_cell_below hb45 hc1⟩ (fun hHeld => ?_)
    clear hK K
    refine zM 26 ?_
    refine zN 8 (some 28) 10 511 (fun K hK => ?_)
    refine zG Tryz.func80 #[.pointer (some ⟨g4, 0, none⟩), .pointer (some ⟨g5, 0, none⟩), .int .i64 h] ?_
    with_reducible refine (rounded_n g4 g5 4 2 (n * s) d h w5 (hN4.below hb5) hN5 (by omega) hh2 (by decide)).mono ?_
    rintro e w6 ⟨g6, hg6, rfl, hb6, hN6⟩
    refine ⟨_, rfl, ?_⟩
    have hb46 := hb45.trans (hb6.mono hb45.size)
    refine hK.out _ _ ⟨pw_cell_below hb46 hc0, pw_cell_below hb46 hc1⟩ (fun hHeld => ?_)
    clear hK K
    refine zM 28 ?_
    refine zP 9 8 10 1023 ?_
    refine done_ (by kernel_rfl) ?_
    rw [HQ.out.1] at hN6
    have HB6 := Aside0.mk (HB2.out.trans (hb46.mono HB2.out.size))
    have H6 := Aside0.mk hN6
    clear hN6 hb46 hb45 hb4 hb4' hb5 hb6 hN4 hN5 hc0 hc1 hbk2 HB2 hHeld
    go_wp2_with fail
    refine (newInt_n 1099511627776 w6 (by decide) (by decide)).mono ?_
    rintro e w7 ⟨g7, hg7, rfl, hb7, hN7⟩
    have HB7 := Aside0.mk (HB6.out.trans (hb7.mono HB6.out.size))
    have H7 := Aside0.mk (And.intro (H6.out.below hb7) hN7)
    clear hb7 hN7 HB6 H6
    go_wp2_with fail
    refine (cmpAbs_n g6 0 g7 0 q 1099511627776 _ _ w7 H7.out.1 H7.out.2 (by decide)).mono ?_
    rintro e w8 ⟨rfl, hb8⟩
    have HB8 := Aside0.mk (HB7.out.trans (hb8.mono HB7.out.size))
    have H8 := Aside0.mk (H7.out.1.below hb8)
    clear hb8 HB7 H7
    by_cases hbig : 1099511627776 < (q.natAbs : Int)
    ·have e1 : big q = true := decide_eq_true hbig
     have e2 : cmpI (q.natAbs : Int) ((1099511627776 : Int).natAbs : Int) = 1 := by unfold cmpI; rw [if_neg (by simp; omega), if_pos (by simpa using hbig)]
     have HV := Aside0.mk (show V = .tuple #[.int .i64 0, .int .i64 2] by rw [HQ.out.2, e1]; rfl)
     rw [e2]
     clear e1 e2
     go_wp2_with fail
     go_ret2
     exact ⟨by rw [HV.out]; rfl, HB8.out⟩
    ·have e1 : big q = false := decide_eq_false hbig
     have e2 : ∃ c : Int, c ≤ 0 ∧ cmpI (q.natAbs : Int) ((1099511627776 : Int).natAbs : Int) = c := by
      refine ⟨_, ?_, rfl⟩
      unfold cmpI
      split
      ·decide
      ·rw [if_neg (by simpa using hbig)]; decide
     obtain ⟨c, hc, e2⟩ := e2
     have HV := Aside0.mk (show V = .tuple #[.int .i64 q, .int .i64 0] by rw [HQ.out.2, e1]; rfl)
     rw [e2]
     clear e1 e2
     go_wp2_with fail
     refine (int64_n g6 0 q _ w8 H8.out (by omega) (by omega) (by decide)).mono ?_
     rintro e w9 ⟨rfl, hb9⟩
     go_wp2_with fail
     go_ret2
     exact ⟨by rw [HV.out]; rfl, HB8.out.trans (hb9.mono HB8.out.size)⟩
end Go.Proofs.YtekommcfpjonmaaGreat.Eb
namespace Go.Proofs.YtekommcfpjonmaaGreat.Ec
open Go.RowKit Go Go.Proofs.YtekommcfpjonmaaGreatW.PrintWords Go.Proofs.YtekommcfpjonmaaGreatW.PrintLast Go.Proofs.YtekommcfpjonmaaGreatW.PrintMore Go.Proofs.YtekommcfpjonmaaGreat.Ml Go.Proofs.YtekommcfpjonmaaGreat.Mn Go.Proofs.YtekommcfpjonmaaGreat.Nd Go.Proofs.YtekommcfpjonmaaGreat.Z Go.Proofs.YtekommcfpjonmaaGreat.P Go.Proofs.YtekommcfpjonmaaGreat.Nc Go.Proofs.YtekommcfpjonmaaGreat.Nb Go.Proofs.YtekommcfpjonmaaGreat.Qa Go.Proofs.YtekommcfpjonmaaGreat.Qb Go.Proofs.YtekommcfpjonmaaGreat.Ea Go.Proofs.YtekommcfpjonmaaGreat.Eb Go.Proofs.YtekommcfpjonmaaGreat.E
set_option linter.unusedVariables false
set_option linter.unusedSimpArgs false
theorem vTicks_form (n d s h : Int) : ∃ q e, vTicks n d s h = .tuple #[.int .i64 q, .int .i64 e] := by
 unfold vTicks two er
 repeat' split
 all_goals exact ⟨_, _, rfl⟩
def vRescale (t f s h : Int) : Value := if isTicks t && isScale f then vTicks (lowN t f) (lowD t f) s h else .tuple #[.int .i64 0, .int .i64 1]
set_option maxHeartbeats 4000000 in
set_option maxRecDepth 100000 in
theorem Rescale_n (t f s h : Int) (w : World) : Calls Tryz.prog 36 #[.int .i64 t, .int .i64 f, .int .i64 s, .int .i64 h] w (ValP w (vRescale t f s h)) := by
 have hu := Tryz.underlying24
 have hF := From_n t f w
 cases hc : (isTicks t && isScale f) with
 | false =>
  rw [show vRescale t f s h = .tuple #[.int .i64 0, .int .i64 1] by unfold vRescale; rw [hc]; rfl]
  rw [show vFrom t f = .tuple #[.agg #[.int .i64 0, .int .i64 0], .int .i64 1] by unfold vFrom; rw [hc]; rfl] at hF
  have HF := Aside0.mk hF
  clear hF
  go_enter Tryz.func36, Tryz.ntmps36
  go_wp2_with fail
  refine HF.out.mono ?_
  rintro e w2 ⟨rfl, hb2⟩
  go_wp2_with fail
  go_ret2
  exact ⟨rfl, below_alloc hb2 _⟩
 | true =>
  obtain ⟨q, e, hq⟩ := vTicks_form (lowN t f) (lowD t f) s h
  have hT := fun w => Ticks_n (lowN t f) (lowD t f) s h w
  rw [show vRescale t f s h = .tuple #[.int .i64 q, .int .i64 e] by unfold vRescale; rw [hc, hq]; rfl]
  rw [show vFrom t f = .tuple #[.agg #[.int .i64 (lowN t f), .int .i64 (lowD t f)], .int .i64 0] by unfold vFrom; rw [hc]; rfl] at hF
  rw [hq] at hT
  have HF := Aside0.mk hF
  have HT := Aside0.mk hT
  clear hF hT hq
  go_enter Tryz.func36, Tryz.ntmps36
  go_wp2_with fail
  refine HF.out.mono ?_
  rintro e2 w2 ⟨rfl, hb2⟩
  go_wp2_with fail
  refine (HT.out _).mono ?_
  rintro e3 w3 ⟨rfl, hb3⟩
  go_wp2_with fail
  go_ret2
  have h1 := below_alloc hb2 (.cells #[.int .i64 (lowN t f), .int .i64 (lowD t f)] 24)
  exact ⟨rfl, h1.trans (hb3.mono h1.size)⟩
end Go.Proofs.YtekommcfpjonmaaGreat.Ec
namespace Go.Proofs.YtekommcfpjonmaaGreat.Ed
open Go.RowKit Go Go.Proofs.YtekommcfpjonmaaGreatW.PrintWords Go.Proofs.YtekommcfpjonmaaGreatW.PrintLast Go.Proofs.YtekommcfpjonmaaGreatW.PrintMore Go.Proofs.YtekommcfpjonmaaGreat.Ml Go.Proofs.YtekommcfpjonmaaGreat.Mn Go.Proofs.YtekommcfpjonmaaGreat.Nd Go.Proofs.YtekommcfpjonmaaGreat.Z Go.Proofs.YtekommcfpjonmaaGreat.P Go.Proofs.YtekommcfpjonmaaGreat.Nc Go.Proofs.YtekommcfpjonmaaGreat.Nb Go.Proofs.YtekommcfpjonmaaGreat.Qa Go.Proofs.YtekommcfpjonmaaGreat.Qb Go.Proofs.YtekommcfpjonmaaGreat.Ea Go.Proofs.YtekommcfpjonmaaGreat.Eb Go.Proofs.YtekommcfpjonmaaGreat.Ec Go.Proofs.YtekommcfpjonmaaGreat.E
set_option linter.unusedVariables false
set_option linter.unusedSimpArgs false
def Pair (w : World) (g : Nat) (n1 d1 n2 d2 : Int) : Prop := w.heap[g]? = some (.cells #[.int .i64 n1, .int .i64 d1, .int .i64 n2, .int .i64 d2] 24 (0, 0))
set_option maxHeartbeats 4000000 in
set_option maxRecDepth 100000 in
theorem index2_n (F : Nat) (p : Int → Int → Bool) (g : Nat) (n1 d1 n2 d2 : Int) (w : World) (hp : Pair w g n1 d1 n2 d2) (hE : ∀ args w, Sem.run Tryz.prog (callFunc F args) w = .ok (.enter F args) w)
  (hF : ∀ n d w, Calls Tryz.prog F #[tm n d] w (fun e w' => e = .returned (.bool (p n d)) ∧ Below w.heap.size w w')) :
  Calls Tryz.prog 148 #[.slice (some ⟨g, 0, none⟩) 2 2, .func (.func F) #[] #[]] w (fun e w' => ∃ i : Int, e = .returned (.int .i64 i) ∧ decide (0 ≤ i) = (p n1 d1 || p n2 d2) ∧ Below w.heap.size w w') := by
 have hu := Tryz.underlying24
 go_enter Tryz.func148, Tryz.ntmps148
 go_wp2_with fail
 go_loopg [8] 2 (fun kq v8 w' => ∃ i : Nat, v8 = .int .i64 (i : Int) ∧ Aside0 (i + kq = 2) ∧ Aside0 (Below w.heap.size w w') ∧ Aside0 (i = 0 ∨ p n1 d1 = false) ∧ Aside0 (i ≤ 1 ∨ p n2 d2 = false))
 case atStart => exact ⟨0, rfl, ⟨rfl⟩, ⟨Below.refl _ _⟩, ⟨.inl rfl⟩, ⟨.inl (by decide)⟩⟩
 case round =>
  obtain ⟨i, rfl, HK, HB, H1, H2⟩ := hrel
  cases gk with
  | zero =>
   obtain rfl : i = 2 := HK.out
   have q1 : p n1 d1 = false := by have := H1.out; simpa using this
   have q2 : p n2 d2 = false := by have := H2.out; simpa using this
   go_wp2_with fail
   go_ret
   exact ⟨_, rfl, by first | decide | (simp [q1, q2]; done) | simp [*], HB.out⟩
  | succ k1 =>
   have hi : i = 0 ∨ i = 1 := by have := HK.out; omega
   have hbk := blk_below hp HB.out
   rcases hi with rfl | rfl
   ·have hc0 : wr.cell? ⟨g, 0, none⟩ = some (.int .i64 n1) := (blk_cell hbk 0).trans rfl
    have hc1 : wr.cell? ⟨g, 1, none⟩ = some (.int .i64 d1) := (blk_cell hbk 1).trans rfl
    go_wp2_with fail
    refine (hF n1 d1 _).mono ?_
    rintro e w2 ⟨rfl, hb2⟩
    have HB2 := Aside0.mk (HB.out.trans (hb2.mono HB.out.size))
    cases hq : p n1 d1 with
    | true =>
     go_wp2_with fail
     go_ret
     exact ⟨_, rfl, by first | decide | (simp [hq]; done) | simp [*], HB2.out⟩
    | false =>
     go_wp2_with fail
     go_roundg k1
     case measure => omega
     case rel => exact ⟨1, rfl, ⟨by have := HK.out; omega⟩, HB2, ⟨.inr hq⟩, ⟨.inl (Nat.le_refl _)⟩⟩
   ·have hc0 : wr.cell? ⟨g, 2, none⟩ = some (.int .i64 n2) := (blk_cell hbk 2).trans rfl
    have hc1 : wr.cell? ⟨g, 3, none⟩ = some (.int .i64 d2) := (blk_cell hbk 3).trans rfl
    have q1 : p n1 d1 = false := by have := H1.out; simpa using this
    go_wp2_with fail
    refine (hF n2 d2 _).mono ?_
    rintro e w2 ⟨rfl, hb2⟩
    have HB2 := Aside0.mk (HB.out.trans (hb2.mono HB.out.size))
    cases hq : p n2 d2 with
    | true =>
     go_wp2_with fail
     go_ret
     exact ⟨_, rfl, by first | decide | (simp [hq, q1]; done) | simp [*], HB2.out⟩
    | false =>
     go_wp2_with fail
     go_roundg k1
     case measure => omega
     case rel => exact ⟨2, rfl, ⟨by have := HK.out; omega⟩, HB2, ⟨.inr q1⟩, ⟨.inr hq⟩⟩
set_option maxHeartbeats 1000000 in
theorem has2_n (F : Nat) (p : Int → Int → Bool) (g : Nat) (n1 d1 n2 d2 : Int) (w : World) (hp : Pair w g n1 d1 n2 d2) (hE : ∀ args w, Sem.run Tryz.prog (callFunc F args) w = .ok (.enter F args) w)
  (hF : ∀ n d w, Calls Tryz.prog F #[tm n d] w (fun e w' => e = .returned (.bool (p n d)) ∧ Below w.heap.size w w')) :
  Calls Tryz.prog 104 #[.slice (some ⟨g, 0, none⟩) 2 2, .func (.func F) #[] #[]] w (ValP w (.bool (p n1 d1 || p n2 d2))) := by
 go_enter Tryz.func104, Tryz.ntmps104
 go_wp2_with fail
 refine (index2_n F p g n1 d1 n2 d2 w hp hE hF).mono ?_
 rintro e w2 ⟨i, rfl, hi, hb2⟩
 go_wp2_with fail
 go_ret
 exact ⟨ret_b (by first | exact hi | rfl), hb2⟩
set_option maxHeartbeats 1000000 in
theorem notValid_n (n d : Int) (w : World) : Calls Tryz.prog 105 #[tm n d] w (fun e w' => e = .returned (.bool (!valid n d)) ∧ Below w.heap.size w w') := by
 have hu := Tryz.underlying24
 unfold tm
 go_enter Tryz.func105, Tryz.ntmps105
 go_wp2_with fail
 refine (Valid_n n d _).mono ?_
 rintro e w2 ⟨rfl, hb2⟩
 go_wp2_with fail
 go_ret
 exact ⟨rfl, (below_alloc (Below.refl _ w) _).trans (hb2.mono (by simp))⟩
def small (n d : Int) : Bool := decide (n < 1073741824) && decide (-1073741824 < n) && decide (d < 1073741824)
set_option maxHeartbeats 1000000 in
set_option maxRecDepth 100000 in
theorem large_n (n d : Int) (w : World) : Calls Tryz.prog 133 #[tm n d] w (fun e w' => e = .returned (.bool (!small n d)) ∧ Below w.heap.size w w') := by
 have hu := Tryz.underlying24
 unfold tm
 go_enter Tryz.func133, Tryz.ntmps133
 go_wp2
 all_goals
  go_ret
  refine ⟨ret_b ?_, below_alloc (Below.refl _ _) _⟩
  unfold small
  first | (simp_all; done) | (simp_all; omega) | grind
end Go.Proofs.YtekommcfpjonmaaGreat.Ed
namespace Go.Proofs.YtekommcfpjonmaaGreat.Ee
open Go.RowKit Go Go.Proofs.YtekommcfpjonmaaGreatW.PrintWords Go.Proofs.YtekommcfpjonmaaGreatW.PrintLast Go.Proofs.YtekommcfpjonmaaGreatW.PrintMore Go.Proofs.YtekommcfpjonmaaGreat.Ml Go.Proofs.YtekommcfpjonmaaGreat.Mn Go.Proofs.YtekommcfpjonmaaGreat.Nd Go.Proofs.YtekommcfpjonmaaGreat.Z Go.Proofs.YtekommcfpjonmaaGreat.P Go.Proofs.YtekommcfpjonmaaGreat.Nc Go.Proofs.YtekommcfpjonmaaGreat.Nb Go.Proofs.YtekommcfpjonmaaGreat.Qa Go.Proofs.YtekommcfpjonmaaGreat.Qb Go.Proofs.YtekommcfpjonmaaGreat.Ea Go.Proofs.YtekommcfpjonmaaGreat.Eb Go.Proofs.YtekommcfpjonmaaGreat.Ec Go.Proofs.YtekommcfpjonmaaGreat.Ed Go.Proofs.YtekommcfpjonmaaGreat.E
set_option linter.unusedVariables false
set_option linter.unusedSimpArgs false
set_option maxHeartbeats 1000000 in
theorem valid2_n (g : Nat) (n1 d1 n2 d2 : Int) (w : World) (hp : Pair w g n1 d1 n2 d2) :
  Calls Tryz.prog 56 #[.slice (some ⟨g, 0, none⟩) 2 2] w (ValP w (.bool (valid n1 d1 && valid n2 d2))) := by
 go_enter Tryz.func56, Tryz.ntmps56
 go_wp2_with fail
 refine (has2_n 105 (fun n d => !valid n d) g n1 d1 n2 d2 w hp (fun _ _ => by go_simp) notValid_n).mono ?_
 rintro e w2 ⟨rfl, hb2⟩
 go_wp2_with fail
 go_ret
 exact ⟨ret_b (by cases valid n1 d1 <;> cases valid n2 d2 <;> rfl), hb2⟩
set_option maxHeartbeats 1000000 in
theorem little2_n (g : Nat) (n1 d1 n2 d2 : Int) (w : World) (hp : Pair w g n1 d1 n2 d2) :
  Calls Tryz.prog 87 #[.slice (some ⟨g, 0, none⟩) 2 2] w (ValP w (.bool (small n1 d1 && small n2 d2))) := by
 go_enter Tryz.func87, Tryz.ntmps87
 go_wp2_with fail
 refine (has2_n 133 (fun n d => !small n d) g n1 d1 n2 d2 w hp (fun _ _ => by go_simp) large_n).mono ?_
 rintro e w2 ⟨rfl, hb2⟩
 go_wp2_with fail
 go_ret
 exact ⟨ret_b (by cases small n1 d1 <;> cases small n2 d2 <;> rfl), hb2⟩
theorem mul_bd {a b : Int} (a0 : -1073741824 < a) (a1 : a < 1073741824) (b0 : 1 ≤ b) (b1 : b < 1073741824) : -1152921504606846976 < a * b ∧ a * b < 1152921504606846976 := by
 have h1 : a * b ≤ 1073741823 * b := Int.mul_le_mul_of_nonneg_right (by omega) (by omega)
 have h2 : -1073741823 * b ≤ a * b := Int.mul_le_mul_of_nonneg_right (by omega) (by omega)
 omega
def timeObj (n d : Int) : Obj := .cells #[.int .i64 n, .int .i64 d] 24 (0, 0)
structure Boxed (w W : World) (n1 d1 n2 d2 : Int) : Prop where
 a : W.heap[w.heap.size]? = some (timeObj n1 d1)
 b : W.heap[w.heap.size + 1]? = some (timeObj n2 d2)
 r : W.heap[w.heap.size + 1 + 1]? = some (timeObj 0 0)
 s : Pair W (w.heap.size + 1 + 1 + 1) n1 d1 n2 d2
 below : Below w.heap.size w W
theorem Boxed.start (w : World) (n1 d1 n2 d2 : Int) : Boxed w ((((w.alloc (timeObj n1 d1)).alloc (timeObj n2 d2)).alloc (timeObj 0 0)).alloc (.cells #[.int .i64 n1, .int .i64 d1, .int .i64 n2, .int .i64 d2] 24)) n1 d1 n2 d2 := by
 have e1 : (w.alloc (timeObj n1 d1)).heap.size = w.heap.size + 1 := by simp
 have e2 : ((w.alloc (timeObj n1 d1)).alloc (timeObj n2 d2)).heap.size = w.heap.size + 1 + 1 := by simp
 have e3 : (((w.alloc (timeObj n1 d1)).alloc (timeObj n2 d2)).alloc (timeObj 0 0)).heap.size = w.heap.size + 1 + 1 + 1 := by simp
 have k4 := blk_new (((w.alloc (timeObj n1 d1)).alloc (timeObj n2 d2)).alloc (timeObj 0 0)) (.cells #[.int .i64 n1, .int .i64 d1, .int .i64 n2, .int .i64 d2] 24)
 have k3 := blk_new ((w.alloc (timeObj n1 d1)).alloc (timeObj n2 d2)) (timeObj 0 0)
 have k2 := blk_new (w.alloc (timeObj n1 d1)) (timeObj n2 d2)
 have k1 := blk_new w (timeObj n1 d1)
 rw [e3] at k4
 rw [e2] at k3
 rw [e1] at k2
 refine ⟨blk_alloc (blk_alloc (blk_alloc k1 _) _) _, blk_alloc (blk_alloc k2 _) _, blk_alloc k3 _, k4, below_alloc (below_alloc (below_alloc (below_alloc (Below.refl _ w) _) _) _) _⟩
theorem Boxed.step {w W W2 : World} {n1 d1 n2 d2 : Int} (h : Boxed w W n1 d1 n2 d2) (hb : Below W.heap.size W W2) : Boxed w W2 n1 d1 n2 d2 :=
 ⟨blk_below h.a hb, blk_below h.b hb, blk_below h.r hb, blk_below (o := .cells _ _ _) h.s hb, h.below.trans (hb.mono h.below.size)⟩
theorem time_cells {w : World} {g : Nat} {n d : Int} (h : w.heap[g]? = some (timeObj n d)) : w.cell? ⟨g, 0, none⟩ = some (.int .i64 n) ∧ w.cell? ⟨g, 1, none⟩ = some (.int .i64 d) ∧ w.frozen? ⟨g, 0, none⟩ = false ∧ w.frozen? ⟨g, 1, none⟩ = false :=
 ⟨(blk_cell h 0).trans rfl, (blk_cell h 1).trans rfl, blk_frozen h 0, blk_frozen h 1⟩
set_option maxHeartbeats 4000000 in
set_option maxRecDepth 100000 in
theorem addS_n (n1 d1 n2 d2 : Int) (w : World) (h1 : small n1 d1 = true) (h2 : small n2 d2 = true) (p1 : 1 ≤ d1) (p2 : 1 ≤ d2) (N D : Int) (hN : N = lowN (n1 * d2 + n2 * d1) (d1 * d2)) (hD : D = lowD (n1 * d2 + n2 * d1) (d1 * d2)) (hv : valid N D = true) :
  Calls Tryz.prog 39 #[tm n1 d1, tm n2 d2] w (ValP w (two (tm N D) (er 0))) := by
 have hu := Tryz.underlying24
 have hB := Aside0.mk (Boxed.start w n1 d1 n2 d2)
 have hs1 : (n1 < 1073741824 ∧ -1073741824 < n1) ∧ d1 < 1073741824 := by unfold small at h1; simpa using h1
 have hs2 : (n2 < 1073741824 ∧ -1073741824 < n2) ∧ d2 < 1073741824 := by unfold small at h2; simpa using h2
 obtain ⟨x1, x2⟩ := mul_bd hs1.1.2 hs1.1.1 p2 hs2.2
 obtain ⟨y1, y2⟩ := mul_bd hs2.1.2 hs2.1.1 p1 hs1.2
 obtain ⟨z1, z2⟩ := mul_bd (a := d1) (by omega) hs1.2 p2 hs2.2
 have z3 : 1 ≤ d1 * d2 := by have := Int.mul_le_mul_of_nonneg_right p1 (show 0 ≤ d2 by omega); omega
 obtain ⟨k, hk⟩ := lowest_f (n1 * d2 + n2 * d1) (d1 * d2) (by omega) (by omega) z3 (by omega)
 rw [← hN, ← hD] at hk
 have HK := Aside0.mk hk
 clear hs1 hs2 hk hN hD
 unfold two tm er
 go_enter Tryz.func39, Tryz.ntmps39
 go_wp2_with fail
 generalize hW : World.alloc (World.alloc _ _) _ = W
 have HB := Aside0.mk (show Boxed w W n1 d1 n2 d2 by rw [← hW]; exact hB.out)
 clear hW hB
 refine (little2_n _ n1 d1 n2 d2 W HB.out.s).mono ?_
 rintro e w2 ⟨rfl, hb2⟩
 rw [h1, h2]
 have HB2 := Aside0.mk (HB.out.step hb2)
 clear hb2 HB
 obtain ⟨a0, a1, _, _⟩ := time_cells HB2.out.a
 obtain ⟨b0, b1, _, _⟩ := time_cells HB2.out.b
 go_wp2_with fail
 refine (exact_lowest.calls k (n1 * d2 + n2 * d1) (d1 * d2) N D _ HK.out).mono ?_
 rintro e w3 ⟨rfl, hb3⟩
 have HB3 := Aside0.mk (HB2.out.step hb3)
 clear hb3 HB2 a0 a1 b0 b1
 go_wp2_with fail
 have hq := blk_new w3 (timeObj N D)
 have hb4 : Below w3.heap.size w3 (w3.alloc (timeObj N D)) := below_alloc (Below.refl _ w3) _
 refine (Valid_n N D _).mono ?_
 rintro e w5 ⟨rfl, hb5⟩
 rw [hv]
 have HB5 := Aside0.mk ((HB3.out.step hb4).step hb5)
 have hq5 := blk_below hq hb5
 obtain ⟨q0, q1, q2, q3⟩ := time_cells hq5
 obtain ⟨r0, r1, r2, r3⟩ := time_cells HB5.out.r
 clear hb4 hb5 hq hq5 HB3
 go_wp2_with fail
 refine bodyPost_ret (results_ct rfl _ _ (w.heap.size + 1 + 1) 24 #[.int .i64 N, .int .i64 D] (0, 0) _ rfl (blk_two HB5.out.r) Tryz.underlying24 rfl (by kernel_rfl)) rfl ?_
 exact ⟨rfl, (HB5.out.below.setCell (by simp; omega) _).setCell (by simp; omega) _⟩
set_option maxHeartbeats 4000000 in
set_option maxRecDepth 100000 in
theorem AddV_n (n1 d1 n2 d2 : Int) (w : World) (h1 : valid n1 d1 = true) (h2 : valid n2 d2 = true) (N D E : Int)
  (hA : ∀ w, Calls Tryz.prog 39 #[tm n1 d1, tm n2 d2] w (ValP w (two (tm N D) (er E)))) :
  Calls Tryz.prog 26 #[tm n1 d1, tm n2 d2] w (ValP w (two (tm N D) (er E))) := by
 have hu := Tryz.underlying24
 have hB := Aside0.mk (Boxed.start w n1 d1 n2 d2)
 have HA := Aside0.mk hA
 clear hA
 unfold two tm er
 go_enter Tryz.func26, Tryz.ntmps26
 go_wp2_with fail
 generalize hW : World.alloc (World.alloc _ _) _ = W
 have HB := Aside0.mk (show Boxed w W n1 d1 n2 d2 by rw [← hW]; exact hB.out)
 clear hW hB
 refine (valid2_n _ n1 d1 n2 d2 W HB.out.s).mono ?_
 rintro e w2 ⟨rfl, hb2⟩
 rw [h1, h2]
 have HB2 := Aside0.mk (HB.out.step hb2)
 clear hb2 HB
 obtain ⟨a0, a1, _, _⟩ := time_cells HB2.out.a
 obtain ⟨b0, b1, _, _⟩ := time_cells HB2.out.b
 go_wp2_with fail
 refine (HA.out w2).mono ?_
 rintro e w3 ⟨rfl, hb3⟩
 have HB3 := Aside0.mk (HB2.out.step hb3)
 obtain ⟨r0, r1, r2, r3⟩ := time_cells HB3.out.r
 clear hb3 HB2 a0 a1 b0 b1
 unfold two tm er
 go_wp2_with fail
 refine bodyPost_ret (results_ct rfl _ _ (w.heap.size + 1 + 1) 24 #[.int .i64 N, .int .i64 D] (0, 0) _ rfl (blk_two HB3.out.r) Tryz.underlying24 rfl (by kernel_rfl)) rfl ?_
 exact ⟨rfl, (HB3.out.below.setCell (by simp; omega) _).setCell (by simp; omega) _⟩
set_option maxHeartbeats 4000000 in
set_option maxRecDepth 100000 in
theorem awake_n (w : World) : Calls Tryz.prog 10 #[] w (ValP w (.bool true)) := by
 have hu := Tryz.underlying24
 have hA := fun w => AddV_n 1 3 1 6 w (by decide) (by decide) 1 2 0 (fun w => addS_n 1 3 1 6 w (by decide) (by decide) (by decide) (by decide) 1 2 (by decide) (by decide) (by decide))
 have hT := fun w => Ticks_n 1 3 1000 1 w
 rw [show vTicks 1 3 1000 1 = .tuple #[.int .i64 334, .int .i64 0] by kernel_rfl] at hT
 have hR := fun w => Rescale_n 1 3 2 2 w
 rw [show vRescale 1 3 2 2 = .tuple #[.int .i64 1, .int .i64 0] by kernel_rfl] at hR
 unfold two tm er at hA
 unfold tm at hT
 go_enter Tryz.func10, Tryz.ntmps10
 go_wp2_with fail
 refine (hA _).mono ?_
 rintro e w2 ⟨rfl, hb2⟩
 go_wp2_with fail
 refine (hT _).mono ?_
 rintro e w3 ⟨rfl, hb3⟩
 go_wp2_with fail
 refine (hR _).mono ?_
 rintro e w4 ⟨rfl, hb4⟩
 have hq := blk_below (blk_below (blk_new w2 (timeObj 1 2)) hb3) hb4
 obtain ⟨q0, q1, q2, q3⟩ := time_cells hq
 have h1 := below_alloc hb2 (timeObj 1 2)
 have HB := Aside0.mk ((h1.trans (hb3.mono h1.size)).trans (hb4.mono (h1.trans (hb3.mono h1.size)).size))
 clear hq hb2 hb3 hb4 h1 hA hT hR
 go_wp2_with fail
 go_ret
 exact ⟨rfl, HB.out⟩
end Go.Proofs.YtekommcfpjonmaaGreat.Ee
namespace Go.Proofs.YtekommcfpjonmaaGreat.Rb
open Go.RowKit Go Go.Proofs.YtekommcfpjonmaaGreatW.PrintWords Go.Proofs.YtekommcfpjonmaaGreatW.PrintLast Go.Proofs.YtekommcfpjonmaaGreatW.PrintMore Go.Proofs.YtekommcfpjonmaaGreat.Ml Go.Proofs.YtekommcfpjonmaaGreat.Mn Go.Proofs.YtekommcfpjonmaaGreat.Nd Go.Proofs.YtekommcfpjonmaaGreat.Z Go.Proofs.YtekommcfpjonmaaGreat.P Go.Proofs.YtekommcfpjonmaaGreat.Nc Go.Proofs.YtekommcfpjonmaaGreat.Nb Go.Proofs.YtekommcfpjonmaaGreat.Qa Go.Proofs.YtekommcfpjonmaaGreat.Qb Go.Proofs.YtekommcfpjonmaaGreat.Ea Go.Proofs.YtekommcfpjonmaaGreat.Eb Go.Proofs.YtekommcfpjonmaaGreat.Ec Go.Proofs.YtekommcfpjonmaaGreat.Ed Go.Proofs.YtekommcfpjonmaaGreat.Ee Go.Proofs.YtekommcfpjonmaaGreat.Ra
set_option linter.unusedVariables false
set_option linter.unusedSimpArgs false
def vLow (n d : Int) : Value := if valid (ratN n d) (ratD n d) then two (tm (ratN n d) (ratD n d)) (er 0) else two (tm 0 0) (er 2)
theorem ratD_pos {n d : Int} (hd : d ≠ 0) : 1 ≤ ratD n d := by
 have key : ∀ n d : Int, 1 ≤ d → 1 ≤ lowD n d := by
  intro n d hd
  have hg : 1 ≤ ((Int.gcd n d : Nat) : Int) := by
   have := Int.gcd_pos_of_ne_zero_right n (show d ≠ 0 by omega)
   omega
  have e2 : d = lowD n d * (Int.gcd n d : Int) := (Int.ediv_mul_cancel (Int.gcd_dvd_right n d)).symm
  refine Int.le_of_not_gt fun h0 => ?_
  have h : lowD n d ≤ 0 := by omega
  have : lowD n d * (Int.gcd n d : Int) ≤ 0 * (Int.gcd n d : Int) := Int.mul_le_mul_of_nonneg_right h (by omega)
  omega
 unfold ratD
 split
 ·exact key _ _ (by omega)
 ·exact key _ _ (by omega)
theorem cmp_gt {q m : Int} (h : m < q) : cmpI q m = 1 := by unfold cmpI; rw [if_neg (by omega), if_pos h]
theorem cmp_le {q m : Int} (h : ¬ m < q) : ∃ c : Int, c ≤ 0 ∧ cmpI q m = c := by
 refine ⟨_, ?_, rfl⟩
 unfold cmpI
 by_cases h2 : q < m
 ·rw [if_pos h2]; decide
 ·rw [if_neg h2, if_neg h]; decide
theorem room_rat0 (w : World) : Room (w.alloc (.cells #[.bool false, .slice none 0 0, .bool false, .slice none 0 0] 121)) w.heap.size 0 :=
 ⟨false, .slice none 0 0, ⟨_, 121, blk_new w _, ⟨none, 0, 0, rfl⟩, rfl, rfl⟩⟩
theorem room_rat2 (w : World) : Room (w.alloc (.cells #[.bool false, .slice none 0 0, .bool false, .slice none 0 0] 121)) w.heap.size 2 :=
 ⟨false, .slice none 0 0, ⟨_, 121, blk_new w _, ⟨none, 0, 0, rfl⟩, rfl, rfl⟩⟩
set_option maxHeartbeats 8000000 in
set_option maxRecDepth 100000 in
theorem ratio_n (gn gd : Nat) (n d : Int) (nn nd : Nat) (w : World) (hn : IsN w gn 0 n nn) (hd : IsN w gd 0 d nd) (hd0 : d ≠ 0) (hl : nn + nd ≤ 900) :
  Calls Tryz.prog 89 #[.pointer (some ⟨gn, 0, none⟩), .pointer (some ⟨gd, 0, none⟩)] w (ValP w (vLow n d)) := by
 have hu := Tryz.underlying24
 have hb1 : Below w.heap.size w (w.alloc (timeObj 0 0)) := below_alloc (Below.refl _ w) _
 have hk1 := blk_new w (timeObj 0 0)
 have hsz : (w.alloc (timeObj 0 0)).heap.size = w.heap.size + 1 := by simp
 have hD := ratD_pos (n := n) hd0
 have hV : vLow n d = if valid (ratN n d) (ratD n d) then two (tm (ratN n d) (ratD n d)) (er 0) else two (tm 0 0) (er 2) := rfl
 generalize vLow n d = V at hV ⊢
 generalize hw1 : w.alloc (timeObj 0 0) = w1 at *
 have hb2 : Below w1.heap.size w1 (w1.alloc (.cells #[.bool false, .slice none 0 0, .bool false, .slice none 0 0] 121)) := below_alloc (Below.refl _ w1) _
 have h0 := room_rat0 w1
 have h2 := room_rat2 w1
 have hk2 := blk_below hk1 hb2
 have hF := setFrac_n w1.heap.size gn 0 gd 0 n d nn nd w1.heap.size _ h0 h2 ((hn.below hb1).below hb2) ((hd.below hb1).below hb2) hd0 (by omega) (Nat.le_refl _)
 unfold SfP at hF
 generalize hgN : ratN n d = N at *
 generalize hgD : ratD n d = D at *
 have HV := Aside0.mk hV
 have HB2 := Aside0.mk (And.intro (hb1.trans (hb2.mono hb1.size)) (And.intro hk1 hb2))
 rw [hsz] at hF
 have HF := Aside0.mk hF
 clear hV hb1 hb2 h0 h2 hk2 hF hk1 hgN hgD
 go_enter Tryz.func89, Tryz.ntmps89
 go_wp2_with fail
 rw [show w.alloc (.cells #[.int .i64 0, .int .i64 0] 24) = w1 from hw1]
 refine HF.out.mono ?_
 rintro e w3 ⟨rfl, hb3, hN3, hD3⟩
 have B1 : Below w1.heap.size w1 w3 := HB2.out.2.2.trans (by rw [hsz]; exact hb3)
 have B0 : Below w.heap.size w w1 := by rw [← hw1]; exact below_alloc (Below.refl _ w) _
 have HB3 := Aside0.mk (And.intro (B0.trans (B1.mono B0.size)) (blk_below HB2.out.2.1 B1))
 have H3 := Aside0.mk (And.intro hN3 hD3)
 clear hb3 hN3 hD3 HF HB2 B1 B0 hn hd
 go_wp2_with fail
 refine (newInt_n 1152921504606846976 w3 (by decide) (by decide)).mono ?_
 rintro e w4 ⟨g4, hg4, rfl, hb4, hN4⟩
 have HB4 := Aside0.mk (And.intro (HB3.out.1.trans (hb4.mono HB3.out.1.size)) (blk_below HB3.out.2 hb4))
 have H4 := Aside0.mk (And.intro (H3.out.1.below hb4) (And.intro (H3.out.2.below hb4) hN4))
 clear hb4 hN4 HB3 H3
 go_wp2_with fail
 refine (num_n _ w4).mono ?_
 rintro e w5 ⟨rfl, rfl⟩
 go_wp2_with fail
 refine (cmpAbs_n (w.heap.size + 1) 0 g4 0 N 1152921504606846976 _ _ w4 H4.out.1 H4.out.2.2 (by omega)).mono ?_
 rintro e w5 ⟨rfl, hb5⟩
 have HB5 := Aside0.mk (And.intro (HB4.out.1.trans (hb5.mono HB4.out.1.size)) (blk_below HB4.out.2 hb5))
 have H5 := Aside0.mk (And.intro (H4.out.1.below hb5) (And.intro (H4.out.2.1.below hb5) (H4.out.2.2.below hb5)))
 obtain ⟨r0, r1, r2, r3⟩ := time_cells HB5.out.2
 clear hb5 HB4 H4
 have nab : (1152921504606846976 : Int).natAbs = 1152921504606846976 := rfl
 by_cases hbig : ((1152921504606846976 : Int).natAbs : Int) < (N.natAbs : Int)
 ·rw [cmp_gt hbig]
  have hv : valid N D = false := by unfold valid; simp; rw [nab] at hbig; omega
  have HV2 := Aside0.mk (show V = .tuple #[.agg #[.int .i64 0, .int .i64 0], .int .i64 2] by rw [HV.out, hv]; rfl)
  clear hbig hv nab
  go_wp2_with fail
  refine bodyPost_ret (results_ct rfl _ _ w.heap.size 24 #[.int .i64 0, .int .i64 0] (0, 0) _ rfl (blk_two HB5.out.2) Tryz.underlying24 rfl (by kernel_rfl)) rfl ?_
  exact ⟨by rw [HV2.out]; rfl, (HB5.out.1.setCell (by simp) _).setCell (by simp) _⟩
 ·obtain ⟨c, hc, ec⟩ := cmp_le hbig
  rw [ec]
  have HX := Aside0.mk (show ((N.natAbs : Nat) : Int) ≤ 1152921504606846976 by rw [nab] at hbig; omega)
  clear ec hbig nab
  go_wp2_with fail
  refine (denom_n (w.heap.size + 1) D nd w5 H5.out.2.1 (by omega)).mono ?_
  rintro e w6 ⟨rfl, rfl⟩
  go_wp2_with fail
  refine (cmp_n (w.heap.size + 1) 2 g4 0 D 1152921504606846976 _ _ w5 H5.out.2.1 H5.out.2.2 (by omega)).mono ?_
  rintro e w6 ⟨rfl, hb6⟩
  have HB6 := Aside0.mk (And.intro (HB5.out.1.trans (hb6.mono HB5.out.1.size)) (blk_below HB5.out.2 hb6))
  have H6 := Aside0.mk (And.intro (H5.out.1.below hb6) (H5.out.2.1.below hb6))
  obtain ⟨q0, q1, q2, q3⟩ := time_cells HB6.out.2
  clear hb6 HB5 H5 r0 r1 r2 r3
  by_cases hbig : (1152921504606846976 : Int) < D
  ·rw [cmp_gt hbig]
   have hv : valid N D = false := by unfold valid; simp; omega
   have HV2 := Aside0.mk (show V = .tuple #[.agg #[.int .i64 0, .int .i64 0], .int .i64 2] by rw [HV.out, hv]; rfl)
   clear hbig hv
   go_wp2_with fail
   refine bodyPost_ret (results_ct rfl _ _ w.heap.size 24 #[.int .i64 0, .int .i64 0] (0, 0) _ rfl (blk_two HB6.out.2) Tryz.underlying24 rfl (by kernel_rfl)) rfl ?_
   exact ⟨by rw [HV2.out]; rfl, (HB6.out.1.setCell (by simp) _).setCell (by simp) _⟩
  ·obtain ⟨c2, hc2, ec2⟩ := cmp_le hbig
   rw [ec2]
   have hx := HX.out
   have hv : valid N D = true := by unfold valid; simp; omega
   have HV2 := Aside0.mk (show V = .tuple #[.agg #[.int .i64 N, .int .i64 D], .int .i64 0] by rw [HV.out, hv]; rfl)
   clear ec2 hv
   go_wp2_with fail
   refine (num_n _ w6).mono ?_
   rintro e w7 ⟨rfl, rfl⟩
   go_wp2_with fail
   refine (int64_n (w.heap.size + 1) 0 N _ w6 H6.out.1 (by omega) (by omega) (by omega)).mono ?_
   rintro e w7 ⟨rfl, hb7⟩
   have HB7 := Aside0.mk (And.intro (HB6.out.1.trans (hb7.mono HB6.out.1.size)) (blk_below HB6.out.2 hb7))
   have H7 := Aside0.mk (H6.out.2.below hb7)
   clear hb7 HB6 H6 q0 q1 q2 q3
   go_wp2_with fail
   refine (denom_n (w.heap.size + 1) D nd w7 H7.out (by omega)).mono ?_
   rintro e w8 ⟨rfl, rfl⟩
   go_wp2_with fail
   refine (int64_n (w.heap.size + 1) 2 D _ w7 H7.out (by omega) (by omega) (by omega)).mono ?_
   rintro e w8 ⟨rfl, hb8⟩
   have HB8 := Aside0.mk (And.intro (HB7.out.1.trans (hb8.mono HB7.out.1.size)) (blk_below HB7.out.2 hb8))
   obtain ⟨q0, q1, q2, q3⟩ := time_cells HB8.out.2
   clear hb8 HB7 H7
   go_wp2_with fail
   refine bodyPost_ret (results_ct rfl _ _ w.heap.size 24 #[.int .i64 N, .int .i64 D] (0, 0) _ rfl (blk_two HB8.out.2) Tryz.underlying24 rfl (by kernel_rfl)) rfl ?_
   exact ⟨by rw [HV2.out]; rfl, (HB8.out.1.setCell (by simp) _).setCell (by simp) _⟩
end Go.Proofs.YtekommcfpjonmaaGreat.Rb

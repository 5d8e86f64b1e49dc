/-
  exact's functions of whole numbers: what they compute, and the walks of the small ones. Fractions of package num: SetFrac brings two whole numbers to lowest terms. The rational number that two whole ones make. Times and spans of the program as rational numbers; the clean list as a plain value. Spans that come in, opened: a list of spans, a time. The reference's natural numbers, in digits of nine decimal places: what its printed functions compute. The reference's natural numbers: sums, differences, products, quotients, small ones. The reference's rational numbers as rational numbers. The reference divides. The reference's time of a rational number is its lowest form. The reference's times. What exact's functions of spans tell, as plain values; join and touching. exact's functions of ticks: product, rounded, From, Ticks, Whole, Rescale. exact.Rescale; valid, little, cmp, add; the law's awake. valid and little: two times are looked at by a function. exact's valid and little; add and Add of little times; the law's awake. exact's ratio, cmp, add, Mul, Div, Sub, Lowest as values of whole numbers. exact's cmp and Cmp, add by numbers of any size, Add, Sub, Mul, Div, Lowest as values of whole numbers. exact's add by numbers of any size, Add, Sub, Mul, Div, Lowest as values of whole numbers. Spans looked at by a function: which are spans, which have a time.
-/
import Derived.Test.YtekommcfpjonmaaGreatProg
import Derived.Below
import Derived.Deep.Draws
import Derived.Deep.AppendLies
import Derived.Maps.AppendAt
import Derived.OwnWalk
import Derived.Laws.BytesArg
import Derived.Laws.MakeOwn
import Derived.Laws.OwnMore
import Derived.Deep.OwnRows
import Derived.Tactics
import Derived.Lib.ConvBytes
import Derived.Laws.Slices
import Derived.WalkKit
import Derived.KernelRfl
import Derived.RowKit3
import Derived.Deep.LoopGhost
import Derived.Deep.QuietTactic
import Derived.BigQuiet
import Derived.WideLaws
import Derived.Deep.DeepCutAuto
import Derived.Deep.CutBlock
import Derived.Deep.RegionHeld3
import Derived.Laws.Rows
import Derived.Lib.AppendStr
import Derived.ArgAppend
import Derived.Laws.IdiomCopy
import Derived.OrdersHeld
import Derived.Laws.BitsLemmas
import Derived.RowKit
import Derived.WalkMore
import Derived.Test.YtekommcfpjonmaaGreatQRExactTotalsa
import Derived.Test.YtekommcfpjonmaaGreatQRExactTotalsWWords
import Derived.Test.YtekommcfpjonmaaGreatQRExactTotalsWLast
import Derived.Test.YtekommcfpjonmaaGreatQRExactTotalsWTab
import Derived.Test.YtekommcfpjonmaaGreatQRExactTotalsWQPut
import Derived.Test.YtekommcfpjonmaaGreatQRExactTotalsWApart
import Derived.Test.YtekommcfpjonmaaGreatQRExactTotalsWArr
import Derived.Test.YtekommcfpjonmaaGreatQRExactTotalsWZeros
import Derived.Test.YtekommcfpjonmaaGreatQRExactTotalsWFoot
import Derived.Test.YtekommcfpjonmaaGreatQRExactTotalsWKept
import Derived.Test.YtekommcfpjonmaaGreatQRExactTotalsWShare
import Derived.Test.YtekommcfpjonmaaGreatQRExactTotalsWN
import Derived.Test.YtekommcfpjonmaaGreatQRExactTotalsWFootNe
import Derived.Test.YtekommcfpjonmaaGreatQRExactTotalsWAt
import Derived.Test.YtekommcfpjonmaaGreatQRExactTotalsWEqStruct
import Derived.Test.YtekommcfpjonmaaGreatQRExactTotalsWRepsOne
import Derived.Test.YtekommcfpjonmaaGreatQRExactTotalsWNEv
import Derived.Test.YtekommcfpjonmaaGreatQRExactTotalsWMore
import Derived.Test.YtekommcfpjonmaaGreatQRExactTotalsb
import Derived.Test.YtekommcfpjonmaaGreatChecked
import Derived.Lib.SmallJoins
import Derived.ProofKit
import Derived.Deep.Slices
import Derived.Deep.Fields
import Derived.ChangeSame
namespace Go.Proofs.YtekommcfpjonmaaGreat.E
open Go.Proofs.YtekommcfpjonmaaGreat.Z Go.RowKit Go.Proofs.YtekommcfpjonmaaGreatW.PrintWords Go.Proofs.YtekommcfpjonmaaGreatW.PrintLast Go.Proofs.YtekommcfpjonmaaGreatW.PrintMore
attribute [local go_sem] max2_int min2_int max_two min_two max_three min_three max_four min_four
set_option linter.unusedVariables false
set_option linter.unusedSimpArgs false
def errW : Option Int → Value
 | none => .nilIface
 | some c => .iface 0 (.int .i64 c)
theorem errW_none : errW none = .nilIface := rfl
theorem errW_some (c : Int) : errW (some c) = .iface 0 (.int .i64 c) := rfl
theorem info24 : (Tryz.prog.info? 24).map (fun i => (i.zero, i.size, i.bytes)) = some (some (.agg #[(.int .i64 0), (.int .i64 0)]), 2, 16) := by kernel_rfl
theorem info53 : (Tryz.prog.info? 53).map (fun i => (i.zero, i.size, i.bytes)) = some (some (.agg #[(.int .i64 0), (.int .i64 0), (.int .i64 0), (.int .i64 0)]), 4, 32) := by kernel_rfl
structure S24 where
 f0 : Int
 f1 : Int
def z24 : S24 := ⟨(0 : Int), (0 : Int)⟩
def k24 : Kd S24 := Kd.iso (Kd.pair (Kd.int .i64) (Kd.int .i64)) (fun x : S24 => (x.f0, x.f1))
theorem k24_open {w : World} {x : S24} {cs : List Value} (h : k24.K w x cs) : cs = [.int .i64 x.f0, .int .i64 x.f1] := by
 obtain ⟨_, _, rfl, rfl, rfl⟩ := h
 exact rfl
theorem k24_openM {w : World} {base : Nat} {ok : Nat → Prop} {x : S24} {cs : List Value} (h : k24.M w base ok x cs) : cs = [.int .i64 x.f0, .int .i64 x.f1] := by
 obtain ⟨_, _, rfl, rfl, rfl⟩ := h
 exact rfl
theorem k24_mk (w : World) (x : S24)  : k24.K w x [.int .i64 x.f0, .int .i64 x.f1] := ⟨[.int .i64 x.f0], [.int .i64 x.f1], rfl, rfl, rfl⟩
theorem k24_mkM (w : World) (base : Nat) (ok : Nat → Prop) (x : S24)  : k24.M w base ok x [.int .i64 x.f0, .int .i64 x.f1] := ⟨[.int .i64 x.f0], [.int .i64 x.f1], rfl, rfl, rfl⟩
def rd_T24 (xs : List S24) (i : Int) : S24 := xs.getD i.toNat z24
theorem at_T24 {w : World} {A : Option Addr} {n : Nat} {xs : List S24} (h : Kd.C k24 w A n xs) (i : Int) (h0 : 0 ≤ i) (h1 : i < n) : ∃ ad , A = some ad ∧ w.cell? (ad.add (i.toNat * 2)) = some (.int .i64 (rd_T24 xs i).f0) ∧ w.cell? ⟨(ad.add (i.toNat * 2)).block, (ad.add (i.toNat * 2)).off + 1, none⟩ = some (.int .i64 (rd_T24 xs i).f1) := by
 obtain ⟨ad, c, e, _, hK, hc0⟩ := Kd.C_get h z24 i h0 h1
 have hc : ∀ j u, c[j]? = some u → w.cell? (ad.add (i.toNat * 2 + j)) = some u := hc0
 obtain rfl := k24_open hK
 exact ⟨ad, e, hc 0 _ rfl, by rw [← add_field _ _ 1 (by omega)]; exact hc 1 _ rfl⟩
structure S53 where
 f0 : S24
 f1 : S24
def z53 : S53 := ⟨z24, z24⟩
def k53 : Kd S53 := Kd.iso (Kd.pair k24 k24) (fun x : S53 => (x.f0, x.f1))
theorem k53_open {w : World} {x : S53} {cs : List Value} (h : k53.K w x cs) : cs = [.int .i64 x.f0.f0, .int .i64 x.f0.f1, .int .i64 x.f1.f0, .int .i64 x.f1.f1] := by
 obtain ⟨_, _, rfl, s0, s2⟩ := h
 obtain rfl := k24_open s0
 obtain rfl := k24_open s2
 exact rfl
theorem k53_openM {w : World} {base : Nat} {ok : Nat → Prop} {x : S53} {cs : List Value} (h : k53.M w base ok x cs) : cs = [.int .i64 x.f0.f0, .int .i64 x.f0.f1, .int .i64 x.f1.f0, .int .i64 x.f1.f1] := by
 obtain ⟨_, _, rfl, s0, s2⟩ := h
 obtain rfl := k24_openM s0
 obtain rfl := k24_openM s2
 exact rfl
theorem k53_mk (w : World) (x : S53)  : k53.K w x [.int .i64 x.f0.f0, .int .i64 x.f0.f1, .int .i64 x.f1.f0, .int .i64 x.f1.f1] := ⟨[.int .i64 x.f0.f0, .int .i64 x.f0.f1], [.int .i64 x.f1.f0, .int .i64 x.f1.f1], rfl, (k24_mk w x.f0 ), (k24_mk w x.f1 )⟩
theorem k53_mkM (w : World) (base : Nat) (ok : Nat → Prop) (x : S53)  : k53.M w base ok x [.int .i64 x.f0.f0, .int .i64 x.f0.f1, .int .i64 x.f1.f0, .int .i64 x.f1.f1] := ⟨[.int .i64 x.f0.f0, .int .i64 x.f0.f1], [.int .i64 x.f1.f0, .int .i64 x.f1.f1], rfl, (k24_mkM w base ok x.f0 ), (k24_mkM w base ok x.f1 )⟩
def rd_T53 (xs : List S53) (i : Int) : S53 := xs.getD i.toNat z53
theorem at_T53 {w : World} {A : Option Addr} {n : Nat} {xs : List S53} (h : Kd.C k53 w A n xs) (i : Int) (h0 : 0 ≤ i) (h1 : i < n) : ∃ ad , A = some ad ∧ w.cell? (ad.add (i.toNat * 4)) = some (.int .i64 (rd_T53 xs i).f0.f0) ∧ w.cell? ⟨(ad.add (i.toNat * 4)).block, (ad.add (i.toNat * 4)).off + 1, none⟩ = some (.int .i64 (rd_T53 xs i).f0.f1) ∧ w.cell? ⟨(ad.add (i.toNat * 4)).block, (ad.add (i.toNat * 4)).off + 2, none⟩ = some (.int .i64 (rd_T53 xs i).f1.f0) ∧ w.cell? ⟨(ad.add (i.toNat * 4)).block, (ad.add (i.toNat * 4)).off + 3, none⟩ = some (.int .i64 (rd_T53 xs i).f1.f1) := by
 obtain ⟨ad, c, e, _, hK, hc0⟩ := Kd.C_get h z53 i h0 h1
 have hc : ∀ j u, c[j]? = some u → w.cell? (ad.add (i.toNat * 4 + j)) = some u := hc0
 obtain rfl := k53_open hK
 exact ⟨ad, e, hc 0 _ rfl, by rw [← add_field _ _ 1 (by omega)]; exact hc 1 _ rfl, by rw [← add_field _ _ 2 (by omega)]; exact hc 2 _ rfl, by rw [← add_field _ _ 3 (by omega)]; exact hc 3 _ rfl⟩
theorem eqA24 (d : Nat) (w : World) (x0 y0 : Int) (x1 y1 : Int) :
  (Op.equalIn (d + 2) 24 (.agg #[.int .i64 x0, .int .i64 x1]) (.agg #[.int .i64 y0, .int .i64 y1])).run Tryz.prog w = .ok (x0 == y0 && (x1 == y1)) w := by
 refine eqA_of Tryz.underlying24 (by kernel_rfl) ?_
 refine eqf_cons (by rfl) (by go_simp; rfl) (by go_simp; rfl) (by go_simp) ?_
 exact eqf_last (by rfl) (by go_simp; rfl) (by go_simp; rfl) (by go_simp)
theorem eqA53 (d : Nat) (w : World) (x0 y0 : Int) (x1 y1 : Int) (x2 y2 : Int) (x3 y3 : Int) :
  (Op.equalIn (d + 3) 53 (.agg #[.int .i64 x0, .int .i64 x1, .int .i64 x2, .int .i64 x3]) (.agg #[.int .i64 y0, .int .i64 y1, .int .i64 y2, .int .i64 y3])).run Tryz.prog w = .ok ((x0 == y0 && (x1 == y1)) && ((x2 == y2 && (x3 == y3)))) w := by
 refine eqA_of Tryz.underlying53 (by kernel_rfl) ?_
 refine eqf_cons (by rfl) (by go_simp) (by go_simp) (eqA24 (d + 0) w _ _ _ _) ?_
 exact eqf_last (by rfl) (by go_simp) (by go_simp) (eqA24 (d + 0) w _ _ _ _)
def dioramalaw02_many.f (l0 : List (S53)) : Option (Bool) := some (decide ((l0.length : Int) > 40))
set_option maxHeartbeats 8000000 in
set_option maxRecDepth 100000 in
theorem dioramalaw02_many.calls (A0 : Option Addr) (c0 : Nat) (l0 : List (S53)) (r : Bool) (w : World) (hr0 : Kd.C k53 w A0 l0.length l0) (hc0 : l0.length ≤ c0) (h : dioramalaw02_many.f l0 = some r) :
  Calls Tryz.prog 9 #[.slice A0 l0.length c0] w fun e w' => e = .returned (.bool r) ∧ Drawn0 w w' := by
 have HR0 := Aside0.mk hr0; have HC0 := Aside0.mk hc0; clear hr0 hc0; have H : (some (decide ((l0.length : Int) > 40))) = some r := h; clear h; obtain rfl := Option.some.inj H
 go_enter Tryz.func9, Tryz.ntmps9
 go_wp2
 go_ret
 exact ⟨by first | rfl | (simp; done) | (simp [*]; done), by repeat (first | exact Drawn0.refl _ | apply Drawn0.step)⟩
end Go.Proofs.YtekommcfpjonmaaGreat.E
namespace Go.Proofs.YtekommcfpjonmaaGreat.E
open Go.Proofs.YtekommcfpjonmaaGreat.Z Go.RowKit Go.Proofs.YtekommcfpjonmaaGreatW.PrintWords Go.Proofs.YtekommcfpjonmaaGreatW.PrintLast Go.Proofs.YtekommcfpjonmaaGreatW.PrintMore
attribute [local go_sem] max2_int min2_int max_two min_two max_three min_three max_four min_four
set_option linter.unusedVariables false
set_option linter.unusedSimpArgs false
attribute [local go_sem high] eqA24
end Go.Proofs.YtekommcfpjonmaaGreat.E
namespace Go.Proofs.YtekommcfpjonmaaGreat.E
open Go.Proofs.YtekommcfpjonmaaGreat.Z Go.RowKit Go.Proofs.YtekommcfpjonmaaGreatW.PrintWords Go.Proofs.YtekommcfpjonmaaGreatW.PrintLast Go.Proofs.YtekommcfpjonmaaGreatW.PrintMore
attribute [local go_sem] max2_int min2_int max_two min_two max_three min_three max_four min_four
set_option linter.unusedVariables false
set_option linter.unusedSimpArgs false
end Go.Proofs.YtekommcfpjonmaaGreat.E
namespace Go.Proofs.YtekommcfpjonmaaGreat.E
open Go.Proofs.YtekommcfpjonmaaGreat.Z Go.RowKit Go.Proofs.YtekommcfpjonmaaGreatW.PrintWords Go.Proofs.YtekommcfpjonmaaGreatW.PrintLast Go.Proofs.YtekommcfpjonmaaGreatW.PrintMore
attribute [local go_sem] max2_int min2_int max_two min_two max_three min_three max_four min_four
set_option linter.unusedVariables false
set_option linter.unusedSimpArgs false
attribute [local go_sem high] eqA53
end Go.Proofs.YtekommcfpjonmaaGreat.E
namespace Go.Proofs.YtekommcfpjonmaaGreat.E
open Go.Proofs.YtekommcfpjonmaaGreat.Z Go.RowKit Go.Proofs.YtekommcfpjonmaaGreatW.PrintWords Go.Proofs.YtekommcfpjonmaaGreatW.PrintLast Go.Proofs.YtekommcfpjonmaaGreatW.PrintMore
attribute [local go_sem] max2_int min2_int max_two min_two max_three min_three max_four min_four
set_option linter.unusedVariables false
set_option linter.unusedSimpArgs false
end Go.Proofs.YtekommcfpjonmaaGreat.E
namespace Go.Proofs.YtekommcfpjonmaaGreat.E
open Go.Proofs.YtekommcfpjonmaaGreat.Z Go.RowKit Go.Proofs.YtekommcfpjonmaaGreatW.PrintWords Go.Proofs.YtekommcfpjonmaaGreatW.PrintLast Go.Proofs.YtekommcfpjonmaaGreatW.PrintMore
attribute [local go_sem] max2_int min2_int max_two min_two max_three min_three max_four min_four
set_option linter.unusedVariables false
set_option linter.unusedSimpArgs false
attribute [local go_sem high] eqA24
def dioramalaw02_same.f (a0_0 : Int) (a0_1 : Int) (a1 : Int) (a2_0 : Int) (a2_1 : Int) (a3 : Int) : Option (Bool) := if a1 = 0 then (if a3 = 0 then (some (a0_0 == a2_0 && (a0_1 == a2_1))) else (some true)) else (some true)
set_option maxHeartbeats 8000000 in
set_option maxRecDepth 100000 in
theorem dioramalaw02_same.calls (a0_0 : Int) (a0_1 : Int) (a1 : Int) (a2_0 : Int) (a2_1 : Int) (a3 : Int) (r : Bool) (w : World) (h : dioramalaw02_same.f a0_0 a0_1 a1 a2_0 a2_1 a3 = some r) :
  Calls Tryz.prog 27 #[.agg #[.int .i64 a0_0, .int .i64 a0_1], .int .i64 a1, .agg #[.int .i64 a2_0, .int .i64 a2_1], .int .i64 a3] w fun e w' => e = .returned (.bool r) ∧ Below w.heap.size w w' := by
 have hu24 := Tryz.underlying24; have HB := Aside0.mk (Below.refl w.heap.size w); have H : (if a1 = 0 then (if a3 = 0 then (some (a0_0 == a2_0 && (a0_1 == a2_1))) else (some true)) else (some true)) = some r := h; clear h
 by_cases c5 : a1 = 0
 ·rw [if_pos c5] at H; have c5b0 : (a1 == 0) = true := beq_iff_eq.mpr c5; have c5b1 : (a1 != 0) = false := bne_eq_false_iff_eq.mpr c5; clear c5
  by_cases c6 : a3 = 0
  ·rw [if_pos c6] at H; have c6b0 : (a3 == 0) = true := beq_iff_eq.mpr c6; have c6b1 : (a3 != 0) = false := bne_eq_false_iff_eq.mpr c6; clear c6; obtain rfl := Option.some.inj H
   go_enter Tryz.func27, Tryz.ntmps27
   go_wp2_with (first | ((with_reducible refine gate_dst (N := 4) rfl ?_); refine zB 4 24 #[.int .i64 a0_0, .int .i64 a0_1] ?_; intro gb645 hg w7 hbox hb; have BK645 := Aside0.mk hbox; have GW645 := gz hg; have GE645 := gz hg; replace HB := bp hb; clear hb hbox hg) | ((with_reducible refine gate_dst (N := 6) rfl ?_); refine zB 6 24 #[.int .i64 a2_0, .int .i64 a2_1] ?_; intro gb646 hg w8 hbox hb; have BK646 := Aside0.mk hbox; have GW646 := gz hg; have GE646 := gz hg; replace HB := bp hb; have NB645_646 := Aside0.mk ((by rw [hg]; exact Nat.ne_of_lt (bl BK645) : gb645 ≠ gb646)); have NB646_645 := Aside0.mk ((by rw [hg]; exact Nat.ne_of_gt (bl BK645) : gb646 ≠ gb645)); replace BK645 := kb BK645 hb; clear hb hbox hg; have hnb9 := NB645_646.out; have hnc9 := NB646_645.out; obtain ⟨hcz10_0, hcz10_1, hfz10_0, hfz10_1⟩ := xc2 BK645; obtain ⟨hcz11_0, hcz11_1, hfz11_0, hfz11_1⟩ := xc2 BK646))
   go_ret
   exact ⟨ez, bz⟩
  ·rw [if_neg c6] at H; have c6b0 : (a3 == 0) = false := beq_eq_false_iff_ne.mpr c6; have c6b1 : (a3 != 0) = true := bne_iff_ne.mpr c6; obtain rfl := Option.some.inj H
   go_enter Tryz.func27, Tryz.ntmps27
   go_wp2_with (first | ((with_reducible refine gate_dst (N := 4) rfl ?_); refine zB 4 24 #[.int .i64 a0_0, .int .i64 a0_1] ?_; intro gb645 hg w12 hbox hb; have BK645 := Aside0.mk hbox; have GW645 := gz hg; have GE645 := gz hg; replace HB := bp hb; clear hb hbox hg) | ((with_reducible refine gate_dst (N := 6) rfl ?_); refine zB 6 24 #[.int .i64 a2_0, .int .i64 a2_1] ?_; intro gb646 hg w13 hbox hb; have BK646 := Aside0.mk hbox; have GW646 := gz hg; have GE646 := gz hg; replace HB := bp hb; have NB645_646 := Aside0.mk ((by rw [hg]; exact Nat.ne_of_lt (bl BK645) : gb645 ≠ gb646)); have NB646_645 := Aside0.mk ((by rw [hg]; exact Nat.ne_of_gt (bl BK645) : gb646 ≠ gb645)); replace BK645 := kb BK645 hb; clear hb hbox hg))
   go_ret
   exact ⟨ez, bz⟩
 ·rw [if_neg c5] at H; have c5b0 : (a1 == 0) = false := beq_eq_false_iff_ne.mpr c5; have c5b1 : (a1 != 0) = true := bne_iff_ne.mpr c5; obtain rfl := Option.some.inj H
  go_enter Tryz.func27, Tryz.ntmps27
  go_wp2_with (first | ((with_reducible refine gate_dst (N := 4) rfl ?_); refine zB 4 24 #[.int .i64 a0_0, .int .i64 a0_1] ?_; intro gb645 hg w14 hbox hb; have BK645 := Aside0.mk hbox; have GW645 := gz hg; have GE645 := gz hg; replace HB := bp hb; clear hb hbox hg) | ((with_reducible refine gate_dst (N := 6) rfl ?_); refine zB 6 24 #[.int .i64 a2_0, .int .i64 a2_1] ?_; intro gb646 hg w15 hbox hb; have BK646 := Aside0.mk hbox; have GW646 := gz hg; have GE646 := gz hg; replace HB := bp hb; have NB645_646 := Aside0.mk ((by rw [hg]; exact Nat.ne_of_lt (bl BK645) : gb645 ≠ gb646)); have NB646_645 := Aside0.mk ((by rw [hg]; exact Nat.ne_of_gt (bl BK645) : gb646 ≠ gb645)); replace BK645 := kb BK645 hb; clear hb hbox hg))
  go_ret
  exact ⟨ez, bz⟩
end Go.Proofs.YtekommcfpjonmaaGreat.E
namespace Go.Proofs.YtekommcfpjonmaaGreat.E
open Go.Proofs.YtekommcfpjonmaaGreat.Z Go.RowKit Go.Proofs.YtekommcfpjonmaaGreatW.PrintWords Go.Proofs.YtekommcfpjonmaaGreatW.PrintLast Go.Proofs.YtekommcfpjonmaaGreatW.PrintMore
attribute [local go_sem] max2_int min2_int max_two min_two max_three min_three max_four min_four
set_option linter.unusedVariables false
set_option linter.unusedSimpArgs false
mutual
def exact_gcd.j0 : Nat → Int → Int → Option (Int)
  | 0, _, _ => none
  | k + 1, x0, x1 => exact_gcd.l0 k x0 x1
def exact_gcd.l0 : Nat → Int → Int → Option (Int)
  | 0, _, _ => none
  | k + 1, x0, x1 => if x1 = 0 then (some x0) else (exact_gcd.l0 k x1 (Int.tmod x0 x1))
end
def exact_gcd.f (k : Nat) (a0 : Int) (a1 : Int) : Option (Int) := if a0 < 0 then (exact_gcd.j0 k (wrap64 (-a0)) a1) else (exact_gcd.j0 k a0 a1)
set_option maxHeartbeats 8000000 in
set_option maxRecDepth 100000 in
theorem exact_gcd.calls (k : Nat) (a0 : Int) (a1 : Int) (r : Int) (w : World) (h : exact_gcd.f k a0 a1 = some r) :
  Calls Tryz.prog 134 #[.int .i64 a0, .int .i64 a1] w fun e w' => e = .returned (.int .i64 r) ∧ Drawn0 w w' := by
 have H : (if a0 < 0 then (exact_gcd.j0 k (wrap64 (-a0)) a1) else (exact_gcd.j0 k a0 a1)) = some r := h; clear h; have HC3 := Aside0.mk H; clear H
 go_enter Tryz.func134, Tryz.ntmps134
 go_upto_if 6 with (fail)
 repeat (go_quiet (fail); go_upto_if 6 with (fail))
 go_cut [0] (fun v0 wc => ∃ (kq : Nat) (x0_2 : Int), v0 = .int .i64 x0_2 ∧ Aside0 (exact_gcd.j0 kq x0_2 a1 = some r) ∧ Aside0 (kq ≤ k) ∧ Drawn0 w wc)
 case first =>
  have H := HC3.out; clear HC3
  by_cases c4 : a0 < 0
  ·rw [if_pos c4] at H; have c4b0 : decide (a0 < 0) = true := decide_eq_true c4; clear c4
   (first | rw [c4b0] | (simp only [i64_w, i32_w]; rw [c4b0]) | skip)
   have H' := Aside0.mk H; clear H
   go_wp2
   repeat (go_quiet (fail); try go_wp2)
   go_meet
   case rel => exact ⟨_, (wrap64 (-a0)), jz, H', ⟨by first | omega | exact Nat.le_refl _⟩, by repeat (first | exact Drawn0.refl _ | apply Drawn0.step)⟩
  ·rw [if_neg c4] at H; have c4b0 : decide (a0 < 0) = false := decide_eq_false c4; clear c4
   (first | rw [c4b0] | (simp only [i64_w, i32_w]; rw [c4b0]) | skip)
   have H' := Aside0.mk H; clear H
   go_wp2
   repeat (go_quiet (fail); try go_wp2)
   go_meet
   case rel => exact ⟨_, (a0), jz, H', ⟨by first | omega | exact Nat.le_refl _⟩, by repeat (first | exact Drawn0.refl _ | apply Drawn0.step)⟩
 case rest =>
  clear HC3
  try clear c1
  try clear p2
  try clear c4
  try clear c4b0
  obtain ⟨kq, x0_2, rfl, HA, HJ2, ⟨mc2, rfl⟩⟩ := hcut
  cases kq with
  | zero => exact absurd HA.out (by simp [exact_gcd.j0])
  | succ kj2 =>
   have H := HA.out; clear HA; simp only [exact_gcd.j0] at H; have H' := Aside0.mk H; clear H
   go_wp2
   repeat (go_quiet (fail); try go_wp2)
   go_loopg [0, 1] kj2 (fun kq v0 v1 w' => ∃ (x0_2 : Int) (x1_2 : Int), v0 = .int .i64 x0_2 ∧ v1 = .int .i64 x1_2 ∧ Aside0 (exact_gcd.l0 kq x0_2 x1_2 = some r) ∧ Aside0 (kq ≤ kj2) ∧ Drawn0 w w')
   case atStart => exact ⟨(x0_2), (a1), jz, jz, H', ⟨Nat.le_refl _⟩, by repeat (first | exact Drawn0.refl _ | apply Drawn0.step)⟩
   case round =>
    clear H'
    try clear c1
    try clear c2
    try clear p2
    try clear c4
    try clear c4b0
    try clear p2
    obtain ⟨x0_2, x1_2, rfl, rfl, HA, HK2, ⟨m2, rfl⟩⟩ := hrel
    cases gk with
    | zero => exact absurd HA.out (by simp [exact_gcd.l0])
    | succ k2 =>
     have H := HA.out; clear HA; simp only [exact_gcd.l0] at H
     by_cases c5 : x1_2 = 0
     ·rw [if_pos c5] at H; have c5b0 : (x1_2 == 0) = true := beq_iff_eq.mpr c5; have c5b1 : (x1_2 != 0) = false := bne_eq_false_iff_eq.mpr c5; clear c5; obtain rfl := Option.some.inj H
      go_wp2
      repeat (go_quiet (fail); try go_wp2)
      go_ret
      exact ⟨by first | rfl | (simp; done) | (simp [*]; done), by repeat (first | exact Drawn0.refl _ | apply Drawn0.step)⟩
     ·rw [if_neg c5] at H; have c5b0 : (x1_2 == 0) = false := beq_eq_false_iff_ne.mpr c5; have c5b1 : (x1_2 != 0) = true := bne_iff_ne.mpr c5; have H' := Aside0.mk H; clear H
      go_wp2
      repeat (go_quiet (fail); try go_wp2)
      go_roundg k2
      case measure => have := HJ2.out; have := HK2.out; omega
      case rel => exact ⟨(x1_2), (Int.tmod x0_2 x1_2), jz, jz, H', ⟨by have := HJ2.out; have := HK2.out; omega⟩, by repeat (first | exact Drawn0.refl _ | apply Drawn0.step)⟩
def exact_lowest.f (k : Nat) (a0 : Int) (a1 : Int) : Option (Int × Int) := (exact_gcd.f k a0 a1).bind fun t687 => (if t687 = 0 then (none) else (some (wrap64 (Int.tdiv a0 t687), wrap64 (Int.tdiv a1 t687))))
set_option maxHeartbeats 8000000 in
set_option maxRecDepth 100000 in
theorem exact_lowest.calls (k : Nat) (a0 : Int) (a1 : Int) (r1 : Int) (r2 : Int) (w : World) (h : exact_lowest.f k a0 a1 = some (r1, r2)) :
  Calls Tryz.prog 88 #[.int .i64 a0, .int .i64 a1] w fun e w' => e = .returned (.agg #[.int .i64 r1, .int .i64 r2]) ∧ Below w.heap.size w w' := by
 have hu24 := Tryz.underlying24; have HB := Aside0.mk (Below.refl w.heap.size w); have H : ((exact_gcd.f k a0 a1).bind fun t687 => (if t687 = 0 then (none) else (some (wrap64 (Int.tdiv a0 t687), wrap64 (Int.tdiv a1 t687))))) = some (r1, r2) := h
 clear h; obtain ⟨t687, A3, H⟩ := ob H
 by_cases c4 : t687 = 0
 ·rw [if_pos c4] at H
  exact absurd H (by simp)
 ·rw [if_neg c4] at H; have c4b0 : (t687 == 0) = false := beq_eq_false_iff_ne.mpr c4; have c4b1 : (t687 != 0) = true := bne_iff_ne.mpr c4; simp only [Option.some.injEq, Prod.mk.injEq] at H; obtain ⟨rfl, rfl⟩ := H
  go_enter Tryz.func88, Tryz.ntmps88
  try go_wp2_with (first | ((with_reducible refine gate_dst (N := 4) rfl ?_); refine zB 4 24 #[.int .i64 0, .int .i64 0] ?_; intro gb686 hg w5 hbox hb; have BK686 := Aside0.mk hbox; have GW686 := gz hg; have GE686 := gz hg; replace HB := bp hb; clear hb hbox hg) | ((with_reducible refine gate_callee (f := 134) rfl ?_); refine zC 8 Tryz.func134 #[.int .i64 a0, .int .i64 a1] ?_; (with_reducible refine (exact_gcd.calls k a0 a1 t687 _ A3.out).mono ?_); rintro e w' ⟨rfl, ⟨nd, rfl⟩⟩; refine ⟨_, rfl, ?_⟩; (try (rw [drewN_self w5]; generalize hq_ : World.drewN w5 _ = w5; have n0_ : Aside0 (w5.heap[gb686]? = some (.cells #[.int .i64 0, .int .i64 0] 24 (0, 0))) := ⟨by rw [← hq_]; exact kz⟩; have n1_ : Aside0 (Below w.heap.size w w5) := ⟨by rw [← hq_]; exact bz⟩; clear BK686 HB hq_; have BK686 := n0_; have HB := n1_; clear n0_ n1_))))
  replace BK686 := Aside0.mk (blk_drew BK686.out); replace HB := Aside0.mk (below_drew1 HB.out); refine start_ (n := 8) (S := fun w' => True) (ds := []) (bs 8 0) (by kernel_rfl) rfl rfl trivial (fun hHeld => ?_); generalize w5.drew = w6 at BK686 HB hHeld ⊢; refine zP 0 9 8 1 ?_; refine zP 1 10 8 3 ?_; refine zP 2 11 8 7 ?_; refine zP 3 12 8 15 ?_; refine zP 4 13 8 31 ?_; refine zP 5 14 8 63 ?_; refine zP 6 15 8 127 ?_; refine zN 7 none 8 255 (fun K hK => ?_); have hs7 : w6.cell? ⟨gb686, 0, none⟩ = some (.int .i64 0) := ct BK686 0; have hfs7 := blk_frozen BK686.out 0; have hs8 : w6.cell? ⟨gb686, 1, none⟩ = some (.int .i64 0) := ct BK686 1; have hfs8 := blk_frozen BK686.out 1; refine skip_ (w1 := ?_) (by rfl) rfl ?_ ?_
  rotate_left
  ·go_simp
   rfl
  refine hK.out _ _ trivial (fun hHeld => ?_); clear hK K; refine done_ (by kernel_rfl) ?_
  try go_wp2
  refine bodyPost_ret (results_cell_row rfl _ _ gb686 24 #[.int .i64 (wrap64 (Int.tdiv a0 t687)), .int .i64 (wrap64 (Int.tdiv a1 t687))] (0, 0) _ rfl (by (with_reducible repeat (first | refine blk_drewN ?_ _ | refine blk_drew ?_ | refine blk_alloc ?_ _)); refine blk_put (cs := #[.int .i64 (wrap64 (Int.tdiv a0 t687)), .int .i64 0]) ?_ 1 _ rfl; (with_reducible repeat (first | refine blk_drewN ?_ _ | refine blk_drew ?_ | refine blk_alloc ?_ _)); refine blk_put (cs := #[.int .i64 0, .int .i64 0]) ?_ 0 _ rfl; (with_reducible repeat (first | refine blk_drewN ?_ _ | refine blk_drew ?_ | refine blk_alloc ?_ _)); exact BK686.out) Tryz.underlying24 rfl (by kernel_rfl)) rfl ?_
  exact ⟨ez, bz⟩
end Go.Proofs.YtekommcfpjonmaaGreat.E
namespace Go.Proofs.YtekommcfpjonmaaGreat.Ea
open Go.RowKit Go Go.Proofs.YtekommcfpjonmaaGreatW.PrintWords Go.Proofs.YtekommcfpjonmaaGreatW.PrintLast Go.Proofs.YtekommcfpjonmaaGreatW.PrintMore Go.Proofs.YtekommcfpjonmaaGreat.Ml Go.Proofs.YtekommcfpjonmaaGreat.Mn Go.Proofs.YtekommcfpjonmaaGreat.Nd Go.Proofs.YtekommcfpjonmaaGreat.Z Go.Proofs.YtekommcfpjonmaaGreat.P Go.Proofs.YtekommcfpjonmaaGreat.Nc Go.Proofs.YtekommcfpjonmaaGreat.Nb Go.Proofs.YtekommcfpjonmaaGreat.Qa Go.Proofs.YtekommcfpjonmaaGreat.Qb Go.Proofs.YtekommcfpjonmaaGreat.E
set_option linter.unusedVariables false
set_option linter.unusedSimpArgs false
theorem gcd_l (y : Nat) : ∀ x k : Nat, y < k → exact_gcd.l0 k (x : Int) (y : Int) = some ((Nat.gcd x y : Nat) : Int) := by
 induction y using Nat.strongRecOn with
 | _ y ih =>
  intro x k hk
  obtain ⟨k, rfl⟩ : ∃ j, k = j + 1 := ⟨k - 1, by omega⟩
  unfold exact_gcd.l0
  by_cases hy : y = 0
  ·subst hy
   simp
  ·rw [if_neg (by omega)]
   have e : Int.tmod (x : Int) (y : Int) = ((x % y : Nat) : Int) := by rw [Int.tmod_eq_emod_of_nonneg (by omega)]; simp
   rw [e, ih (x % y) (Nat.mod_lt _ (by omega)) y k (by have := Nat.mod_lt x (show y > 0 by omega); omega)]
   congr 2
   rw [Nat.gcd_comm x y, Nat.gcd_rec y x, Nat.gcd_comm]
theorem gcd_f (a : Int) (b : Nat) (k : Nat) (h0 : -9223372036854775807 ≤ a) (h1 : a ≤ 9223372036854775807) (hk : b + 1 < k) : exact_gcd.f k a (b : Int) = some ((Int.gcd a b : Nat) : Int) := by
 obtain ⟨k, rfl⟩ : ∃ j, k = j + 1 := ⟨k - 1, by omega⟩
 have ej : ∀ x y, exact_gcd.j0 (k + 1) x y = exact_gcd.l0 k x y := fun _ _ => by unfold exact_gcd.j0; rfl
 unfold exact_gcd.f
 rw [ej, ej]
 by_cases ha : a < 0
 ·rw [if_pos ha, w64 (by omega) (by omega)]
  obtain ⟨n, hn⟩ : ∃ n : Nat, -a = (n : Int) := ⟨(-a).toNat, by omega⟩
  rw [hn, gcd_l b n k (by omega)]
  have : Int.gcd a b = Nat.gcd n b := by
   rw [show a = -(n : Int) by omega, Int.neg_gcd]; rfl
  rw [this]
 ·rw [if_neg ha]
  obtain ⟨n, rfl⟩ : ∃ n : Nat, a = (n : Int) := ⟨a.toNat, by omega⟩
  rw [gcd_l b n k (by omega)]
  rfl
def lowN (n d : Int) : Int := n / (Int.gcd n d : Int)
def lowD (n d : Int) : Int := d / (Int.gcd n d : Int)
theorem div_bound {n g : Int} (hg : 1 ≤ g) {m : Int} (h0 : -m ≤ n) (h1 : n ≤ m) (hd : g ∣ n) : -m ≤ n / g ∧ n / g ≤ m := by
 obtain ⟨q, rfl⟩ := hd
 rw [Int.mul_ediv_cancel_left _ (by omega)]
 have hm : 0 ≤ m := by omega
 rcases Int.lt_or_le q 0 with h | h
 ·have : g * (-q) ≥ 1 * (-q) := Int.mul_le_mul_of_nonneg_right hg (by omega)
  rw [Int.mul_neg] at this
  omega
 ·have : g * q ≥ 1 * q := Int.mul_le_mul_of_nonneg_right hg h
  omega
theorem lowest_f (n : Int) (d : Int) (h0 : -9223372036854775807 ≤ n) (h1 : n ≤ 9223372036854775807) (hd : 1 ≤ d) (hd1 : d ≤ 9223372036854775807) : ∃ k, exact_lowest.f k n d = some (lowN n d, lowD n d) := by
 obtain ⟨m, rfl⟩ : ∃ m : Nat, d = (m : Int) := ⟨d.toNat, by omega⟩
 refine ⟨m + 2, ?_⟩
 unfold exact_lowest.f lowN lowD
 rw [gcd_f n m (m + 2) h0 h1 (by omega), Option.bind_some]
 have hg : 1 ≤ ((Int.gcd n m : Nat) : Int) := by
  have := Int.gcd_pos_of_ne_zero_right n (show (m : Int) ≠ 0 by omega)
  omega
 have d1 : ((Int.gcd n m : Nat) : Int) ∣ n := Int.gcd_dvd_left n m
 have d2 : ((Int.gcd n m : Nat) : Int) ∣ (m : Int) := Int.gcd_dvd_right n m
 rw [if_neg (by omega), Int.tdiv_eq_ediv_of_dvd d1, Int.tdiv_eq_ediv_of_dvd d2]
 have b1 := div_bound hg h0 h1 d1
 have b2 := div_bound hg (m := 9223372036854775807) (by omega) hd1 d2
 rw [w64 (by omega) (by omega), w64 (by omega) (by omega)]
def isScale (s : Int) : Bool := decide (1 ≤ s) && decide (s ≤ 1000000)
def isTicks (s : Int) : Bool := decide (-1099511627776 ≤ s) && decide (s ≤ 1099511627776)
def isHow (h : Int) : Bool := decide (h = 0) || decide (h = 1) || decide (h = 2)
def valid (n d : Int) : Bool := decide (1 ≤ d) && decide (d ≤ 1152921504606846976) && decide (-1152921504606846976 ≤ n) && decide (n ≤ 1152921504606846976)
def tm (n d : Int) : Value := .agg #[.int .i64 n, .int .i64 d]
def er (e : Int) : Value := .int .i64 e
set_option maxHeartbeats 1000000 in
theorem isScale_n (s : Int) (w : World) : Calls Tryz.prog 78 #[.int .i64 s] w (fun e w' => e = .returned (.bool (isScale s)) ∧ w = w') := by
 go_enter Tryz.func78, Tryz.ntmps78
 go_wp2
 all_goals
  go_ret
  refine ⟨ret_b ?_, rfl⟩
  unfold isScale
  first | (simp_all; done) | (simp_all; omega) | grind
set_option maxHeartbeats 1000000 in
theorem isTicks_n (s : Int) (w : World) : Calls Tryz.prog 132 #[.int .i64 s] w (fun e w' => e = .returned (.bool (isTicks s)) ∧ w = w') := by
 go_enter Tryz.func132, Tryz.ntmps132
 go_wp2
 all_goals
  go_ret
  refine ⟨ret_b ?_, rfl⟩
  unfold isTicks
  first | (simp_all; done) | (simp_all; omega) | grind
set_option maxHeartbeats 1000000 in
theorem isHow_n (s : Int) (w : World) : Calls Tryz.prog 79 #[.int .i64 s] w (fun e w' => e = .returned (.bool (isHow s)) ∧ w = w') := by
 go_enter Tryz.func79, Tryz.ntmps79
 go_wp2
 all_goals
  go_ret
  refine ⟨ret_b ?_, rfl⟩
  unfold isHow
  first | (simp_all; done) | (simp_all; omega) | grind
set_option maxHeartbeats 2000000 in
set_option maxRecDepth 100000 in
theorem Valid_n (n d : Int) (w : World) : Calls Tryz.prog 38 #[tm n d] w (fun e w' => e = .returned (.bool (valid n d)) ∧ Below w.heap.size w w') := by
 have hu := Tryz.underlying24
 unfold tm
 go_enter Tryz.func38, Tryz.ntmps38
 go_wp2
 all_goals
  go_ret
  refine ⟨ret_b ?_, below_alloc (Below.refl _ _) _⟩
  unfold valid
  first | (simp_all; done) | (simp_all; omega) | grind
end Go.Proofs.YtekommcfpjonmaaGreat.Ea
namespace Go.Proofs.YtekommcfpjonmaaGreat.Ra
open Go.RowKit Go Go.Proofs.YtekommcfpjonmaaGreatW.PrintWords Go.Proofs.YtekommcfpjonmaaGreatW.PrintLast Go.Proofs.YtekommcfpjonmaaGreatW.PrintMore Go.Proofs.YtekommcfpjonmaaGreat.Ml Go.Proofs.YtekommcfpjonmaaGreat.Mn Go.Proofs.YtekommcfpjonmaaGreat.Nd Go.Proofs.YtekommcfpjonmaaGreat.Z Go.Proofs.YtekommcfpjonmaaGreat.P Go.Proofs.YtekommcfpjonmaaGreat.Nc Go.Proofs.YtekommcfpjonmaaGreat.Nb Go.Proofs.YtekommcfpjonmaaGreat.Da Go.Proofs.YtekommcfpjonmaaGreat.Qa Go.Proofs.YtekommcfpjonmaaGreat.Qb Go.Proofs.YtekommcfpjonmaaGreat.Ea
set_option linter.unusedVariables false
set_option linter.unusedSimpArgs false
def ratN (n d : Int) : Int := if d < 0 then lowN (-n) (-d) else lowN n d
def ratD (n d : Int) : Int := if d < 0 then lowD (-n) (-d) else lowD n d
structure GcI (w0 w : World) (a b : Int) (n : Nat) (vg vr : Value) (k : Nat) : Prop where mk ::
 at_ : ∃ Ag cg lg Ar cr lr, vg = .slice Ag (List.length lg) cg ∧ vr = .slice Ar (List.length lr) cr ∧ lg.length ≤ cg ∧ lr.length ≤ cr ∧ Kd.C (Kd.int .u32) w Ag lg.length lg ∧ Kd.C (Kd.int .u32) w Ar lr.length lr ∧ Cn 4294967296 lg ∧ Cn 4294967296 lr ∧ lg.length ≤ n ∧ lr.length ≤ n ∧ Int.gcd (dv 4294967296 lg) (dv 4294967296 lr) = Int.gcd a b ∧ dv 4294967296 lr ≤ (k : Int)
 b : Below w0.heap.size w0 w
theorem dv_pos {l : List Int} (h : Cn 4294967296 l) (hl : l ≠ []) : 0 < dv 4294967296 l := by
 have h1 := dv_len (a := []) (by decide) (Dg.nil _) h (by cases l with | nil => exact absurd rfl hl | cons x t => simp)
 simpa only [dv] using h1
theorem gcd_step {x y q r : Int} (h : x = q * y + r) : Int.gcd y r = Int.gcd x y := by
 rw [h, Int.gcd_comm (q * y + r) y, Int.mul_comm]
 simp
theorem quo_exact {x g q r : Int} (hg : 0 < g) (hd : g ∣ x) (h0 : 0 ≤ r) (h1 : r < g) (h : x = q * g + r) : q = x / g := by
 have : x / g = q := by
  rw [h, Int.add_comm, Int.add_mul_ediv_right _ _ (by omega), Int.ediv_eq_zero_of_lt h0 h1]
  omega
 exact this.symm
theorem sg_quo {na nb : Bool} {a b A B G : Int} (ha : a = sg na A) (hb : b = sg nb B) (hA : 0 ≤ A) (hB : 0 < B) (hG : G = (Int.gcd a b : Nat)) : sg (!(na == nb)) (A / G) = ratN a b ∧ B / G = ratD a b := by
 have e : ∀ n : Int, Int.gcd (-n) b = Int.gcd n b := fun n => Int.neg_gcd
 have dA : G ∣ A := by
  have : G ∣ a := by rw [hG]; exact Int.gcd_dvd_left _ _
  rw [ha] at this
  cases na
  ·simpa [sg] using this
  ·simpa [sg] using this
 unfold ratN ratD lowN lowD
 cases nb with
 | true =>
  have hb' : b = -B := by simpa [sg] using hb
  rw [if_pos (by omega), if_pos (by omega)]
  rw [show Int.gcd (-a) (-b) = Int.gcd a b by rw [Int.neg_gcd, Int.gcd_neg], ← hG, hb', Int.neg_neg]
  cases na with
  | true =>
   have ha' : a = -A := by simpa [sg] using ha
   rw [ha', Int.neg_neg]
   exact ⟨rfl, rfl⟩
  | false =>
   have ha' : a = A := by simpa [sg] using ha
   rw [ha', Int.neg_ediv_of_dvd dA]
   exact ⟨rfl, rfl⟩
 | false =>
  have hb' : b = B := by simpa [sg] using hb
  rw [if_neg (by omega), if_neg (by omega), ← hG, hb']
  cases na with
  | true =>
   have ha' : a = -A := by simpa [sg] using ha
   rw [ha', Int.neg_ediv_of_dvd dA]
   exact ⟨rfl, rfl⟩
  | false =>
   have ha' : a = A := by simpa [sg] using ha
   rw [ha']
   exact ⟨rfl, rfl⟩
theorem sg_dvd {s : Bool} {x z g : Int} (h : z = sg s x) (hd : g ∣ z) : g ∣ x := by
 subst h
 cases s
 ·simpa [sg] using hd
 ·simpa [sg] using hd
def SfP (w : World) (gx : Nat) (a b : Int) (na nb B : Nat) (e : Ending) (w' : World) : Prop := e = .returned (.pointer (some ⟨gx, 0, none⟩)) ∧ Below B w w' ∧ IsN w' gx 0 (ratN a b) na ∧ IsN w' gx 2 (ratD a b) nb
theorem sg_bne (a b : Bool) : (a != b) = !(a == b) := by cases a <;> cases b <;> rfl
set_option maxHeartbeats 8000000 in
set_option maxRecDepth 100000 in
theorem setFrac_n (gx ga oa gb ob : Nat) (a b : Int) (na nb B : Nat) (w : World) (hx0 : Room w gx 0) (hx2 : Room w gx 2) (ha : IsN w ga oa a na) (hb : IsN w gb ob b nb) (hbp : b ≠ 0) (hl : na + nb ≤ 1000) (hB1 : B ≤ gx) :
  Calls Tryz.prog 135 #[.pointer (some ⟨gx, 0, none⟩), .pointer (some ⟨ga, oa, none⟩), .pointer (some ⟨gb, ob, none⟩)] w (SfP w gx a b na nb B) := by
 obtain ⟨nega, Aa, cca, la, sa, hca, ra, ca, hla, hza, qa⟩ := ha.open
 obtain ⟨negb, Ab, ccb, lb, sb, hcb, rb, cb, hlb, hzb, qb⟩ := hb.open
 have a1 := sa.cell1
 have b1 := sb.cell1
 have lgx := hx0.lt
 go_enter Tryz.func135, Tryz.ntmps135
 go_wp2_with fail
 refine start_ (n := 11) (S := fun w' => w'.cell? ⟨ga, oa + 1, none⟩ = some (.slice Aa la.length cca) ∧ w'.cell? ⟨gb, ob + 1, none⟩ = some (.slice Ab lb.length ccb)) (ds := []) (bs 11 0) (by kernel_rfl) rfl rfl ⟨a1, b1⟩ (fun hHeld => ?_)
 refine zP 0 16 11 1 ?_
 refine zP 1 17 11 3 ?_
 refine zP 2 18 11 7 ?_
 refine zP 5 21 11 39 ?_
 refine zP 6 22 11 103 ?_
 refine zP 7 23 11 231 ?_
 refine zT 3 19 11 239 hHeld ?_
 refine zT 8 24 11 495 hHeld ?_
 refine zN 4 (some 20) 11 511 (fun K hK => ?_)
 refine zG Tryz.func158 #[.slice Aa la.length cca] ?_
 with_reducible refine (clone_n Aa cca la w.drew hca (Kd.C_drew ra) (by omega)).mono ?_
 rintro e w2 ⟨v4, rfl, hM4, hb4⟩
 refine ⟨_, rfl, ?_⟩
 have hb4' := below_drew' hb4
 refine hK.out _ _ ⟨(sa.below hb4').cell1, (sb.below hb4').cell1⟩ (fun hHeld => ?_)
 clear hK K
 refine zM 20 ?_
 refine zP 9 7 11 1023 ?_
 refine zP 10 8 11 2047 ?_
 refine done_ (by kernel_rfl) ?_
 obtain ⟨A4, c4, rfl, hc4, r4⟩ := hM4
 have HI := Aside0.mk (show GcI w w2 a b (na + nb) (.slice A4 la.length c4) (.slice Ab lb.length ccb) (dv 4294967296 lb).toNat from
  ⟨⟨A4, c4, la, Ab, ccb, lb, rfl, rfl, hc4, hcb, r4, Kd.C_below rb hb4', ca, cb, by omega, by omega, by
   have p0 := dv_nonneg (by decide) ca.dg
   have p1 := dv_nonneg (by decide) cb.dg
   rw [hza, hzb]
   cases nega <;> cases negb <;> simp [sg, Int.neg_gcd, Int.gcd_neg], by have := dv_nonneg (by decide) cb.dg; omega⟩, hb4'⟩)
 have HH := Aside0.mk (And.intro ha (And.intro hb (And.intro hx0 hx2)))
 clear hHeld r4 hb4 hb4' hc4 a1 b1
 go_wp2_with fail
 go_loopg [7, 8] (dv 4294967296 lb).toNat (fun kq v7 v8 w' => Aside0 (GcI w w' a b (na + nb) v7 v8 kq))
 case atStart => exact HI
 case round =>
  clear HI
  obtain ⟨⟨⟨Ag, cg, lg, Ar, cr, lr, rfl, rfl, hcg, hcr, rg, rr, cag, car, hlg, hlr, hgc, hk⟩, hbw⟩⟩ := hrel
  by_cases hr : lr = []
  ·subst hr
   have hG : dv 4294967296 lg = (Int.gcd a b : Nat) := by
    have h0 := dv_nonneg (by decide) cag.dg
    rw [← hgc]
    simp only [dv, Int.gcd_zero]
    omega
   have hgp : 0 < dv 4294967296 lg := by
    have := Int.gcd_pos_of_ne_zero_right a hbp
    omega
   have hgn : lg ≠ [] := by rintro rfl; simp [dv] at hgp
   have sa' := sa.below hbw
   have sb' := sb.below hbw
   have a1 := sa'.cell1
   have b1 := sb'.cell1
   have RA := Aside0.mk (And.intro (Kd.C_below ra hbw) (And.intro (Kd.C_below rb hbw) rg))
   have HW := Aside0.mk (And.intro hbw (And.intro hG hgp))
   clear hbw hG hgp hgc hk rr rg
   go_wp2_with fail
   refine (divMag_n Aa cca la Ag cg lg wr hca RA.out.1 hcg RA.out.2.2 ca cag hgn (by omega) (by omega)).mono ?_
   rintro e w3 ⟨v0, v1, q1, r1, rfl, hq1, hr1, cq1, cr1, lq1, lr1, eq1, lt1, hb3⟩
   have a1' := (sa'.below hb3).cell1
   have b1' := (sb'.below hb3).cell1
   have K1 := Aside0.mk (And.intro hq1 (And.intro (quo_exact HW.out.2.2 (sg_dvd hza (HW.out.2.1 ▸ Int.gcd_dvd_left _ _)) (dv_nonneg (by decide) cr1.dg) lt1 eq1) hb3))
   clear hq1 hr1 cr1 lr1 eq1 lt1 a1 b1
   have hbw3 := HW.out.1.trans (hb3.mono HW.out.1.size)
   have HB3 := Aside0.mk hbw3
   go_wp2_with fail
   refine (divMag_n Ab ccb lb Ag cg lg w3 hcb (Kd.C_below RA.out.2.1 hb3) hcg (Kd.C_below RA.out.2.2 hb3) cb cag hgn (by omega) (by omega)).mono ?_
   rintro e w4 ⟨v2, v3, q2, r2, rfl, hq2, hr2, cq2, cr2, lq2, lr2, eq2, lt2, hb4⟩
   have hbw4 := hbw3.trans (hb4.mono hbw3.size)
   have sa4 := sa.below hbw4
   have sb4 := sb.below hbw4
   have a0 := sa4.cell0
   have b0 := sb4.cell0
   have K2 := Aside0.mk (And.intro hq2 (And.intro (quo_exact HW.out.2.2 (sg_dvd hzb (HW.out.2.1 ▸ Int.gcd_dvd_right _ _)) (dv_nonneg (by decide) cr2.dg) lt2 eq2) hb4))
   have HB4 := Aside0.mk hbw4
   clear hq2 hr2 cr2 lr2 eq2 lt2 a1' b1' hb3 hb4 hbw3 hbw4 sa' sb' HB3
   go_wp2_with fail
   refine start_ (n := 10) (S := fun w' => w'.cell? ⟨ga, oa, none⟩ = some (.bool nega) ∧ w'.cell? ⟨gb, ob, none⟩ = some (.bool negb)) (ds := []) (bs 10 0) (by kernel_rfl) rfl rfl ⟨a0, b0⟩ (fun hHeld => ?_)
   refine zP 0 54 10 1 ?_
   refine zP 1 55 10 3 ?_
   refine zP 2 56 10 7 ?_
   refine zP 4 58 10 23 ?_
   refine zP 5 59 10 55 ?_
   refine zP 6 60 10 119 ?_
   refine zT 3 57 10 127 hHeld ?_
   refine zT 7 61 10 255 hHeld ?_
   refine zP 8 62 10 511 ?_
   refine zP 9 15 10 1023 ?_
   refine done_ (by kernel_rfl) ?_
   have X := HH.out.2.2
   have hb5 : Below w4.heap.size w4 w4.drew := below_drew' (Below.refl _ _)
   have hbw5 := HB4.out.trans (hb5.mono HB4.out.size)
   go_wp2_with fail
   refine (set_n gx 0 v0 q1 (nega != negb) na w4.drew (X.1.below hbw5) ((K1.out.1.below K2.out.2.2).below hb5) cq1 (by omega)).mono ?_
   rintro e w6 ⟨rfl, hw6, hN6⟩
   have K3 := Aside0.mk (And.intro hw6 (And.intro hN6 (And.intro hbw5 ((K2.out.1.below hb5)))))
   clear hw6 hN6 hbw5 hb5 X
   go_wp2_with fail
   have hr2' : Room w6 gx 2 := by
    obtain ⟨n2, v2', h2⟩ := HH.out.2.2.2.below K3.out.2.2.1
    exact ⟨n2, v2', K3.out.1.slot h2 (.inr (by omega))⟩
   refine (set_n gx 2 v2 q2 false nb w6 hr2' (K3.out.1.mag (HH.out.2.2.1.below K3.out.2.2.1) K3.out.2.2.2) cq2 (by omega)).mono ?_
   rintro e w7 ⟨rfl, hw7, hN7⟩
   have K4 := Aside0.mk (And.intro hw7 hN7)
   clear hw7 hN7
   go_wp2_with fail
   go_ret
   have hsq := sg_quo hza hzb (dv_nonneg (by decide) ca.dg) (dv_pos cb (by rintro rfl; cases negb <;> simp [dv, sg] at hzb <;> exact hbp hzb)) HW.out.2.1
   rw [← K1.out.2.1, ← K2.out.2.1, ← sg_bne] at hsq
   have hs0 := K3.out.2.2.1.size
   refine ⟨rfl, ?_, hsq.1 ▸ K4.out.1.isN hr2' K3.out.2.1 (.inr (by omega)), hsq.2 ▸ K4.out.2⟩
   have hB : Below B w w4.drew := ⟨K3.out.2.2.1.os, K3.out.2.2.1.tape, K3.out.2.2.1.output, K3.out.2.2.1.size, fun i hi => K3.out.2.2.1.block i (by omega)⟩
   exact hB.trans ((K3.out.1.below hB1 (by omega)).trans (K4.out.1.below hB1 (by have := K3.out.1.size; omega)))
  ·cases gk with
   | zero =>
    exfalso
    have := dv_pos car hr
    omega
   | succ k1 =>
    have hpos : 0 < lr.length := by cases lr with | nil => exact absurd rfl hr | cons x t => simp
    have HW := Aside0.mk (And.intro hbw (And.intro hgc hk))
    have HR := Aside0.mk rr
    have HG := Aside0.mk rg
    clear hbw hgc hk rr rg
    go_wp2_with fail
    refine (divMag_n Ag cg lg Ar cr lr wr hcg HG.out hcr HR.out cag car hr (by omega) (by omega)).mono ?_
    rintro e w3 ⟨v0, v1, q1, r1, rfl, hq1, hr1, cq1, cr1, lq1, lr1, eq1, lt1, hb3⟩
    obtain ⟨A5, c5, rfl, hc5, r5⟩ := hr1
    have HW3 := Aside0.mk (HW.out.1.trans (hb3.mono HW.out.1.size))
    have HN := Aside0.mk (show GcI w w3 a b (na + nb) (.slice Ar lr.length cr) (.slice A5 r1.length c5) k1 from
     ⟨⟨Ar, cr, lr, A5, c5, r1, rfl, rfl, hcr, hc5, Kd.C_below HR.out hb3, r5, car, cr1, hlr, by omega, (gcd_step eq1).trans HW.out.2.1, by have := HW.out.2.2; omega⟩, HW3.out⟩)
    clear hq1 eq1 lt1 hb3 r5
    go_wp2_with fail
    go_roundg k1
    case measure => omega
    case rel => exact HN
theorem down_n (gx : Nat) (z : Int) (n : Nat) (w : World) (h : IsN w gx 2 z n) (hz : z ≠ 0) :
  Calls Tryz.prog 115 #[.pointer (some ⟨gx, 0, none⟩)] w (fun e w' => e = .returned (.pointer (some ⟨gx, 2, none⟩)) ∧ w = w') := by
 obtain ⟨neg, A, c, l, s, hc, r, cn, hl, hz2, q⟩ := h.open
 have a1 := s.cell1
 have hln : ((l.length : Int) == 0) = false := by
  cases l with
  | nil => exfalso; cases neg <;> simp [dv, sg] at hz2 <;> exact hz hz2
  | cons x t => simp; omega
 go_enter Tryz.func115, Tryz.ntmps115
 go_wp2_with fail
 go_ret
 exact ⟨rfl, rfl⟩
theorem denom_n (gx : Nat) (z : Int) (n : Nat) (w : World) (h : IsN w gx 2 z n) (hz : z ≠ 0) :
  Calls Tryz.prog 117 #[.pointer (some ⟨gx, 0, none⟩)] w (fun e w' => e = .returned (.pointer (some ⟨gx, 2, none⟩)) ∧ w = w') := by
 have HD := Aside0.mk (down_n gx z n w h hz)
 go_enter Tryz.func117, Tryz.ntmps117
 go_wp2_with fail
 refine HD.out.mono ?_
 rintro e w2 ⟨rfl, rfl⟩
 go_wp2_with fail
 go_ret
 exact ⟨rfl, rfl⟩
theorem num_n (gx : Nat) (w : World) :
  Calls Tryz.prog 116 #[.pointer (some ⟨gx, 0, none⟩)] w (fun e w' => e = .returned (.pointer (some ⟨gx, 0, none⟩)) ∧ w = w') := by
 go_enter Tryz.func116, Tryz.ntmps116
 go_wp2_with fail
 go_ret
 exact ⟨rfl, rfl⟩
end Go.Proofs.YtekommcfpjonmaaGreat.Ra
namespace Go.Proofs.YtekommcfpjonmaaGreat.Rf
open Go.RowKit Go Go.Proofs.YtekommcfpjonmaaGreatW.PrintWords Go.Proofs.YtekommcfpjonmaaGreatW.PrintLast Go.Proofs.YtekommcfpjonmaaGreatW.PrintMore Go.Proofs.YtekommcfpjonmaaGreat.Ml Go.Proofs.YtekommcfpjonmaaGreat.Mn Go.Proofs.YtekommcfpjonmaaGreat.Nd Go.Proofs.YtekommcfpjonmaaGreat.Z Go.Proofs.YtekommcfpjonmaaGreat.Ea Go.Proofs.YtekommcfpjonmaaGreat.Ra
set_option linter.unusedVariables false
set_option linter.unusedSimpArgs false
def qq (a b : Int) : Rat := Rat.divInt a b
theorem rat_low {a b : Int} (hb : b ≠ 0) : ratN a b = (qq a b).num ∧ ratD a b = ((qq a b).den : Int) := by
 unfold qq ratN ratD lowN lowD
 rw [Rat.num_divInt, Rat.den_divInt, if_neg hb]
 rcases Int.lt_or_le b 0 with h | h
 ·rw [if_pos h, if_pos h, Int.sign_eq_neg_one_of_neg h, Int.neg_gcd, Int.gcd_neg, Int.gcd_comm b a]
  refine ⟨by rw [Int.neg_one_mul], ?_⟩
  rw [Int.natCast_ediv, Int.ofNat_natAbs_of_nonpos (by omega)]
 ·rw [if_neg (by omega), if_neg (by omega), Int.sign_eq_one_of_pos (by omega), Int.gcd_comm b a]
  refine ⟨by rw [Int.one_mul], ?_⟩
  rw [Int.natCast_ediv, Int.natAbs_of_nonneg h]
def cmpQ (p q : Rat) : Int := if p < q then -1 else if q < p then 1 else 0
end Go.Proofs.YtekommcfpjonmaaGreat.Rf
namespace Go.Proofs.YtekommcfpjonmaaGreat.Sx
open Go.RowKit Go Go.Proofs.YtekommcfpjonmaaGreatW.PrintWords Go.Proofs.YtekommcfpjonmaaGreatW.PrintLast Go.Proofs.YtekommcfpjonmaaGreatW.PrintMore Go.Proofs.YtekommcfpjonmaaGreat.Mn Go.Proofs.YtekommcfpjonmaaGreat.Rf Go.Proofs.YtekommcfpjonmaaGreat.E Go.Proofs.YtekommcfpjonmaaGreat.Sg
set_option linter.unusedVariables false
set_option linter.unusedSimpArgs false
abbrev Tm := S24
abbrev Sn := S53
def vT (t : Tm) : Bool := Ea.valid t.f0 t.f1
def qT (t : Tm) : Rat := qq t.f0 t.f1
def lT (q : Rat) : Tm := ⟨q.num, (q.den : Int)⟩
theorem vT_is {t : Tm} (h : vT t = true) : (-1152921504606846976 ≤ t.f0 ∧ t.f0 ≤ 1152921504606846976) ∧ 1 ≤ t.f1 ∧ t.f1 ≤ 1152921504606846976 := by
 unfold vT Ea.valid at h
 simp only [Bool.and_eq_true, decide_eq_true_eq] at h
 omega
theorem qT_lT (q : Rat) : qT (lT q) = q := Rat.num_divInt_den q
theorem parts {a b : Int} (hb : 0 < b) : ∃ g : Int, 0 < g ∧ a = (qq a b).num * g ∧ b = ((qq a b).den : Int) * g := by
 obtain ⟨h1, h2⟩ := rat_low (a := a) (b := b) (by omega)
 refine ⟨(Int.gcd a b : Nat), ?_, ?_, ?_⟩
 ·have := Int.gcd_pos_of_ne_zero_right a (show b ≠ 0 by omega)
  omega
 ·rw [← h1]
  unfold Ra.ratN Ea.lowN
  rw [if_neg (by omega)]
  exact (Int.ediv_mul_cancel (Int.gcd_dvd_left a b)).symm
 ·rw [← h2]
  unfold Ra.ratD Ea.lowD
  rw [if_neg (by omega)]
  exact (Int.ediv_mul_cancel (Int.gcd_dvd_right a b)).symm
theorem vT_low {t : Tm} (h : vT t = true) : vT (lT (qT t)) = true := by
 have hv := vT_is h
 obtain ⟨g, hg, e1, e2⟩ := parts (a := t.f0) (b := t.f1) (by omega)
 unfold vT Ea.valid lT qT
 generalize hN : (qq t.f0 t.f1).num = N at *
 have hD0 : 0 < ((qq t.f0 t.f1).den : Int) := by have := (qq t.f0 t.f1).den_pos; omega
 generalize ((qq t.f0 t.f1).den : Int) = D at *
 have k1 : D ≤ D * g := by
  have := Int.mul_le_mul_of_nonneg_left (show 1 ≤ g by omega) (Int.le_of_lt hD0)
  omega
 have k2 : N ≤ 1152921504606846976 := by
  refine Int.not_lt.1 fun hc => ?_
  have := Int.mul_le_mul_of_nonneg_left (show 1 ≤ g by omega) (show 0 ≤ N by omega)
  omega
 have k3 : -1152921504606846976 ≤ N := by
  refine Int.not_lt.1 fun hc => ?_
  have := Int.mul_le_mul_of_nonneg_left (show 1 ≤ g by omega) (show 0 ≤ -N by omega)
  simp only [Int.neg_mul] at this
  omega
 simp only [Bool.and_eq_true, decide_eq_true_eq]
 omega
def qS (s : Sn) : Sq := (qT s.f0, qT s.f1)
def lS (s : Sq) : Sn := ⟨lT s.1, lT s.2⟩
theorem qS_lS (s : Sq) : qS (lS s) = s := Prod.ext (qT_lT _) (qT_lT _)
theorem map_lS : ∀ l : List Sq, (l.map lS).map qS = l
 | [] => rfl
 | a :: t => by rw [List.map_cons, List.map_cons, map_lS t, qS_lS]
def vS (s : Sn) : Bool := vT s.f0 && (vT s.f1 && !(decide (qT s.f1 < qT s.f0)))
theorem vS_is {s : Sn} (h : vS s = true) : vT s.f0 = true ∧ vT s.f1 = true ∧ qT s.f0 ≤ qT s.f1 := by
 unfold vS at h
 simp only [Bool.and_eq_true, Bool.not_eq_true', decide_eq_false_iff_not] at h
 exact ⟨h.1, h.2.1, Rat.not_lt.1 h.2.2⟩
def ins (a : Sq) : List Sq → List Sq
 | [] => [a]
 | x :: l => if a.1 ≤ x.1 then a :: x :: l else x :: ins a l
def srt : List Sq → List Sq
 | [] => []
 | a :: l => ins a (srt l)
theorem ins_mem {a s : Sq} : ∀ {l : List Sq}, s ∈ ins a l ↔ s = a ∨ s ∈ l
 | [] => by simp [ins]
 | x :: l => by
  rw [ins]
  split
  ·simp
  ·rw [List.mem_cons, ins_mem, List.mem_cons]
   constructor
   ·rintro (h | h | h) <;> simp [h]
   ·rintro (h | h | h) <;> simp [h]
theorem srt_mem {s : Sq} : ∀ {l : List Sq}, s ∈ srt l ↔ s ∈ l
 | [] => Iff.rfl
 | a :: l => by rw [srt, ins_mem, srt_mem, List.mem_cons]
theorem ins_od {a : Sq} (ha : a.1 < a.2) : ∀ {l : List Sq}, Od l → Od (ins a l)
 | [], _ => ⟨ha, by simp, trivial⟩
 | x :: l, h => by
  rw [ins]
  split
  ·rename_i hc
   refine ⟨ha, fun y hy => ?_, h⟩
   rcases List.mem_cons.1 hy with rfl | hy
   ·exact hc
   ·have := h.2.1 y hy
    grind
  ·rename_i hc
   refine ⟨h.1, fun y hy => ?_, ins_od ha h.2.2⟩
   rcases ins_mem.1 hy with rfl | hy
   ·grind
   ·exact h.2.1 y hy
def full (l : List Sq) : List Sq := l.filter (fun s => decide (s.1 < s.2))
theorem full_in {l : List Sq} {q : Rat} : inS (full l) q ↔ inS l q := by
 unfold inS full
 constructor
 ·rintro ⟨s, hs, h⟩
  exact ⟨s, (List.mem_filter.1 hs).1, h⟩
 ·rintro ⟨s, hs, h⟩
  refine ⟨s, List.mem_filter.2 ⟨hs, ?_⟩, h⟩
  rw [decide_eq_true_eq]
  grind
theorem srt_od : ∀ {l : List Sq}, (∀ s ∈ l, s.1 < s.2) → Od (srt l)
 | [], _ => trivial
 | a :: l, h => ins_od (h a (by simp)) (srt_od (fun s hs => h s (by simp [hs])))
theorem mem_in {l m : List Sq} (h : ∀ s, s ∈ l ↔ s ∈ m) (q : Rat) : inS l q ↔ inS m q := by
 unfold inS
 constructor
 ·rintro ⟨s, hs, k⟩
  exact ⟨s, (h s).1 hs, k⟩
 ·rintro ⟨s, hs, k⟩
  exact ⟨s, (h s).2 hs, k⟩
def cnl (l : List Sq) : List Sq := mrg (srt (full l))
theorem full_lt {l : List Sq} : ∀ s ∈ full l, s.1 < s.2 := fun s hs => by
 have := (List.mem_filter.1 hs).2
 simpa using this
theorem cnl_cn (l : List Sq) : Cn (cnl l) := mrg_cn (srt_od full_lt)
theorem cnl_in (l : List Sq) (q : Rat) : inS (cnl l) q ↔ inS l q := (mrg_in (srt_od full_lt) q).trans ((mem_in (fun s => srt_mem) q).trans full_in)
theorem cnl_of {l m : List Sq} (hc : Cn m) (h : ∀ q, inS m q ↔ inS l q) : m = cnl l := cn_uniq m (cnl l) hc (cnl_cn l) (fun q => (h q).trans (cnl_in l q).symm)
theorem cnl_sorted {l m : List Sq} (ho : Od m) (hm : ∀ s, s ∈ m ↔ s ∈ full l) : mrg m = cnl l :=
 cnl_of (mrg_cn ho) (fun q => (mrg_in ho q).trans ((mem_in hm q).trans full_in))
end Go.Proofs.YtekommcfpjonmaaGreat.Sx
namespace Go.Proofs.YtekommcfpjonmaaGreat.Os
open Go.ChangeShapes Go.WideShapes Go.ChangeAt Go.RowKit Go.Joins Go.Deep Go.Proofs.YtekommcfpjonmaaGreatW.PrintWords Go.Proofs.YtekommcfpjonmaaGreatW.PrintLast Go.Proofs.YtekommcfpjonmaaGreatW.PrintMore Go.Proofs.YtekommcfpjonmaaGreat.E
set_option linter.unusedVariables false
theorem laidOut : laidOutB Tryz.prog = true := by kernel_rfl
theorem own : ownKnob Tryz.prog.godebug = none := by kernel_rfl
section
variable {H : Type} {enc : TypeId × Value → H} {w : World} {base : Nat} {spare : Nat → Bool} {held : Bool}
theorem one_int {n : Nat} {v : Value} {y : DataW H × List MemPlace} (h : DataW.trod enc Tryz.prog w base spare held n 3 [v] = some y) : ∃ z, v = .int .i64 z ∧ (Lit.int .i64 z).wf = true := by
 obtain ⟨z, hz, _, hw⟩ := DataW.trod_int Tryz.underlying3 h
 simp only [List.cons.injEq, and_true] at hz
 exact ⟨z, hz, hw⟩
theorem four {α : Type} {l : List α} (h : l.length = 4) : ∃ a b c d, l = [a, b, c, d] := by
 match l, h with
 | [a, b, c, d], _ => exact ⟨a, b, c, d, rfl⟩
theorem len2 {α : Type} {l : List α} (h : l.length = 2) : ∃ a b, l = [a, b] := by
 match l, h with
 | [a, b], _ => exact ⟨a, b, rfl⟩
set_option maxRecDepth 100000 in
theorem one_time {n : Nat} {cs : List Value} {y : DataW H × List MemPlace} (h : DataW.trod enc Tryz.prog w base spare held n 24 cs = some y) : ∃ a b, cs = [.int .i64 a, .int .i64 b] ∧ (Lit.int .i64 a).wf = true ∧ (Lit.int .i64 b).wf = true := by
 obtain ⟨xs, k, _, hx, hl, hlen, hg⟩ := DataW.trod_struct Tryz.underlying24 h
 obtain ⟨a, b, rfl⟩ := len2 (hl.trans (by kernel_rfl : Tryz.prog.cellsOf 24 = 2))
 obtain ⟨y0, y1, rfl⟩ := len2 hlen
 have h0 := hg 0 _ rfl
 have h1 := hg 1 _ rfl
 simp only [List.getElem?_cons_zero, List.getElem?_cons_succ] at h0 h1
 obtain ⟨z0, rfl, w0⟩ := one_int h0
 obtain ⟨z1, rfl, w1⟩ := one_int h1
 exact ⟨z0, z1, rfl, w0, w1⟩
set_option maxRecDepth 100000 in
theorem one_span {n : Nat} {cs : List Value} {y : DataW H × List MemPlace} (h : DataW.trod enc Tryz.prog w base spare held n 53 cs = some y) : ∃ x : S53, cs = [.int .i64 x.f0.f0, .int .i64 x.f0.f1, .int .i64 x.f1.f0, .int .i64 x.f1.f1] := by
 obtain ⟨xs, k, _, hx, hl, hlen, hg⟩ := DataW.trod_struct Tryz.underlying53 h
 obtain ⟨a, b, c, d, rfl⟩ := four (hl.trans (by kernel_rfl : Tryz.prog.cellsOf 53 = 4))
 obtain ⟨y0, y1, rfl⟩ := len2 hlen
 have h0 := hg 0 _ rfl
 have h1 := hg 1 _ rfl
 simp only [List.getElem?_cons_zero, List.getElem?_cons_succ] at h0 h1
 obtain ⟨n0, m0, e0, _, _⟩ := one_time h0
 obtain ⟨n1, m1, e1, _, _⟩ := one_time h1
 have e0' : [a, b] = [.int .i64 n0, .int .i64 m0] := e0
 have e1' : [c, d] = [.int .i64 n1, .int .i64 m1] := e1
 simp only [List.cons.injEq, and_true] at e0' e1'
 obtain ⟨rfl, rfl⟩ := e0'
 obtain ⟨rfl, rfl⟩ := e1'
 exact ⟨⟨⟨n0, m0⟩, ⟨n1, m1⟩⟩, rfl⟩
structure Sps (w : World) (a : Option Addr) (len cap : Nat) (l : List S53) : Prop where
 n : l.length = len
 c : Kd.C k53 w a l.length l
 h : l.length ≤ cap
theorem list_of {α : Type} (P : Nat → α → Prop) (n : Nat) (h : ∀ i, i < n → ∃ x, P i x) : ∃ l : List α, l.length = n ∧ ∀ i x, l[i]? = some x → P i x := by
 induction n with
 | zero => exact ⟨[], rfl, by simp⟩
 | succ n ih =>
  obtain ⟨l, hl, hp⟩ := ih (fun i hi => h i (by omega))
  obtain ⟨x, hx⟩ := h n (by omega)
  refine ⟨l ++ [x], by simp [hl], fun i y hy => ?_⟩
  by_cases hi : i < l.length
  ·rw [List.getElem?_append_left hi] at hy
   exact hp i y hy
  ·have hi2 : i = l.length := by
    have := (List.getElem?_eq_some_iff.1 hy).1
    simp only [List.length_append, List.length_cons, List.length_nil] at this
    omega
   subst hi2
   simp only [Nat.le_refl, List.getElem?_append_right, Nat.sub_self, List.getElem?_cons_zero, Option.some.injEq] at hy
   subst hy
   rw [hl]
   exact hx
theorem slice_spans {n : Nat} {a : Option Addr} {len cap : Nat} {y : DataW H × List MemPlace} (h : DataW.trod enc Tryz.prog w base spare held n 22 [.slice a len cap] = some y) : ∃ l, Sps w a len cap l := by
 rcases open_slice Tryz.underlying22 h with ⟨hcs, _⟩ | ⟨x, l, c, m, k, D, Pl, hcs, _, hl, hm, hmm, _, hi⟩
 ·simp only [List.cons.injEq, and_true, Value.slice.injEq] at hcs
  obtain ⟨rfl, rfl, rfl⟩ := hcs
  exact ⟨[], rfl, Kd.C_nil _ _, Nat.le_refl _⟩
 ·simp only [List.cons.injEq, and_true, Value.slice.injEq] at hcs
  obtain ⟨rfl, rfl, rfl⟩ := hcs
  have hC : Tryz.prog.cellsOf 53 = 4 := by kernel_rfl
  have hlm : len ≤ m := by rw [hmm]; split <;> omega
  obtain ⟨L, hL, hp⟩ := list_of (fun i (z : S53) => (∀ j u, ([.int .i64 z.f0.f0, .int .i64 z.f0.f1, .int .i64 z.f1.f0, .int .i64 z.f1.f1] : List Value)[j]? = some u → w.cell? (x.add (i * 4 + j)) = some u)) len (fun i hlt => by
   obtain ⟨cs', hc, ht⟩ := hi i (by omega)
   obtain ⟨z, rfl⟩ := one_span ht
   rw [hC] at hc
   obtain ⟨_, _, hat⟩ := World.cells?_some hc
   refine ⟨z, fun j u hu => ?_⟩
   have hj : j < 4 := (List.getElem?_eq_some_iff.1 hu).1
   have := hat j hj
   rw [← Go.Deep.add_add, this, hu])
  exact ⟨L, hL, ⟨rfl, by have := hm; unfold maxLen at this; omega, fun _ => ⟨x, rfl, fun j p hj => ⟨_, rfl, k53_mk w p, (hp j p hj)⟩⟩⟩, by omega⟩
set_option maxRecDepth 100000 in
theorem open_spans {r : Reach} {b0 : Nat} {v : Value} {d : DataW H} {p : List MemPlace} (hv : Value.okWide Tryz.prog w r b0 22 v) (h : DataW.Trod enc Tryz.prog w base spare held 22 v d p) :
  ∃ a len cap l, v = .slice a len cap ∧ Sps w a len cap l := by
 obtain ⟨a, len, cap, rfl⟩ := okWide_slice Tryz.underlying22 hv
 obtain ⟨fuel, hf⟩ := h
 obtain ⟨l, hl⟩ := slice_spans (a := a) (len := len) (cap := cap) hf
 exact ⟨a, len, cap, l, rfl, hl⟩
end
end Go.Proofs.YtekommcfpjonmaaGreat.Os
namespace Go.Proofs.YtekommcfpjonmaaGreat.Pa
open Go.RowKit Go.Proofs.YtekommcfpjonmaaGreat.P Go.Proofs.YtekommcfpjonmaaGreat.E Go.Proofs.YtekommcfpjonmaaGreatW.PrintWords Go.Proofs.YtekommcfpjonmaaGreatW.PrintLast Go.Proofs.YtekommcfpjonmaaGreat.Ml Go.Proofs.YtekommcfpjonmaaGreat.Mn
set_option linter.unusedVariables false
set_option linter.unusedSimpArgs false
abbrev Bd : Int := 1000000000
abbrev Nn (l : List Int) : Prop := Cn 1000000000 l
end Go.Proofs.YtekommcfpjonmaaGreat.Pa
namespace Go.Proofs.YtekommcfpjonmaaGreat.Pb
open Go.RowKit Go.Proofs.YtekommcfpjonmaaGreat.P Go.Proofs.YtekommcfpjonmaaGreat.E Go.Proofs.YtekommcfpjonmaaGreatW.PrintWords Go.Proofs.YtekommcfpjonmaaGreatW.PrintLast Go.Proofs.YtekommcfpjonmaaGreat.Ml Go.Proofs.YtekommcfpjonmaaGreat.Mn Go.Proofs.YtekommcfpjonmaaGreat.Pa
set_option linter.unusedVariables false
set_option linter.unusedSimpArgs false
theorem w1 {i : Nat} (h : i ≤ 10000000) : wrap64 ((i : Int) + 1) = ((i + 1 : Nat) : Int) := by rw [w64 (by omega) (by omega)]; omega
theorem drop_le (l : List Int) (hd : Dg 1000000000 l) (i : Nat) : dv 1000000000 (l.drop i) ≤ dv 1000000000 l ∧ 0 ≤ dv 1000000000 (l.drop i) := by
 have h0 := dv_nonneg (by decide) (hd.drop i)
 refine ⟨?_, h0⟩
 by_cases hi : i ≤ l.length
 ·have h1 := dv_split 1000000000 l i hi
  have h2 := dv_nonneg (by decide) (hd.take i)
  have h3 : 0 < pw 1000000000 i := pow_pos (by decide) i
  have h4 : 1 * dv 1000000000 (l.drop i) ≤ pw 1000000000 i * dv 1000000000 (l.drop i) := Int.mul_le_mul_of_nonneg_right (by omega) h0
  omega
 ·rw [List.drop_of_length_le (by omega)]
  exact dv_nonneg (by decide) hd
end Go.Proofs.YtekommcfpjonmaaGreat.Pb
namespace Go.Proofs.YtekommcfpjonmaaGreat.Qr
open Go.RowKit Go Go.Proofs.YtekommcfpjonmaaGreatW.PrintWords Go.Proofs.YtekommcfpjonmaaGreatW.PrintLast Go.Proofs.YtekommcfpjonmaaGreatW.PrintMore Go.Proofs.YtekommcfpjonmaaGreat.Ml Go.Proofs.YtekommcfpjonmaaGreat.Mn Go.Proofs.YtekommcfpjonmaaGreat.Nd Go.Proofs.YtekommcfpjonmaaGreat.Pa Go.Proofs.YtekommcfpjonmaaGreat.Pb Go.Proofs.YtekommcfpjonmaaGreat.Rf Go.Proofs.YtekommcfpjonmaaGreat.E
set_option linter.unusedVariables false
set_option linter.unusedSimpArgs false
structure RV (b : Bool) (x y : List Int) (q : Rat) (n : Nat) : Prop where
 nx : Nn x
 ny : Nn y
 pos : 0 < dv 1000000000 y
 eq : q = qq (sg b (dv 1000000000 x)) (dv 1000000000 y)
 lx : x.length ≤ n
 ly : y.length ≤ n
theorem RV.mono {b : Bool} {x y : List Int} {q : Rat} {n m : Nat} (h : RV b x y q n) (hm : n ≤ m) : RV b x y q m := ⟨h.nx, h.ny, h.pos, h.eq, Nat.le_trans h.lx hm, Nat.le_trans h.ly hm⟩
theorem RV.x0 {b : Bool} {x y : List Int} {q : Rat} {n : Nat} (h : RV b x y q n) : 0 ≤ dv 1000000000 x := dv_nonneg (by decide) h.nx.dg
theorem RV.neg {b : Bool} {x y : List Int} {q : Rat} {n : Nat} (h : RV b x y q n) : RV (!b) x y (-q) n := by
 refine ⟨h.nx, h.ny, h.pos, ?_, h.lx, h.ly⟩
 rw [h.eq]
 unfold qq
 rw [Rat.neg_divInt]
 congr 1
 cases b <;> simp [sg]
end Go.Proofs.YtekommcfpjonmaaGreat.Qr
namespace Go.Proofs.YtekommcfpjonmaaGreat.Pc
open Go.RowKit Go.Proofs.YtekommcfpjonmaaGreat.P Go.Proofs.YtekommcfpjonmaaGreat.E Go.Proofs.YtekommcfpjonmaaGreatW.PrintWords Go.Proofs.YtekommcfpjonmaaGreatW.PrintLast Go.Proofs.YtekommcfpjonmaaGreat.Ml Go.Proofs.YtekommcfpjonmaaGreat.Mn Go.Proofs.YtekommcfpjonmaaGreat.Pa Go.Proofs.YtekommcfpjonmaaGreat.Pb
set_option linter.unusedVariables false
set_option linter.unusedSimpArgs false
end Go.Proofs.YtekommcfpjonmaaGreat.Pc
namespace Go.Proofs.YtekommcfpjonmaaGreat.Qt
open Go.RowKit Go Go.Proofs.YtekommcfpjonmaaGreatW.PrintWords Go.Proofs.YtekommcfpjonmaaGreatW.PrintLast Go.Proofs.YtekommcfpjonmaaGreatW.PrintMore Go.Proofs.YtekommcfpjonmaaGreat.Ml Go.Proofs.YtekommcfpjonmaaGreat.Mn Go.Proofs.YtekommcfpjonmaaGreat.Nd Go.Proofs.YtekommcfpjonmaaGreat.Pa Go.Proofs.YtekommcfpjonmaaGreat.Pb Go.Proofs.YtekommcfpjonmaaGreat.Pc Go.Proofs.YtekommcfpjonmaaGreat.Ea Go.Proofs.YtekommcfpjonmaaGreat.Rf Go.Proofs.YtekommcfpjonmaaGreat.E Go.Proofs.YtekommcfpjonmaaGreat.Qr
set_option linter.unusedVariables false
set_option linter.unusedSimpArgs false
end Go.Proofs.YtekommcfpjonmaaGreat.Qt
namespace Go.Proofs.YtekommcfpjonmaaGreat.Qu
open Go.RowKit Go Go.Proofs.YtekommcfpjonmaaGreatW.PrintWords Go.Proofs.YtekommcfpjonmaaGreatW.PrintLast Go.Proofs.YtekommcfpjonmaaGreatW.PrintMore Go.Proofs.YtekommcfpjonmaaGreat.Ml Go.Proofs.YtekommcfpjonmaaGreat.Mn Go.Proofs.YtekommcfpjonmaaGreat.Nd Go.Proofs.YtekommcfpjonmaaGreat.Pa Go.Proofs.YtekommcfpjonmaaGreat.Pb Go.Proofs.YtekommcfpjonmaaGreat.Pc Go.Proofs.YtekommcfpjonmaaGreat.Rf Go.Proofs.YtekommcfpjonmaaGreat.E Go.Proofs.YtekommcfpjonmaaGreat.Qr Go.Proofs.YtekommcfpjonmaaGreat.Qt
set_option linter.unusedVariables false
set_option linter.unusedSimpArgs false
end Go.Proofs.YtekommcfpjonmaaGreat.Qu
namespace Go.Proofs.YtekommcfpjonmaaGreat.Sy
open Go.RowKit Go Go.Proofs.YtekommcfpjonmaaGreatW.PrintWords Go.Proofs.YtekommcfpjonmaaGreatW.PrintLast Go.Proofs.YtekommcfpjonmaaGreatW.PrintMore Go.Proofs.YtekommcfpjonmaaGreat.Mn Go.Proofs.YtekommcfpjonmaaGreat.Rf Go.Proofs.YtekommcfpjonmaaGreat.E Go.Proofs.YtekommcfpjonmaaGreat.Sg Go.Proofs.YtekommcfpjonmaaGreat.Sx
set_option linter.unusedVariables false
set_option linter.unusedSimpArgs false
def clnL (l : List Sn) : List Sn := (cnl (l.map qS)).map lS
def allV (l : List Sn) : Bool := l.all vS
def tch (a b : Sn) : Sn × Bool := if qT a.f1 < qT b.f0 then (a, false) else (if qT a.f1 < qT b.f1 then ⟨a.f0, b.f1⟩ else a, true)
def jnS : Sn → List Sn → List Sn
 | a, [] => [a]
 | a, x :: r => if (tch a x).2 = true then jnS (tch a x).1 r else a :: jnS x r
def mrgS : List Sn → List Sn
 | [] => []
 | a :: r => jnS a r
theorem jnS_lS : ∀ (r : List Sq) (a : Sq), jnS (lS a) (r.map lS) = (jn a r).map lS
 | [], a => rfl
 | x :: r, a => by
  rw [List.map_cons, jnS, jn]
  unfold tch
  have e1 : qT (lS a).f1 = a.2 := qT_lT _
  have e2 : qT (lS x).f0 = x.1 := qT_lT _
  have e3 : qT (lS x).f1 = x.2 := qT_lT _
  rw [e1, e2, e3]
  by_cases h : a.2 < x.1
  ·rw [if_pos h, if_pos h, if_neg (show ¬ (false = true) by decide), jnS_lS r x]
   rfl
  ·rw [if_neg h, if_neg h, if_pos rfl]
   have e : (if a.2 < x.2 then (⟨(lS a).f0, (lS x).f1⟩ : Sn) else lS a) = lS (a.1, mxR a.2 x.2) := by
    unfold mxR lS
    split <;> rfl
   show jnS (if a.2 < x.2 then (⟨(lS a).f0, (lS x).f1⟩ : Sn) else lS a) (r.map lS) = _
   rw [e, jnS_lS r _]
theorem mrgS_lS (l : List Sq) : mrgS (l.map lS) = (mrg l).map lS := by
 cases l with
 | nil => rfl
 | cons a r => exact jnS_lS r a
def lowF (l : List Sn) : List Sn := (full (l.map qS)).map lS
theorem lowF_cons (s : Sn) (l : List Sn) : lowF (s :: l) = if qT s.f0 < qT s.f1 then lS (qS s) :: lowF l else lowF l := by
 unfold lowF full
 rw [List.map_cons, List.filter_cons]
 by_cases h : qT s.f0 < qT s.f1
 ·rw [if_pos (decide_eq_true (show (qS s).1 < (qS s).2 from h)), if_pos h]
  rfl
 ·rw [if_neg (show ¬ decide ((qS s).1 < (qS s).2) = true from fun hc => h (of_decide_eq_true hc)), if_neg h]
theorem mrgS_sorted {l m : List Sn} (hm : m.Perm (lowF l)) (ho : ∀ i j : Nat, i < j → ∀ x y, m[i]? = some x → m[j]? = some y → ¬ qT y.f0 < qT x.f0) : mrgS m = clnL l := by
 have e : m = (m.map qS).map lS := by
  have : ∀ s ∈ m, lS (qS s) = s := fun s hs => by
   obtain ⟨q, hq, rfl⟩ := List.mem_map.1 (show s ∈ (full (l.map qS)).map lS from hm.mem_iff.1 hs)
   rw [qS_lS]
  rw [List.map_map]
  conv => lhs; rw [← List.map_id m]
  exact List.map_congr_left (fun s hs => (this s hs).symm)
 have hmem : ∀ s, s ∈ m.map qS ↔ s ∈ full (l.map qS) := fun s => by
  constructor
  ·intro h
   obtain ⟨x, hx, rfl⟩ := List.mem_map.1 h
   obtain ⟨q, hq, rfl⟩ := List.mem_map.1 (show x ∈ (full (l.map qS)).map lS from hm.mem_iff.1 hx)
   rw [qS_lS]
   exact hq
  ·intro h
   refine List.mem_map.2 ⟨lS s, hm.mem_iff.2 (List.mem_map.2 ⟨s, h, rfl⟩), qS_lS s⟩
 have hod : ∀ (m : List Sn), (∀ s ∈ m, qT s.f0 < qT s.f1) → (∀ i j : Nat, i < j → ∀ x y, m[i]? = some x → m[j]? = some y → ¬ qT y.f0 < qT x.f0) → Od (m.map qS) := by
  intro m
  induction m with
  | nil => intro _ _; trivial
  | cons a t ih =>
   intro h1 h2
   refine ⟨h1 a (by simp), fun x hx => ?_, ih (fun s hs => h1 s (by simp [hs])) (fun i j hij x y hx hy => h2 (i + 1) (j + 1) (by omega) x y (by simpa using hx) (by simpa using hy))⟩
   obtain ⟨y, hy, rfl⟩ := List.mem_map.1 hx
   obtain ⟨j, hj, he⟩ := List.getElem_of_mem hy
   exact Rat.not_lt.1 (h2 0 (j + 1) (by omega) a y rfl (by simp [List.getElem?_eq_getElem hj, he]))
 have hf : ∀ s ∈ m, qT s.f0 < qT s.f1 := fun s hs => by
  have := (hmem (qS s)).1 (List.mem_map.2 ⟨s, hs, rfl⟩)
  exact full_lt _ this
 rw [e, mrgS_lS, cnl_sorted (hod m hf ho) hmem]
 rfl
end Go.Proofs.YtekommcfpjonmaaGreat.Sy
namespace Go.Proofs.YtekommcfpjonmaaGreat.Eb
open Go.RowKit Go Go.Proofs.YtekommcfpjonmaaGreatW.PrintWords Go.Proofs.YtekommcfpjonmaaGreatW.PrintLast Go.Proofs.YtekommcfpjonmaaGreatW.PrintMore Go.Proofs.YtekommcfpjonmaaGreat.Ml Go.Proofs.YtekommcfpjonmaaGreat.Mn Go.Proofs.YtekommcfpjonmaaGreat.Nd Go.Proofs.YtekommcfpjonmaaGreat.Z Go.Proofs.YtekommcfpjonmaaGreat.P Go.Proofs.YtekommcfpjonmaaGreat.Nc Go.Proofs.YtekommcfpjonmaaGreat.Nb Go.Proofs.YtekommcfpjonmaaGreat.Qa Go.Proofs.YtekommcfpjonmaaGreat.Qb Go.Proofs.YtekommcfpjonmaaGreat.Ea Go.Proofs.YtekommcfpjonmaaGreat.E
set_option linter.unusedVariables false
set_option linter.unusedSimpArgs false
set_option maxHeartbeats 2000000 in
theorem product_n (a b : Int) (w : World) (a0 : -9223372036854775808 ≤ a) (a1 : a ≤ 9223372036854775807) (b0 : -9223372036854775808 ≤ b) (b1 : b ≤ 9223372036854775807) :
  Calls Tryz.prog 81 #[.int .i64 a, .int .i64 b] w (NewP w (a * b) 4) := by
 have hA := Aside0.mk (And.intro (And.intro a0 a1) (And.intro b0 b1))
 clear a0 a1 b0 b1
 go_enter Tryz.func81, Tryz.ntmps81
 go_wp2_with fail
 have hr := room_new w
 have hb1 : Below w.heap.size w (w.alloc (.cells #[.bool false, .slice none 0 0] 119)) := below_alloc (Below.refl _ w) _
 have s1 := hb1.size
 refine (newInt_n a _ hA.out.1.1 hA.out.1.2).mono ?_
 rintro e w2 ⟨g1, hg1, rfl, hb2, hN1⟩
 have H1 := Aside0.mk (And.intro hr (And.intro hb1 (And.intro hb2 hN1)))
 clear hr hb1 hb2 hN1
 go_wp2_with fail
 refine (newInt_n b _ hA.out.2.1 hA.out.2.2).mono ?_
 rintro e w3 ⟨g2, hg2, rfl, hb3, hN2⟩
 have H2 := Aside0.mk (And.intro hb3 hN2)
 clear hb3 hN2
 go_wp2_with fail
 have hlt := H1.out.1.lt
 refine (mul_n w.heap.size 0 g1 0 g2 0 a b 2 2 w3 ((H1.out.1.below H1.out.2.2.1).below H2.out.1) (H1.out.2.2.2.below H2.out.1) H2.out.2 (by decide)).mono ?_
 rintro e w4 ⟨rfl, hw, hN⟩
 have H3 := Aside0.mk (And.intro hw hN)
 clear hw hN
 go_wp2_with fail
 go_ret
 have s2 := H1.out.2.1.size
 have s3 := H1.out.2.2.1.size
 have s4 := H2.out.1.size
 exact ⟨_, Nat.le_refl _, rfl, H1.out.2.1.trans ((H1.out.2.2.1.mono s2).trans ((H2.out.1.mono (by omega)).trans (H3.out.1.below (Nat.le_refl _) (by omega)))), H3.out.2⟩
theorem _root_.Go.Proofs.YtekommcfpjonmaaGreat.Nd.Wrote.room' {w w' : World} {g o g2 o2 : Nat} (h : Wrote w w' g o) (_ : Room w g o) (hr : Room w g2 o2) (hne : g2 ≠ g) : Room w' g2 o2 := Wrote.room h hr hne
def rnd (h n d : Int) : Int := if h = 1 then (n + d - 1) / d else if h = 2 then (n * 2 + d) / (d * 2) else n / d
set_option maxHeartbeats 4000000 in
theorem rounded_n (gn gd nn nd : Nat) (n d h : Int) (w : World) (hn : IsN w gn 0 n nn) (hd : IsN w gd 0 d nd) (hp : 0 < d) (hh : h = 0 ∨ h = 1 ∨ h = 2) (hl : nn + nd ≤ 100) :
  Calls Tryz.prog 80 #[.pointer (some ⟨gn, 0, none⟩), .pointer (some ⟨gd, 0, none⟩), .int .i64 h] w (NewP w (rnd h n d) (nn + nd + 10)) := by
 have hb1 : Below w.heap.size w (w.alloc (.cells #[.bool false, .slice none 0 0] 119)) := below_alloc (Below.refl _ w) _
 have s1 := hb1.size
 have hr := room_new w
 rcases hh with rfl | rfl | rfl
 ·go_enter Tryz.func80, Tryz.ntmps80
  go_wp2_with fail
  refine (divI_n w.heap.size 0 gn 0 gd 0 n d nn nd w.heap.size _ hr (hn.below hb1) (hd.below hb1) hp (by omega) (Nat.le_refl _)).mono ?_
  rintro e w2 ⟨rfl, hB, hN⟩
  have H := Aside0.mk (And.intro hB hN)
  clear hB hN
  go_wp2_with fail
  go_ret
  exact ⟨_, Nat.le_refl _, rfl, hb1.trans H.out.1, H.out.2.mono (by omega)⟩
 ·go_enter Tryz.func80, Tryz.ntmps80
  go_wp2_with fail
  refine (add_n w.heap.size 0 gn 0 gd 0 n d nn nd _ hr (hn.below hb1) (hd.below hb1).w (by omega)).mono ?_
  rintro e w2 ⟨rfl, hw, hN⟩
  have hx := hn.lt
  have hy := hd.lt
  have H := Aside0.mk (And.intro hw (And.intro hN (hw.isN hr (hd.below hb1) (.inl (by omega)))))
  have HB2 := Aside0.mk (hb1.trans (hw.below (Nat.le_refl _) s1))
  clear hw hN
  go_wp2_with fail
  refine (newInt_n 1 _ (by decide) (by decide)).mono ?_
  rintro e w3 ⟨g3, hg3, rfl, hb3, hN3⟩
  have H3 := Aside0.mk (And.intro hb3 hN3)
  have hm : max nn nd ≤ nn + nd := by omega
  clear hb3 hN3
  go_wp2_with fail
  have hx2 := H.out.2.1.below H3.out.1
  refine (subI_n w.heap.size 0 w.heap.size 0 g3 0 (n + d) 1 _ 2 w3 hx2.room hx2 H3.out.2 (by omega)).mono ?_
  rintro e w4 ⟨rfl, hw4, hN4⟩
  have s2 := HB2.out.size
  have s3 := H3.out.1.size
  have hlt := H.out.2.2.lt
  have hyd : IsN w4 gd 0 d nd := hw4.isN hx2.room (H.out.2.2.below H3.out.1) (.inl (by omega))
  have HB4 := Aside0.mk (show Below w.heap.size w w4 from (HB2.out.trans (H3.out.1.mono s2)).trans (hw4.below (Nat.le_refl _) (by omega)))
  have H4 := Aside0.mk (And.intro hN4 hyd)
  clear hw4 hN4 hyd
  go_wp2_with fail
  have hb5 : Below w4.heap.size w4 (w4.alloc (.cells #[.bool false, .slice none 0 0] 119)) := below_alloc (Below.refl _ w4) _
  refine (divI_n w4.heap.size 0 w.heap.size 0 gd 0 (n + d - 1) d _ nd w4.heap.size _ (room_new w4) (H4.out.1.below hb5) (H4.out.2.below hb5) hp (by omega) (Nat.le_refl _)).mono ?_
  rintro e w6 ⟨rfl, hB6, hN6⟩
  have H6 := Aside0.mk (And.intro hB6 hN6)
  clear hB6 hN6
  go_wp2_with fail
  go_ret
  have s4 := HB4.out.size
  exact ⟨_, s4, rfl, HB4.out.trans ((hb5.trans H6.out.1).mono s4), H6.out.2.mono (by omega)⟩
 ·go_enter Tryz.func80, Tryz.ntmps80
  go_wp2_with fail
  generalize hw1 : w.alloc (.cells #[.bool false, .slice none 0 0] 119) = w1 at *
  have sz1 : w1.heap.size = w.heap.size + 1 := by rw [← hw1]; simp
  have hb2 : Below w1.heap.size w1 (w1.alloc (.cells #[.bool false, .slice none 0 0] 119)) := below_alloc (Below.refl _ w1) _
  have hr2 := room_new w1
  rw [sz1] at hr2
  refine (lsh_n (w.heap.size + 1) 0 gn 0 n nn _ hr2 ((hn.below hb1).below hb2) (by omega)).mono ?_
  rintro e w3 ⟨rfl, hw3, hN3⟩
  have hx := hn.lt
  have hy := hd.lt
  have s2 := hb2.size
  have hA := hw3.room' hr2 (hr.below hb2) (by omega)
  have hD := hw3.isN hr2 ((hd.below hb1).below hb2) (.inl (by omega))
  have HB3 := Aside0.mk ((hb1.trans (hb2.mono s1)).trans (hw3.below (by omega) (by omega)))
  have H3 := Aside0.mk (And.intro hN3 (And.intro hA hD))
  clear hw3 hN3 hA hD
  go_wp2_with fail
  refine (add_n w.heap.size 0 (w.heap.size + 1) 0 gd 0 (n * 2) d (nn + 1) nd w3 H3.out.2.1 H3.out.1 H3.out.2.2.w (by omega)).mono ?_
  rintro e w4 ⟨rfl, hw4, hN4⟩
  have hD := hw4.isN H3.out.2.1 H3.out.2.2 (.inl (by omega))
  have s3 := HB3.out.size
  have HB4 := Aside0.mk (HB3.out.trans (hw4.below (Nat.le_refl _) s3))
  have H4 := Aside0.mk (And.intro hN4 hD)
  clear hw4 hN4 hD
  go_wp2_with fail
  have hb5 : Below w4.heap.size w4 (w4.alloc (.cells #[.bool false, .slice none 0 0] 119)) := below_alloc (Below.refl _ w4) _
  have s4 := HB4.out.size
  have s5 := hb5.size
  have hy4 := H4.out.2.lt
  have hx4 := H4.out.1.lt
  refine (lsh_n w4.heap.size 0 gd 0 d nd _ (room_new w4) (H4.out.2.below hb5) (by omega)).mono ?_
  rintro e w6 ⟨rfl, hw6, hN6⟩
  have hS := hw6.isN (room_new w4) (H4.out.1.below hb5) (.inl (by omega))
  have HB6 := Aside0.mk (HB4.out.trans ((hb5.mono s4).trans (hw6.below s4 (by omega))))
  have H6 := Aside0.mk (And.intro hN6 hS)
  clear hw6 hN6 hS
  go_wp2_with fail
  have hb7 : Below w6.heap.size w6 (w6.alloc (.cells #[.bool false, .slice none 0 0] 119)) := below_alloc (Below.refl _ w6) _
  have hm : max (nn + 1) nd ≤ nn + nd + 1 := by omega
  refine (divI_n w6.heap.size 0 w.heap.size 0 w4.heap.size 0 (n * 2 + d) (d * 2) _ (nd + 1) w6.heap.size _ (room_new w6) (H6.out.2.below hb7) (H6.out.1.below hb7) (by omega) (by omega) (Nat.le_refl _)).mono ?_
  rintro e w8 ⟨rfl, hB8, hN8⟩
  have H8 := Aside0.mk (And.intro hB8 hN8)
  clear hB8 hN8
  go_wp2_with fail
  go_ret
  have s6 := HB6.out.size
  exact ⟨_, s6, rfl, HB6.out.trans ((hb7.trans H8.out.1).mono s6), H8.out.2.mono (by omega)⟩
theorem blk_two {w : World} {g : Nat} {t : TypeId} {a b x y : Value} (h : w.heap[g]? = some (.cells #[a, b] t (0, 0))) : ((w.setCell ⟨g, 0, none⟩ x).setCell ⟨g, 1, none⟩ y).heap[g]? = some (.cells #[x, y] t (0, 0)) :=
 blk_put (cs := #[x, b]) (blk_put (cs := #[a, b]) h 0 x rfl) 1 y rfl
def two (a b : Value) : Value := .tuple #[a, b]
def vFrom (t s : Int) : Value := if isTicks t && isScale s then two (tm (lowN t s) (lowD t s)) (er 0) else two (tm 0 0) (er 1)
set_option maxHeartbeats 4000000 in
set_option maxRecDepth 100000 in
theorem From_n (t s : Int) (w : World) : Calls Tryz.prog 85 #[.int .i64 t, .int .i64 s] w (ValP w (vFrom t s)) := by
 have hu := Tryz.underlying24
 unfold vFrom two tm er
 have hb1 : ∀ c, Below w.heap.size w (w.alloc c) := fun c => below_alloc (Below.refl _ w) _
 cases ht : isTicks t with
 | false =>
  go_enter Tryz.func85, Tryz.ntmps85
  go_wp2_with fail
  refine (isTicks_n t _).mono ?_
  rintro e w2 ⟨rfl, rfl⟩
  rw [ht]
  go_wp2_with fail
  refine bodyPost_ret (results_ct rfl _ _ w.heap.size 24 #[.int .i64 0, .int .i64 0] (0, 0) _ rfl (blk_new w _) Tryz.underlying24 rfl (by kernel_rfl)) rfl ?_
  exact ⟨rfl, hb1 _⟩
 | true =>
  cases hs : isScale s with
  | false =>
   go_enter Tryz.func85, Tryz.ntmps85
   go_wp2_with fail
   refine (isTicks_n t _).mono ?_
   rintro e w2 ⟨rfl, rfl⟩
   rw [ht]
   go_wp2_with fail
   refine (isScale_n s _).mono ?_
   rintro e w2 ⟨rfl, rfl⟩
   rw [hs]
   go_wp2_with fail
   refine bodyPost_ret (results_ct rfl _ _ w.heap.size 24 #[.int .i64 0, .int .i64 0] (0, 0) _ rfl (blk_new w _) Tryz.underlying24 rfl (by kernel_rfl)) rfl ?_
   exact ⟨rfl, hb1 _⟩
  | true =>
   have ht2 : -1099511627776 ≤ t ∧ t ≤ 1099511627776 := by unfold isTicks at ht; simpa using ht
   have hs2 : 1 ≤ s ∧ s ≤ 1000000 := by unfold isScale at hs; simpa using hs
   obtain ⟨k, hk⟩ := lowest_f t s (by omega) (by omega) (by omega) (by omega)
   have HK := Aside0.mk hk
   clear hk ht2 hs2
   go_enter Tryz.func85, Tryz.ntmps85
   go_wp2_with fail
   refine (isTicks_n t _).mono ?_
   rintro e w2 ⟨rfl, rfl⟩
   rw [ht]
   go_wp2_with fail
   refine (isScale_n s _).mono ?_
   rintro e w2 ⟨rfl, rfl⟩
   rw [hs]
   go_wp2_with fail
   refine (exact_lowest.calls k t s _ _ _ HK.out).mono ?_
   rintro e w3 ⟨rfl, hb3⟩
   have hblk := blk_below (blk_new w _) hb3
   have hc0 : w3.cell? ⟨w.heap.size, 0, none⟩ = some (.int .i64 0) := (blk_cell hblk 0).trans rfl
   have hf0 := blk_frozen hblk 0
   have hc1 : w3.cell? ⟨w.heap.size, 1, none⟩ = some (.int .i64 0) := (blk_cell hblk 1).trans rfl
   have hf1 := blk_frozen hblk 1
   have HB3 := Aside0.mk ((hb1 _).trans (hb3.mono (hb1 _).size))
   have HBL := Aside0.mk hblk
   clear hblk hb3
   go_wp2_with fail
   refine bodyPost_ret (results_ct rfl _ _ w.heap.size 24 #[.int .i64 (lowN t s), .int .i64 (lowD t s)] (0, 0) _ rfl (blk_two HBL.out) Tryz.underlying24 rfl (by kernel_rfl)) rfl ?_
   exact ⟨rfl, (HB3.out.setCell (Nat.le_refl _) _).setCell (Nat.le_refl _) _⟩
def big (q : Int) : Bool := decide (1099511627776 < (q.natAbs : Int))
def vTicks (n d s h : Int) : Value := if valid n d then (if isScale s && isHow h then (if big (rnd h (n * s) d) then two (.int .i64 0) (er 2) else two (.int .i64 (rnd h (n * s) d)) (er 0)) else two (.int .i64 0) (er 1)) else two (.int .i64 0) (er 4)
set_option maxHeartbeats 8000000 in
set_option maxRecDepth 100000 in
theorem Ticks_n (n d s h : Int) (w : World) : Calls Tryz.prog 35 #[tm n d, .int .i64 s, .int .i64 h] w (ValP w (vTicks n d s h)) := by
 have hu := Tryz.underlying24
 have hb1 : Below w.heap.size w (w.alloc (.cells #[.int .i64 n, .int .i64 d] 24)) := below_alloc (Below.refl _ w) _
 have hbk := blk_new w (.cells #[.int .i64 n, .int .i64 d] 24)
 have s1 := hb1.size
 cases hv : valid n d with
 | false =>
  rw [show vTicks n d s h = .tuple #[.int .i64 0, .int .i64 4] by unfold vTicks; rw [hv]; rfl]
  unfold tm
  go_enter Tryz.func35, Tryz.ntmps35
  go_wp2_with fail
  refine (Valid_n n d _).mono ?_
  rintro e w2 ⟨rfl, hb2⟩
  rw [hv]
  go_wp2_with fail
  go_ret2
  exact ⟨rfl, hb1.trans (hb2.mono s1)⟩
 | true =>
  cases hs : isScale s with
  | false =>
   rw [show vTicks n d s h = .tuple #[.int .i64 0, .int .i64 1] by unfold vTicks; rw [hv, hs]; rfl]
   unfold tm
   go_enter Tryz.func35, Tryz.ntmps35
   go_wp2_with fail
   refine (Valid_n n d _).mono ?_
   rintro e w2 ⟨rfl, hb2⟩
   rw [hv]
   go_wp2_with fail
   refine (isScale_n s _).mono ?_
   rintro e w3 ⟨rfl, rfl⟩
   rw [hs]
   go_wp2_with fail
   go_ret2
   exact ⟨rfl, hb1.trans (hb2.mono s1)⟩
  | true =>
   cases hh : isHow h with
   | false =>
    rw [show vTicks n d s h = .tuple #[.int .i64 0, .int .i64 1] by unfold vTicks; rw [hv, hs, hh]; rfl]
    unfold tm
    go_enter Tryz.func35, Tryz.ntmps35
    go_wp2_with fail
    refine (Valid_n n d _).mono ?_
    rintro e w2 ⟨rfl, hb2⟩
    rw [hv]
    go_wp2_with fail
    refine (isScale_n s _).mono ?_
    rintro e w3 ⟨rfl, rfl⟩
    rw [hs]
    go_wp2_with fail
    refine (isHow_n h _).mono ?_
    rintro e w3 ⟨rfl, rfl⟩
    rw [hh]
    go_wp2_with fail
    go_ret2
    exact ⟨rfl, hb1.trans (hb2.mono s1)⟩
   | true =>
    have hv2 : ((1 ≤ d ∧ d ≤ 1152921504606846976) ∧ -1152921504606846976 ≤ n) ∧ n ≤ 1152921504606846976 := by unfold valid at hv; simpa using hv
    have hs2 : 1 ≤ s ∧ s ≤ 1000000 := by unfold isScale at hs; simpa using hs
    have hh2 : h = 0 ∨ h = 1 ∨ h = 2 := by unfold isHow at hh; simp at hh; omega
    obtain ⟨⟨⟨hd1, hd2⟩, hn1⟩, hn2⟩ := hv2
    have hV : vTicks n d s h = if big (rnd h (n * s) d) then .tuple #[.int .i64 0, .int .i64 2] else .tuple #[.int .i64 (rnd h (n * s) d), .int .i64 0] := by unfold vTicks; rw [hv, hs, hh]; rfl
    generalize vTicks n d s h = V at hV ⊢
    generalize hqq : rnd h (n * s) d = q at hV
    have HQ := Aside0.mk (And.intro hqq hV)
    clear hqq hV
    unfold tm
    go_enter Tryz.func35, Tryz.ntmps35
    go_wp2_with fail
    refine (Valid_n n d _).mono ?_
    rintro e w2 ⟨rfl, hb2⟩
    rw [hv]
    go_wp2_with fail
    refine (isScale_n s _).mono ?_
    rintro e w3 ⟨rfl, rfl⟩
    rw [hs]
    go_wp2_with fail
    refine (isHow_n h _).mono ?_
    rintro e w3 ⟨rfl, rfl⟩
    rw [hh]
    have hbk2 := blk_below hbk hb2
    have HB2 := Aside0.mk (hb1.trans (hb2.mono s1))
    clear hb2 hbk
    have hc0 : w2.cell? ⟨w.heap.size, 0, none⟩ = some (.int .i64 n) := (blk_cell hbk2 0).trans rfl
    have hc1 : w2.cell? ⟨w.heap.size, 1, none⟩ = some (.int .i64 d) := (blk_cell hbk2 1).trans rfl
    go_wp2_with fail
    refine start_ (n := 10) (S := fun w' => w'.cell? ⟨w.heap.size, 0, none⟩ = some (.int .i64 n) ∧ w'.cell? ⟨w.heap.size, 1, none⟩ = some (.int .i64 d)) (ds := []) (bs 10 0) (by kernel_rfl) rfl rfl ⟨hc0, hc1⟩ (fun hHeld => ?_)
    refine zP 0 20 10 1 ?_
    refine zP 2 22 10 5 ?_
    refine zP 4 24 10 21 ?_
    refine zP 7 27 10 149 ?_
    refine zT 1 21 10 151 hHeld ?_
    refine zT 5 25 10 183 hHeld ?_
    refine zN 3 (some 23) 10 191 (fun K hK => ?_)
    refine zG Tryz.func81 #[.int .i64 n, .int .i64 s] ?_
    with_reducible refine (product_n n s _ (by omega) (by omega) (by omega) (by omega)).mono ?_
    rintro e w4 ⟨g4, hg4, rfl, hb4, hN4⟩
    refine ⟨_, rfl, ?_⟩
    have hb4' := below_drew' hb4
    refine hK.out _ _ ⟨pw_cell_below hb4' hc0, pw_cell_below hb4' hc1⟩ (fun hHeld => ?_)
    clear hK K
    refine zM 23 ?_
    refine zN 6 (some 26) 10 255 (fun K hK => ?_)
    refine zG Tryz.func82 #[.int .i64 d] ?_
    with_reducible refine (newInt_n d w4 (by omega) (by omega)).mono ?_
    rintro e w5 ⟨g5, hg5, rfl, hb5, hN5⟩
    refine ⟨_, rfl, ?_⟩
    have hb45 := hb4'.trans (hb5.mono hb4'.size)
    refine hK.out _ _ ⟨pw_cell_below hb45 hc0, pw_cell_below hb45 hc1⟩ (fun hHeld => ?_)
    clear hK K
    refine zM 26 ?_
    refine zN 8 (some 28) 10 511 (fun K hK => ?_)
    refine zG Tryz.func80 #[.pointer (some ⟨g4, 0, none⟩), .pointer (some ⟨g5, 0, none⟩), .int .i64 h] ?_
    with_reducible refine (rounded_n g4 g5 4 2 (n * s) d h w5 (hN4.below hb5) hN5 (by omega) hh2 (by decide)).mono ?_
    rintro e w6 ⟨g6, hg6, rfl, hb6, hN6⟩
    refine ⟨_, rfl, ?_⟩
    have hb46 := hb45.trans (hb6.mono hb45.size)
    refine hK.out _ _ ⟨pw_cell_below hb46 hc0, pw_cell_below hb46 hc1⟩ (fun hHeld => ?_)
    clear hK K
    refine zM 28 ?_
    refine zP 9 8 10 1023 ?_
    refine done_ (by kernel_rfl) ?_
    rw [HQ.out.1] at hN6
    have HB6 := Aside0.mk (HB2.out.trans (hb46.mono HB2.out.size))
    have H6 := Aside0.mk hN6
    clear hN6 hb46 hb45 hb4 hb4' hb5 hb6 hN4 hN5 hc0 hc1 hbk2 HB2 hHeld
    go_wp2_with fail
    refine (newInt_n 1099511627776 w6 (by decide) (by decide)).mono ?_
    rintro e w7 ⟨g7, hg7, rfl, hb7, hN7⟩
    have HB7 := Aside0.mk (HB6.out.trans (hb7.mono HB6.out.size))
    have H7 := Aside0.mk (And.intro (H6.out.below hb7) hN7)
    clear hb7 hN7 HB6 H6
    go_wp2_with fail
    refine (cmpAbs_n g6 0 g7 0 q 1099511627776 _ _ w7 H7.out.1 H7.out.2 (by decide)).mono ?_
    rintro e w8 ⟨rfl, hb8⟩
    have HB8 := Aside0.mk (HB7.out.trans (hb8.mono HB7.out.size))
    have H8 := Aside0.mk (H7.out.1.below hb8)
    clear hb8 HB7 H7
    by_cases hbig : 1099511627776 < (q.natAbs : Int)
    ·have e1 : big q = true := decide_eq_true hbig
     have e2 : cmpI (q.natAbs : Int) ((1099511627776 : Int).natAbs : Int) = 1 := by unfold cmpI; rw [if_neg (by simp; omega), if_pos (by simpa using hbig)]
     have HV := Aside0.mk (show V = .tuple #[.int .i64 0, .int .i64 2] by rw [HQ.out.2, e1]; rfl)
     rw [e2]
     clear e1 e2
     go_wp2_with fail
     go_ret2
     exact ⟨by rw [HV.out]; rfl, HB8.out⟩
    ·have e1 : big q = false := decide_eq_false hbig
     have e2 : ∃ c : Int, c ≤ 0 ∧ cmpI (q.natAbs : Int) ((1099511627776 : Int).natAbs : Int) = c := by
      refine ⟨_, ?_, rfl⟩
      unfold cmpI
      split
      ·decide
      ·rw [if_neg (by simpa using hbig)]; decide
     obtain ⟨c, hc, e2⟩ := e2
     have HV := Aside0.mk (show V = .tuple #[.int .i64 q, .int .i64 0] by rw [HQ.out.2, e1]; rfl)
     rw [e2]
     clear e1 e2
     go_wp2_with fail
     refine (int64_n g6 0 q _ w8 H8.out (by omega) (by omega) (by decide)).mono ?_
     rintro e w9 ⟨rfl, hb9⟩
     go_wp2_with fail
     go_ret2
     exact ⟨by rw [HV.out]; rfl, HB8.out.trans (hb9.mono HB8.out.size)⟩
end Go.Proofs.YtekommcfpjonmaaGreat.Eb
namespace Go.Proofs.YtekommcfpjonmaaGreat.Ec
open Go.RowKit Go Go.Proofs.YtekommcfpjonmaaGreatW.PrintWords Go.Proofs.YtekommcfpjonmaaGreatW.PrintLast Go.Proofs.YtekommcfpjonmaaGreatW.PrintMore Go.Proofs.YtekommcfpjonmaaGreat.Ml Go.Proofs.YtekommcfpjonmaaGreat.Mn Go.Proofs.YtekommcfpjonmaaGreat.Nd Go.Proofs.YtekommcfpjonmaaGreat.Z Go.Proofs.YtekommcfpjonmaaGreat.P Go.Proofs.YtekommcfpjonmaaGreat.Nc Go.Proofs.YtekommcfpjonmaaGreat.Nb Go.Proofs.YtekommcfpjonmaaGreat.Qa Go.Proofs.YtekommcfpjonmaaGreat.Qb Go.Proofs.YtekommcfpjonmaaGreat.Ea Go.Proofs.YtekommcfpjonmaaGreat.Eb Go.Proofs.YtekommcfpjonmaaGreat.E
set_option linter.unusedVariables false
set_option linter.unusedSimpArgs false
theorem vTicks_form (n d s h : Int) : ∃ q e, vTicks n d s h = .tuple #[.int .i64 q, .int .i64 e] := by
 unfold vTicks two er
 repeat' split
 all_goals exact ⟨_, _, rfl⟩
def vRescale (t f s h : Int) : Value := if isTicks t && isScale f then vTicks (lowN t f) (lowD t f) s h else .tuple #[.int .i64 0, .int .i64 1]
set_option maxHeartbeats 4000000 in
set_option maxRecDepth 100000 in
theorem Rescale_n (t f s h : Int) (w : World) : Calls Tryz.prog 36 #[.int .i64 t, .int .i64 f, .int .i64 s, .int .i64 h] w (ValP w (vRescale t f s h)) := by
 have hu := Tryz.underlying24
 have hF := From_n t f w
 cases hc : (isTicks t && isScale f) with
 | false =>
  rw [show vRescale t f s h = .tuple #[.int .i64 0, .int .i64 1] by unfold vRescale; rw [hc]; rfl]
  rw [show vFrom t f = .tuple #[.agg #[.int .i64 0, .int .i64 0], .int .i64 1] by unfold vFrom; rw [hc]; rfl] at hF
  have HF := Aside0.mk hF
  clear hF
  go_enter Tryz.func36, Tryz.ntmps36
  go_wp2_with fail
  refine HF.out.mono ?_
  rintro e w2 ⟨rfl, hb2⟩
  go_wp2_with fail
  go_ret2
  exact ⟨rfl, below_alloc hb2 _⟩
 | true =>
  obtain ⟨q, e, hq⟩ := vTicks_form (lowN t f) (lowD t f) s h
  have hT := fun w => Ticks_n (lowN t f) (lowD t f) s h w
  rw [show vRescale t f s h = .tuple #[.int .i64 q, .int .i64 e] by unfold vRescale; rw [hc, hq]; rfl]
  rw [show vFrom t f = .tuple #[.agg #[.int .i64 (lowN t f), .int .i64 (lowD t f)], .int .i64 0] by unfold vFrom; rw [hc]; rfl] at hF
  rw [hq] at hT
  have HF := Aside0.mk hF
  have HT := Aside0.mk hT
  clear hF hT hq
  go_enter Tryz.func36, Tryz.ntmps36
  go_wp2_with fail
  refine HF.out.mono ?_
  rintro e2 w2 ⟨rfl, hb2⟩
  go_wp2_with fail
  refine (HT.out _).mono ?_
  rintro e3 w3 ⟨rfl, hb3⟩
  go_wp2_with fail
  go_ret2
  have h1 := below_alloc hb2 (.cells #[.int .i64 (lowN t f), .int .i64 (lowD t f)] 24)
  exact ⟨rfl, h1.trans (hb3.mono h1.size)⟩
end Go.Proofs.YtekommcfpjonmaaGreat.Ec
namespace Go.Proofs.YtekommcfpjonmaaGreat.Ed
open Go.RowKit Go Go.Proofs.YtekommcfpjonmaaGreatW.PrintWords Go.Proofs.YtekommcfpjonmaaGreatW.PrintLast Go.Proofs.YtekommcfpjonmaaGreatW.PrintMore Go.Proofs.YtekommcfpjonmaaGreat.Ml Go.Proofs.YtekommcfpjonmaaGreat.Mn Go.Proofs.YtekommcfpjonmaaGreat.Nd Go.Proofs.YtekommcfpjonmaaGreat.Z Go.Proofs.YtekommcfpjonmaaGreat.P Go.Proofs.YtekommcfpjonmaaGreat.Nc Go.Proofs.YtekommcfpjonmaaGreat.Nb Go.Proofs.YtekommcfpjonmaaGreat.Qa Go.Proofs.YtekommcfpjonmaaGreat.Qb Go.Proofs.YtekommcfpjonmaaGreat.Ea Go.Proofs.YtekommcfpjonmaaGreat.Eb Go.Proofs.YtekommcfpjonmaaGreat.Ec Go.Proofs.YtekommcfpjonmaaGreat.E
set_option linter.unusedVariables false
set_option linter.unusedSimpArgs false
def Pair (w : World) (g : Nat) (n1 d1 n2 d2 : Int) : Prop := w.heap[g]? = some (.cells #[.int .i64 n1, .int .i64 d1, .int .i64 n2, .int .i64 d2] 24 (0, 0))
set_option maxHeartbeats 4000000 in
set_option maxRecDepth 100000 in
theorem index2_n (F : Nat) (p : Int → Int → Bool) (g : Nat) (n1 d1 n2 d2 : Int) (w : World) (hp : Pair w g n1 d1 n2 d2) (hE : ∀ args w, Sem.run Tryz.prog (callFunc F args) w = .ok (.enter F args) w)
  (hF : ∀ n d w, Calls Tryz.prog F #[tm n d] w (fun e w' => e = .returned (.bool (p n d)) ∧ Below w.heap.size w w')) :
  Calls Tryz.prog 148 #[.slice (some ⟨g, 0, none⟩) 2 2, .func (.func F) #[] #[]] w (fun e w' => ∃ i : Int, e = .returned (.int .i64 i) ∧ decide (0 ≤ i) = (p n1 d1 || p n2 d2) ∧ Below w.heap.size w w') := by
 have hu := Tryz.underlying24
 go_enter Tryz.func148, Tryz.ntmps148
 go_wp2_with fail
 go_loopg [8] 2 (fun kq v8 w' => ∃ i : Nat, v8 = .int .i64 (i : Int) ∧ Aside0 (i + kq = 2) ∧ Aside0 (Below w.heap.size w w') ∧ Aside0 (i = 0 ∨ p n1 d1 = false) ∧ Aside0 (i ≤ 1 ∨ p n2 d2 = false))
 case atStart => exact ⟨0, rfl, ⟨rfl⟩, ⟨Below.refl _ _⟩, ⟨.inl rfl⟩, ⟨.inl (by decide)⟩⟩
 case round =>
  obtain ⟨i, rfl, HK, HB, H1, H2⟩ := hrel
  cases gk with
  | zero =>
   obtain rfl : i = 2 := HK.out
   have q1 : p n1 d1 = false := by have := H1.out; simpa using this
   have q2 : p n2 d2 = false := by have := H2.out; simpa using this
   go_wp2_with fail
   go_ret
   exact ⟨_, rfl, by first | decide | (simp [q1, q2]; done) | simp [*], HB.out⟩
  | succ k1 =>
   have hi : i = 0 ∨ i = 1 := by have := HK.out; omega
   have hbk := blk_below hp HB.out
   rcases hi with rfl | rfl
   ·have hc0 : wr.cell? ⟨g, 0, none⟩ = some (.int .i64 n1) := (blk_cell hbk 0).trans rfl
    have hc1 : wr.cell? ⟨g, 1, none⟩ = some (.int .i64 d1) := (blk_cell hbk 1).trans rfl
    go_wp2_with fail
    refine (hF n1 d1 _).mono ?_
    rintro e w2 ⟨rfl, hb2⟩
    have HB2 := Aside0.mk (HB.out.trans (hb2.mono HB.out.size))
    cases hq : p n1 d1 with
    | true =>
     go_wp2_with fail
     go_ret
     exact ⟨_, rfl, by first | decide | (simp [hq]; done) | simp [*], HB2.out⟩
    | false =>
     go_wp2_with fail
     go_roundg k1
     case measure => omega
     case rel => exact ⟨1, rfl, ⟨by have := HK.out; omega⟩, HB2, ⟨.inr hq⟩, ⟨.inl (Nat.le_refl _)⟩⟩
   ·have hc0 : wr.cell? ⟨g, 2, none⟩ = some (.int .i64 n2) := (blk_cell hbk 2).trans rfl
    have hc1 : wr.cell? ⟨g, 3, none⟩ = some (.int .i64 d2) := (blk_cell hbk 3).trans rfl
    have q1 : p n1 d1 = false := by have := H1.out; simpa using this
    go_wp2_with fail
    refine (hF n2 d2 _).mono ?_
    rintro e w2 ⟨rfl, hb2⟩
    have HB2 := Aside0.mk (HB.out.trans (hb2.mono HB.out.size))
    cases hq : p n2 d2 with
    | true =>
     go_wp2_with fail
     go_ret
     exact ⟨_, rfl, by first | decide | (simp [hq, q1]; done) | simp [*], HB2.out⟩
    | false =>
     go_wp2_with fail
     go_roundg k1
     case measure => omega
     case rel => exact ⟨2, rfl, ⟨by have := HK.out; omega⟩, HB2, ⟨.inr q1⟩, ⟨.inr hq⟩⟩
set_option maxHeartbeats 1000000 in
theorem has2_n (F : Nat) (p : Int → Int → Bool) (g : Nat) (n1 d1 n2 d2 : Int) (w : World) (hp : Pair w g n1 d1 n2 d2) (hE : ∀ args w, Sem.run Tryz.prog (callFunc F args) w = .ok (.enter F args) w)
  (hF : ∀ n d w, Calls Tryz.prog F #[tm n d] w (fun e w' => e = .returned (.bool (p n d)) ∧ Below w.heap.size w w')) :
  Calls Tryz.prog 104 #[.slice (some ⟨g, 0, none⟩) 2 2, .func (.func F) #[] #[]] w (ValP w (.bool (p n1 d1 || p n2 d2))) := by
 go_enter Tryz.func104, Tryz.ntmps104
 go_wp2_with fail
 refine (index2_n F p g n1 d1 n2 d2 w hp hE hF).mono ?_
 rintro e w2 ⟨i, rfl, hi, hb2⟩
 go_wp2_with fail
 go_ret
 exact ⟨ret_b (by first | exact hi | rfl), hb2⟩
set_option maxHeartbeats 1000000 in
theorem notValid_n (n d : Int) (w : World) : Calls Tryz.prog 105 #[tm n d] w (fun e w' => e = .returned (.bool (!valid n d)) ∧ Below w.heap.size w w') := by
 have hu := Tryz.underlying24
 unfold tm
 go_enter Tryz.func105, Tryz.ntmps105
 go_wp2_with fail
 refine (Valid_n n d _).mono ?_
 rintro e w2 ⟨rfl, hb2⟩
 go_wp2_with fail
 go_ret
 exact ⟨rfl, (below_alloc (Below.refl _ w) _).trans (hb2.mono (by simp))⟩
def small (n d : Int) : Bool := decide (n < 1073741824) && decide (-1073741824 < n) && decide (d < 1073741824)
set_option maxHeartbeats 1000000 in
set_option maxRecDepth 100000 in
theorem large_n (n d : Int) (w : World) : Calls Tryz.prog 133 #[tm n d] w (fun e w' => e = .returned (.bool (!small n d)) ∧ Below w.heap.size w w') := by
 have hu := Tryz.underlying24
 unfold tm
 go_enter Tryz.func133, Tryz.ntmps133
 go_wp2
 all_goals
  go_ret
  refine ⟨ret_b ?_, below_alloc (Below.refl _ _) _⟩
  unfold small
  first | (simp_all; done) | (simp_all; omega) | grind
end Go.Proofs.YtekommcfpjonmaaGreat.Ed
namespace Go.Proofs.YtekommcfpjonmaaGreat.Ee
open Go.RowKit Go Go.Proofs.YtekommcfpjonmaaGreatW.PrintWords Go.Proofs.YtekommcfpjonmaaGreatW.PrintLast Go.Proofs.YtekommcfpjonmaaGreatW.PrintMore Go.Proofs.YtekommcfpjonmaaGreat.Ml Go.Proofs.YtekommcfpjonmaaGreat.Mn Go.Proofs.YtekommcfpjonmaaGreat.Nd Go.Proofs.YtekommcfpjonmaaGreat.Z Go.Proofs.YtekommcfpjonmaaGreat.P Go.Proofs.YtekommcfpjonmaaGreat.Nc Go.Proofs.YtekommcfpjonmaaGreat.Nb Go.Proofs.YtekommcfpjonmaaGreat.Qa Go.Proofs.YtekommcfpjonmaaGreat.Qb Go.Proofs.YtekommcfpjonmaaGreat.Ea Go.Proofs.YtekommcfpjonmaaGreat.Eb Go.Proofs.YtekommcfpjonmaaGreat.Ec Go.Proofs.YtekommcfpjonmaaGreat.Ed Go.Proofs.YtekommcfpjonmaaGreat.E
set_option linter.unusedVariables false
set_option linter.unusedSimpArgs false
set_option maxHeartbeats 1000000 in
theorem valid2_n (g : Nat) (n1 d1 n2 d2 : Int) (w : World) (hp : Pair w g n1 d1 n2 d2) :
  Calls Tryz.prog 56 #[.slice (some ⟨g, 0, none⟩) 2 2] w (ValP w (.bool (valid n1 d1 && valid n2 d2))) := by
 go_enter Tryz.func56, Tryz.ntmps56
 go_wp2_with fail
 refine (has2_n 105 (fun n d => !valid n d) g n1 d1 n2 d2 w hp (fun _ _ => by go_simp) notValid_n).mono ?_
 rintro e w2 ⟨rfl, hb2⟩
 go_wp2_with fail
 go_ret
 exact ⟨ret_b (by cases valid n1 d1 <;> cases valid n2 d2 <;> rfl), hb2⟩
set_option maxHeartbeats 1000000 in
theorem little2_n (g : Nat) (n1 d1 n2 d2 : Int) (w : World) (hp : Pair w g n1 d1 n2 d2) :
  Calls Tryz.prog 87 #[.slice (some ⟨g, 0, none⟩) 2 2] w (ValP w (.bool (small n1 d1 && small n2 d2))) := by
 go_enter Tryz.func87, Tryz.ntmps87
 go_wp2_with fail
 refine (has2_n 133 (fun n d => !small n d) g n1 d1 n2 d2 w hp (fun _ _ => by go_simp) large_n).mono ?_
 rintro e w2 ⟨rfl, hb2⟩
 go_wp2_with fail
 go_ret
 exact ⟨ret_b (by cases small n1 d1 <;> cases small n2 d2 <;> rfl), hb2⟩
theorem mul_bd {a b : Int} (a0 : -1073741824 < a) (a1 : a < 1073741824) (b0 : 1 ≤ b) (b1 : b < 1073741824) : -1152921504606846976 < a * b ∧ a * b < 1152921504606846976 := by
 have h1 : a * b ≤ 1073741823 * b := Int.mul_le_mul_of_nonneg_right (by omega) (by omega)
 have h2 : -1073741823 * b ≤ a * b := Int.mul_le_mul_of_nonneg_right (by omega) (by omega)
 omega
def timeObj (n d : Int) : Obj := .cells #[.int .i64 n, .int .i64 d] 24 (0, 0)
structure Boxed (w W : World) (n1 d1 n2 d2 : Int) : Prop where
 a : W.heap[w.heap.size]? = some (timeObj n1 d1)
 b : W.heap[w.heap.size + 1]? = some (timeObj n2 d2)
 r : W.heap[w.heap.size + 1 + 1]? = some (timeObj 0 0)
 s : Pair W (w.heap.size + 1 + 1 + 1) n1 d1 n2 d2
 below : Below w.heap.size w W
theorem Boxed.start (w : World) (n1 d1 n2 d2 : Int) : Boxed w ((((w.alloc (timeObj n1 d1)).alloc (timeObj n2 d2)).alloc (timeObj 0 0)).alloc (.cells #[.int .i64 n1, .int .i64 d1, .int .i64 n2, .int .i64 d2] 24)) n1 d1 n2 d2 := by
 have e1 : (w.alloc (timeObj n1 d1)).heap.size = w.heap.size + 1 := by simp
 have e2 : ((w.alloc (timeObj n1 d1)).alloc (timeObj n2 d2)).heap.size = w.heap.size + 1 + 1 := by simp
 have e3 : (((w.alloc (timeObj n1 d1)).alloc (timeObj n2 d2)).alloc (timeObj 0 0)).heap.size = w.heap.size + 1 + 1 + 1 := by simp
 have k4 := blk_new (((w.alloc (timeObj n1 d1)).alloc (timeObj n2 d2)).alloc (timeObj 0 0)) (.cells #[.int .i64 n1, .int .i64 d1, .int .i64 n2, .int .i64 d2] 24)
 have k3 := blk_new ((w.alloc (timeObj n1 d1)).alloc (timeObj n2 d2)) (timeObj 0 0)
 have k2 := blk_new (w.alloc (timeObj n1 d1)) (timeObj n2 d2)
 have k1 := blk_new w (timeObj n1 d1)
 rw [e3] at k4
 rw [e2] at k3
 rw [e1] at k2
 refine ⟨blk_alloc (blk_alloc (blk_alloc k1 _) _) _, blk_alloc (blk_alloc k2 _) _, blk_alloc k3 _, k4, below_alloc (below_alloc (below_alloc (below_alloc (Below.refl _ w) _) _) _) _⟩
theorem Boxed.step {w W W2 : World} {n1 d1 n2 d2 : Int} (h : Boxed w W n1 d1 n2 d2) (hb : Below W.heap.size W W2) : Boxed w W2 n1 d1 n2 d2 :=
 ⟨blk_below h.a hb, blk_below h.b hb, blk_below h.r hb, blk_below (o := .cells _ _ _) h.s hb, h.below.trans (hb.mono h.below.size)⟩
theorem time_cells {w : World} {g : Nat} {n d : Int} (h : w.heap[g]? = some (timeObj n d)) : w.cell? ⟨g, 0, none⟩ = some (.int .i64 n) ∧ w.cell? ⟨g, 1, none⟩ = some (.int .i64 d) ∧ w.frozen? ⟨g, 0, none⟩ = false ∧ w.frozen? ⟨g, 1, none⟩ = false :=
 ⟨(blk_cell h 0).trans rfl, (blk_cell h 1).trans rfl, blk_frozen h 0, blk_frozen h 1⟩
set_option maxHeartbeats 4000000 in
set_option maxRecDepth 100000 in
theorem addS_n (n1 d1 n2 d2 : Int) (w : World) (h1 : small n1 d1 = true) (h2 : small n2 d2 = true) (p1 : 1 ≤ d1) (p2 : 1 ≤ d2) (N D : Int) (hN : N = lowN (n1 * d2 + n2 * d1) (d1 * d2)) (hD : D = lowD (n1 * d2 + n2 * d1) (d1 * d2)) (hv : valid N D = true) :
  Calls Tryz.prog 39 #[tm n1 d1, tm n2 d2] w (ValP w (two (tm N D) (er 0))) := by
 have hu := Tryz.underlying24
 have hB := Aside0.mk (Boxed.start w n1 d1 n2 d2)
 have hs1 : (n1 < 1073741824 ∧ -1073741824 < n1) ∧ d1 < 1073741824 := by unfold small at h1; simpa using h1
 have hs2 : (n2 < 1073741824 ∧ -1073741824 < n2) ∧ d2 < 1073741824 := by unfold small at h2; simpa using h2
 obtain ⟨x1, x2⟩ := mul_bd hs1.1.2 hs1.1.1 p2 hs2.2
 obtain ⟨y1, y2⟩ := mul_bd hs2.1.2 hs2.1.1 p1 hs1.2
 obtain ⟨z1, z2⟩ := mul_bd (a := d1) (by omega) hs1.2 p2 hs2.2
 have z3 : 1 ≤ d1 * d2 := by have := Int.mul_le_mul_of_nonneg_right p1 (show 0 ≤ d2 by omega); omega
 obtain ⟨k, hk⟩ := lowest_f (n1 * d2 + n2 * d1) (d1 * d2) (by omega) (by omega) z3 (by omega)
 rw [← hN, ← hD] at hk
 have HK := Aside0.mk hk
 clear hs1 hs2 hk hN hD
 unfold two tm er
 go_enter Tryz.func39, Tryz.ntmps39
 go_wp2_with fail
 generalize hW : World.alloc (World.alloc _ _) _ = W
 have HB := Aside0.mk (show Boxed w W n1 d1 n2 d2 by rw [← hW]; exact hB.out)
 clear hW hB
 refine (little2_n _ n1 d1 n2 d2 W HB.out.s).mono ?_
 rintro e w2 ⟨rfl, hb2⟩
 rw [h1, h2]
 have HB2 := Aside0.mk (HB.out.step hb2)
 clear hb2 HB
 obtain ⟨a0, a1, _, _⟩ := time_cells HB2.out.a
 obtain ⟨b0, b1, _, _⟩ := time_cells HB2.out.b
 go_wp2_with fail
 refine (exact_lowest.calls k (n1 * d2 + n2 * d1) (d1 * d2) N D _ HK.out).mono ?_
 rintro e w3 ⟨rfl, hb3⟩
 have HB3 := Aside0.mk (HB2.out.step hb3)
 clear hb3 HB2 a0 a1 b0 b1
 go_wp2_with fail
 have hq := blk_new w3 (timeObj N D)
 have hb4 : Below w3.heap.size w3 (w3.alloc (timeObj N D)) := below_alloc (Below.refl _ w3) _
 refine (Valid_n N D _).mono ?_
 rintro e w5 ⟨rfl, hb5⟩
 rw [hv]
 have HB5 := Aside0.mk ((HB3.out.step hb4).step hb5)
 have hq5 := blk_below hq hb5
 obtain ⟨q0, q1, q2, q3⟩ := time_cells hq5
 obtain ⟨r0, r1, r2, r3⟩ := time_cells HB5.out.r
 clear hb4 hb5 hq hq5 HB3
 go_wp2_with fail
 refine bodyPost_ret (results_ct rfl _ _ (w.heap.size + 1 + 1) 24 #[.int .i64 N, .int .i64 D] (0, 0) _ rfl (blk_two HB5.out.r) Tryz.underlying24 rfl (by kernel_rfl)) rfl ?_
 exact ⟨rfl, (HB5.out.below.setCell (by simp; omega) _).setCell (by simp; omega) _⟩
set_option maxHeartbeats 4000000 in
set_option maxRecDepth 100000 in
theorem AddV_n (n1 d1 n2 d2 : Int) (w : World) (h1 : valid n1 d1 = true) (h2 : valid n2 d2 = true) (N D E : Int)
  (hA : ∀ w, Calls Tryz.prog 39 #[tm n1 d1, tm n2 d2] w (ValP w (two (tm N D) (er E)))) :
  Calls Tryz.prog 26 #[tm n1 d1, tm n2 d2] w (ValP w (two (tm N D) (er E))) := by
 have hu := Tryz.underlying24
 have hB := Aside0.mk (Boxed.start w n1 d1 n2 d2)
 have HA := Aside0.mk hA
 clear hA
 unfold two tm er
 go_enter Tryz.func26, Tryz.ntmps26
 go_wp2_with fail
 generalize hW : World.alloc (World.alloc _ _) _ = W
 have HB := Aside0.mk (show Boxed w W n1 d1 n2 d2 by rw [← hW]; exact hB.out)
 clear hW hB
 refine (valid2_n _ n1 d1 n2 d2 W HB.out.s).mono ?_
 rintro e w2 ⟨rfl, hb2⟩
 rw [h1, h2]
 have HB2 := Aside0.mk (HB.out.step hb2)
 clear hb2 HB
 obtain ⟨a0, a1, _, _⟩ := time_cells HB2.out.a
 obtain ⟨b0, b1, _, _⟩ := time_cells HB2.out.b
 go_wp2_with fail
 refine (HA.out w2).mono ?_
 rintro e w3 ⟨rfl, hb3⟩
 have HB3 := Aside0.mk (HB2.out.step hb3)
 obtain ⟨r0, r1, r2, r3⟩ := time_cells HB3.out.r
 clear hb3 HB2 a0 a1 b0 b1
 unfold two tm er
 go_wp2_with fail
 refine bodyPost_ret (results_ct rfl _ _ (w.heap.size + 1 + 1) 24 #[.int .i64 N, .int .i64 D] (0, 0) _ rfl (blk_two HB3.out.r) Tryz.underlying24 rfl (by kernel_rfl)) rfl ?_
 exact ⟨rfl, (HB3.out.below.setCell (by simp; omega) _).setCell (by simp; omega) _⟩
set_option maxHeartbeats 4000000 in
set_option maxRecDepth 100000 in
theorem awake_n (w : World) : Calls Tryz.prog 10 #[] w (ValP w (.bool true)) := by
 have hu := Tryz.underlying24
 have hA := fun w => AddV_n 1 3 1 6 w (by decide) (by decide) 1 2 0 (fun w => addS_n 1 3 1 6 w (by decide) (by decide) (by decide) (by decide) 1 2 (by decide) (by decide) (by decide))
 have hT := fun w => Ticks_n 1 3 1000 1 w
 rw [show vTicks 1 3 1000 1 = .tuple #[.int .i64 334, .int .i64 0] by kernel_rfl] at hT
 have hR := fun w => Rescale_n 1 3 2 2 w
 rw [show vRescale 1 3 2 2 = .tuple #[.int .i64 1, .int .i64 0] by kernel_rfl] at hR
 unfold two tm er at hA
 unfold tm at hT
 go_enter Tryz.func10, Tryz.ntmps10
 go_wp2_with fail
 refine (hA _).mono ?_
 rintro e w2 ⟨rfl, hb2⟩
 go_wp2_with fail
 refine (hT _).mono ?_
 rintro e w3 ⟨rfl, hb3⟩
 go_wp2_with fail
 refine (hR _).mono ?_
 rintro e w4 ⟨rfl, hb4⟩
 have hq := blk_below (blk_below (blk_new w2 (timeObj 1 2)) hb3) hb4
 obtain ⟨q0, q1, q2, q3⟩ := time_cells hq
 have h1 := below_alloc hb2 (timeObj 1 2)
 have HB := Aside0.mk ((h1.trans (hb3.mono h1.size)).trans (hb4.mono (h1.trans (hb3.mono h1.size)).size))
 clear hq hb2 hb3 hb4 h1 hA hT hR
 go_wp2_with fail
 go_ret
 exact ⟨rfl, HB.out⟩
end Go.Proofs.YtekommcfpjonmaaGreat.Ee
namespace Go.Proofs.YtekommcfpjonmaaGreat.Rb
open Go.RowKit Go Go.Proofs.YtekommcfpjonmaaGreatW.PrintWords Go.Proofs.YtekommcfpjonmaaGreatW.PrintLast Go.Proofs.YtekommcfpjonmaaGreatW.PrintMore Go.Proofs.YtekommcfpjonmaaGreat.Ml Go.Proofs.YtekommcfpjonmaaGreat.Mn Go.Proofs.YtekommcfpjonmaaGreat.Nd Go.Proofs.YtekommcfpjonmaaGreat.Z Go.Proofs.YtekommcfpjonmaaGreat.P Go.Proofs.YtekommcfpjonmaaGreat.Nc Go.Proofs.YtekommcfpjonmaaGreat.Nb Go.Proofs.YtekommcfpjonmaaGreat.Qa Go.Proofs.YtekommcfpjonmaaGreat.Qb Go.Proofs.YtekommcfpjonmaaGreat.Ea Go.Proofs.YtekommcfpjonmaaGreat.Eb Go.Proofs.YtekommcfpjonmaaGreat.Ec Go.Proofs.YtekommcfpjonmaaGreat.Ed Go.Proofs.YtekommcfpjonmaaGreat.Ee Go.Proofs.YtekommcfpjonmaaGreat.Ra
set_option linter.unusedVariables false
set_option linter.unusedSimpArgs false
def vLow (n d : Int) : Value := if valid (ratN n d) (ratD n d) then two (tm (ratN n d) (ratD n d)) (er 0) else two (tm 0 0) (er 2)
theorem ratD_pos {n d : Int} (hd : d ≠ 0) : 1 ≤ ratD n d := by
 have key : ∀ n d : Int, 1 ≤ d → 1 ≤ lowD n d := by
  intro n d hd
  have hg : 1 ≤ ((Int.gcd n d : Nat) : Int) := by
   have := Int.gcd_pos_of_ne_zero_right n (show d ≠ 0 by omega)
   omega
  have e2 : d = lowD n d * (Int.gcd n d : Int) := (Int.ediv_mul_cancel (Int.gcd_dvd_right n d)).symm
  refine Int.le_of_not_gt fun h0 => ?_
  have h : lowD n d ≤ 0 := by omega
  have : lowD n d * (Int.gcd n d : Int) ≤ 0 * (Int.gcd n d : Int) := Int.mul_le_mul_of_nonneg_right h (by omega)
  omega
 unfold ratD
 split
 ·exact key _ _ (by omega)
 ·exact key _ _ (by omega)
theorem cmp_gt {q m : Int} (h : m < q) : cmpI q m = 1 := by unfold cmpI; rw [if_neg (by omega), if_pos h]
theorem cmp_le {q m : Int} (h : ¬ m < q) : ∃ c : Int, c ≤ 0 ∧ cmpI q m = c := by
 refine ⟨_, ?_, rfl⟩
 unfold cmpI
 by_cases h2 : q < m
 ·rw [if_pos h2]; decide
 ·rw [if_neg h2, if_neg h]; decide
theorem room_rat0 (w : World) : Room (w.alloc (.cells #[.bool false, .slice none 0 0, .bool false, .slice none 0 0] 121)) w.heap.size 0 :=
 ⟨false, .slice none 0 0, ⟨_, 121, blk_new w _, ⟨none, 0, 0, rfl⟩, rfl, rfl⟩⟩
theorem room_rat2 (w : World) : Room (w.alloc (.cells #[.bool false, .slice none 0 0, .bool false, .slice none 0 0] 121)) w.heap.size 2 :=
 ⟨false, .slice none 0 0, ⟨_, 121, blk_new w _, ⟨none, 0, 0, rfl⟩, rfl, rfl⟩⟩
set_option maxHeartbeats 8000000 in
set_option maxRecDepth 100000 in
theorem ratio_n (gn gd : Nat) (n d : Int) (nn nd : Nat) (w : World) (hn : IsN w gn 0 n nn) (hd : IsN w gd 0 d nd) (hd0 : d ≠ 0) (hl : nn + nd ≤ 900) :
  Calls Tryz.prog 89 #[.pointer (some ⟨gn, 0, none⟩), .pointer (some ⟨gd, 0, none⟩)] w (ValP w (vLow n d)) := by
 have hu := Tryz.underlying24
 have hb1 : Below w.heap.size w (w.alloc (timeObj 0 0)) := below_alloc (Below.refl _ w) _
 have hk1 := blk_new w (timeObj 0 0)
 have hsz : (w.alloc (timeObj 0 0)).heap.size = w.heap.size + 1 := by simp
 have hD := ratD_pos (n := n) hd0
 have hV : vLow n d = if valid (ratN n d) (ratD n d) then two (tm (ratN n d) (ratD n d)) (er 0) else two (tm 0 0) (er 2) := rfl
 generalize vLow n d = V at hV ⊢
 generalize hw1 : w.alloc (timeObj 0 0) = w1 at *
 have hb2 : Below w1.heap.size w1 (w1.alloc (.cells #[.bool false, .slice none 0 0, .bool false, .slice none 0 0] 121)) := below_alloc (Below.refl _ w1) _
 have h0 := room_rat0 w1
 have h2 := room_rat2 w1
 have hk2 := blk_below hk1 hb2
 have hF := setFrac_n w1.heap.size gn 0 gd 0 n d nn nd w1.heap.size _ h0 h2 ((hn.below hb1).below hb2) ((hd.below hb1).below hb2) hd0 (by omega) (Nat.le_refl _)
 unfold SfP at hF
 generalize hgN : ratN n d = N at *
 generalize hgD : ratD n d = D at *
 have HV := Aside0.mk hV
 have HB2 := Aside0.mk (And.intro (hb1.trans (hb2.mono hb1.size)) (And.intro hk1 hb2))
 rw [hsz] at hF
 have HF := Aside0.mk hF
 clear hV hb1 hb2 h0 h2 hk2 hF hk1 hgN hgD
 go_enter Tryz.func89, Tryz.ntmps89
 go_wp2_with fail
 rw [show w.alloc (.cells #[.int .i64 0, .int .i64 0] 24) = w1 from hw1]
 refine HF.out.mono ?_
 rintro e w3 ⟨rfl, hb3, hN3, hD3⟩
 have B1 : Below w1.heap.size w1 w3 := HB2.out.2.2.trans (by rw [hsz]; exact hb3)
 have B0 : Below w.heap.size w w1 := by rw [← hw1]; exact below_alloc (Below.refl _ w) _
 have HB3 := Aside0.mk (And.intro (B0.trans (B1.mono B0.size)) (blk_below HB2.out.2.1 B1))
 have H3 := Aside0.mk (And.intro hN3 hD3)
 clear hb3 hN3 hD3 HF HB2 B1 B0 hn hd
 go_wp2_with fail
 refine (newInt_n 1152921504606846976 w3 (by decide) (by decide)).mono ?_
 rintro e w4 ⟨g4, hg4, rfl, hb4, hN4⟩
 have HB4 := Aside0.mk (And.intro (HB3.out.1.trans (hb4.mono HB3.out.1.size)) (blk_below HB3.out.2 hb4))
 have H4 := Aside0.mk (And.intro (H3.out.1.below hb4) (And.intro (H3.out.2.below hb4) hN4))
 clear hb4 hN4 HB3 H3
 go_wp2_with fail
 refine (num_n _ w4).mono ?_
 rintro e w5 ⟨rfl, rfl⟩
 go_wp2_with fail
 refine (cmpAbs_n (w.heap.size + 1) 0 g4 0 N 1152921504606846976 _ _ w4 H4.out.1 H4.out.2.2 (by omega)).mono ?_
 rintro e w5 ⟨rfl, hb5⟩
 have HB5 := Aside0.mk (And.intro (HB4.out.1.trans (hb5.mono HB4.out.1.size)) (blk_below HB4.out.2 hb5))
 have H5 := Aside0.mk (And.intro (H4.out.1.below hb5) (And.intro (H4.out.2.1.below hb5) (H4.out.2.2.below hb5)))
 obtain ⟨r0, r1, r2, r3⟩ := time_cells HB5.out.2
 clear hb5 HB4 H4
 have nab : (1152921504606846976 : Int).natAbs = 1152921504606846976 := rfl
 by_cases hbig : ((1152921504606846976 : Int).natAbs : Int) < (N.natAbs : Int)
 ·rw [cmp_gt hbig]
  have hv : valid N D = false := by unfold valid; simp; rw [nab] at hbig; omega
  have HV2 := Aside0.mk (show V = .tuple #[.agg #[.int .i64 0, .int .i64 0], .int .i64 2] by rw [HV.out, hv]; rfl)
  clear hbig hv nab
  go_wp2_with fail
  refine bodyPost_ret (results_ct rfl _ _ w.heap.size 24 #[.int .i64 0, .int .i64 0] (0, 0) _ rfl (blk_two HB5.out.2) Tryz.underlying24 rfl (by kernel_rfl)) rfl ?_
  exact ⟨by rw [HV2.out]; rfl, (HB5.out.1.setCell (by simp) _).setCell (by simp) _⟩
 ·obtain ⟨c, hc, ec⟩ := cmp_le hbig
  rw [ec]
  have HX := Aside0.mk (show ((N.natAbs : Nat) : Int) ≤ 1152921504606846976 by rw [nab] at hbig; omega)
  clear ec hbig nab
  go_wp2_with fail
  refine (denom_n (w.heap.size + 1) D nd w5 H5.out.2.1 (by omega)).mono ?_
  rintro e w6 ⟨rfl, rfl⟩
  go_wp2_with fail
  refine (cmp_n (w.heap.size + 1) 2 g4 0 D 1152921504606846976 _ _ w5 H5.out.2.1 H5.out.2.2 (by omega)).mono ?_
  rintro e w6 ⟨rfl, hb6⟩
  have HB6 := Aside0.mk (And.intro (HB5.out.1.trans (hb6.mono HB5.out.1.size)) (blk_below HB5.out.2 hb6))
  have H6 := Aside0.mk (And.intro (H5.out.1.below hb6) (H5.out.2.1.below hb6))
  obtain ⟨q0, q1, q2, q3⟩ := time_cells HB6.out.2
  clear hb6 HB5 H5 r0 r1 r2 r3
  by_cases hbig : (1152921504606846976 : Int) < D
  ·rw [cmp_gt hbig]
   have hv : valid N D = false := by unfold valid; simp; omega
   have HV2 := Aside0.mk (show V = .tuple #[.agg #[.int .i64 0, .int .i64 0], .int .i64 2] by rw [HV.out, hv]; rfl)
   clear hbig hv
   go_wp2_with fail
   refine bodyPost_ret (results_ct rfl _ _ w.heap.size 24 #[.int .i64 0, .int .i64 0] (0, 0) _ rfl (blk_two HB6.out.2) Tryz.underlying24 rfl (by kernel_rfl)) rfl ?_
   exact ⟨by rw [HV2.out]; rfl, (HB6.out.1.setCell (by simp) _).setCell (by simp) _⟩
  ·obtain ⟨c2, hc2, ec2⟩ := cmp_le hbig
   rw [ec2]
   have hx := HX.out
   have hv : valid N D = true := by unfold valid; simp; omega
   have HV2 := Aside0.mk (show V = .tuple #[.agg #[.int .i64 N, .int .i64 D], .int .i64 0] by rw [HV.out, hv]; rfl)
   clear ec2 hv
   go_wp2_with fail
   refine (num_n _ w6).mono ?_
   rintro e w7 ⟨rfl, rfl⟩
   go_wp2_with fail
   refine (int64_n (w.heap.size + 1) 0 N _ w6 H6.out.1 (by omega) (by omega) (by omega)).mono ?_
   rintro e w7 ⟨rfl, hb7⟩
   have HB7 := Aside0.mk (And.intro (HB6.out.1.trans (hb7.mono HB6.out.1.size)) (blk_below HB6.out.2 hb7))
   have H7 := Aside0.mk (H6.out.2.below hb7)
   clear hb7 HB6 H6 q0 q1 q2 q3
   go_wp2_with fail
   refine (denom_n (w.heap.size + 1) D nd w7 H7.out (by omega)).mono ?_
   rintro e w8 ⟨rfl, rfl⟩
   go_wp2_with fail
   refine (int64_n (w.heap.size + 1) 2 D _ w7 H7.out (by omega) (by omega) (by omega)).mono ?_
   rintro e w8 ⟨rfl, hb8⟩
   have HB8 := Aside0.mk (And.intro (HB7.out.1.trans (hb8.mono HB7.out.1.size)) (blk_below HB7.out.2 hb8))
   obtain ⟨q0, q1, q2, q3⟩ := time_cells HB8.out.2
   clear hb8 HB7 H7
   go_wp2_with fail
   refine bodyPost_ret (results_ct rfl _ _ w.heap.size 24 #[.int .i64 N, .int .i64 D] (0, 0) _ rfl (blk_two HB8.out.2) Tryz.underlying24 rfl (by kernel_rfl)) rfl ?_
   exact ⟨by rw [HV2.out]; rfl, (HB8.out.1.setCell (by simp) _).setCell (by simp) _⟩
end Go.Proofs.YtekommcfpjonmaaGreat.Rb
namespace Go.Proofs.YtekommcfpjonmaaGreat.Rc
open Go.RowKit Go Go.Proofs.YtekommcfpjonmaaGreatW.PrintWords Go.Proofs.YtekommcfpjonmaaGreatW.PrintLast Go.Proofs.YtekommcfpjonmaaGreatW.PrintMore Go.Proofs.YtekommcfpjonmaaGreat.Ml Go.Proofs.YtekommcfpjonmaaGreat.Mn Go.Proofs.YtekommcfpjonmaaGreat.Nd Go.Proofs.YtekommcfpjonmaaGreat.Z Go.Proofs.YtekommcfpjonmaaGreat.P Go.Proofs.YtekommcfpjonmaaGreat.Nc Go.Proofs.YtekommcfpjonmaaGreat.Nb Go.Proofs.YtekommcfpjonmaaGreat.Qa Go.Proofs.YtekommcfpjonmaaGreat.Qb Go.Proofs.YtekommcfpjonmaaGreat.Ea Go.Proofs.YtekommcfpjonmaaGreat.Eb Go.Proofs.YtekommcfpjonmaaGreat.Ec Go.Proofs.YtekommcfpjonmaaGreat.Ed Go.Proofs.YtekommcfpjonmaaGreat.Ee Go.Proofs.YtekommcfpjonmaaGreat.Ra Go.Proofs.YtekommcfpjonmaaGreat.Rb
set_option linter.unusedVariables false
set_option linter.unusedSimpArgs false
structure Boxed2 (w W : World) (n1 d1 n2 d2 : Int) : Prop where
 a : W.heap[w.heap.size]? = some (timeObj n1 d1)
 b : W.heap[w.heap.size + 1]? = some (timeObj n2 d2)
 s : Pair W (w.heap.size + 1 + 1) n1 d1 n2 d2
 below : Below w.heap.size w W
theorem Boxed2.start (w : World) (n1 d1 n2 d2 : Int) : Boxed2 w (((w.alloc (timeObj n1 d1)).alloc (timeObj n2 d2)).alloc (.cells #[.int .i64 n1, .int .i64 d1, .int .i64 n2, .int .i64 d2] 24)) n1 d1 n2 d2 := by
 have e1 : (w.alloc (timeObj n1 d1)).heap.size = w.heap.size + 1 := by simp
 have e2 : ((w.alloc (timeObj n1 d1)).alloc (timeObj n2 d2)).heap.size = w.heap.size + 1 + 1 := by simp
 have k4 := blk_new ((w.alloc (timeObj n1 d1)).alloc (timeObj n2 d2)) (.cells #[.int .i64 n1, .int .i64 d1, .int .i64 n2, .int .i64 d2] 24)
 have k2 := blk_new (w.alloc (timeObj n1 d1)) (timeObj n2 d2)
 have k1 := blk_new w (timeObj n1 d1)
 rw [e2] at k4
 rw [e1] at k2
 refine ⟨blk_alloc (blk_alloc k1 _) _, blk_alloc k2 _, k4, below_alloc (below_alloc (below_alloc (Below.refl _ w) _) _) _⟩
theorem Boxed2.step {w W W2 : World} {n1 d1 n2 d2 : Int} (h : Boxed2 w W n1 d1 n2 d2) (hb : Below W.heap.size W W2) : Boxed2 w W2 n1 d1 n2 d2 :=
 ⟨blk_below h.a hb, blk_below h.b hb, blk_below (o := .cells _ _ _) h.s hb, h.below.trans (hb.mono h.below.size)⟩
theorem valid_bd {n d : Int} (h : valid n d = true) : 1 ≤ d ∧ d ≤ 1152921504606846976 ∧ -1152921504606846976 ≤ n ∧ n ≤ 1152921504606846976 := by
 unfold valid at h
 simp at h
 omega
set_option maxHeartbeats 8000000 in
set_option maxRecDepth 100000 in
theorem xcmpS_n (n1 d1 n2 d2 : Int) (w : World) (h1 : small n1 d1 = true) (h2 : small n2 d2 = true) (p1 : 1 ≤ d1) (p2 : 1 ≤ d2) :
  Calls Tryz.prog 50 #[tm n1 d1, tm n2 d2] w (ValP w (.int .i64 (cmpI (n1 * d2) (n2 * d1)))) := by
 have hu := Tryz.underlying24
 have hB := Aside0.mk (Boxed2.start w n1 d1 n2 d2)
 have hs1 : (n1 < 1073741824 ∧ -1073741824 < n1) ∧ d1 < 1073741824 := by unfold small at h1; simpa using h1
 have hs2 : (n2 < 1073741824 ∧ -1073741824 < n2) ∧ d2 < 1073741824 := by unfold small at h2; simpa using h2
 obtain ⟨x1, x2⟩ := mul_bd hs1.1.2 hs1.1.1 p2 hs2.2
 obtain ⟨y1, y2⟩ := mul_bd hs2.1.2 hs2.1.1 p1 hs1.2
 have e1 : wrap64 (n1 * d2) = n1 * d2 := w64 (by omega) (by omega)
 have e2 : wrap64 (n2 * d1) = n2 * d1 := w64 (by omega) (by omega)
 generalize hX : n1 * d2 = X at *
 generalize hY : n2 * d1 = Y at *
 have E := Aside0.mk (And.intro e1 e2)
 clear hs1 hs2 e1 e2
 unfold tm
 go_enter Tryz.func50, Tryz.ntmps50
 go_wp2_with fail
 generalize hW : World.alloc (World.alloc _ _) _ = W
 have HB := Aside0.mk (show Boxed2 w W n1 d1 n2 d2 by rw [← hW]; exact hB.out)
 clear hW hB
 refine (little2_n _ n1 d1 n2 d2 W HB.out.s).mono ?_
 rintro e w2 ⟨rfl, hb2⟩
 rw [h1, h2]
 have HB2 := Aside0.mk (HB.out.step hb2)
 clear hb2 HB
 obtain ⟨a0, a1, _, _⟩ := time_cells HB2.out.a
 obtain ⟨b0, b1, _, _⟩ := time_cells HB2.out.b
 have E1 : wrap64 (n1 * d2) = X := by rw [hX]; exact E.out.1
 have E2 : wrap64 (n2 * d1) = Y := by rw [hY]; exact E.out.2
 clear hX hY
 go_wp2_with fail
 refine start_ (n := 12) (S := fun w' => w'.cell? ⟨w.heap.size, 0, none⟩ = some (.int .i64 n1) ∧ w'.cell? ⟨w.heap.size, 1, none⟩ = some (.int .i64 d1) ∧ w'.cell? ⟨w.heap.size + 1, 0, none⟩ = some (.int .i64 n2) ∧ w'.cell? ⟨w.heap.size + 1, 1, none⟩ = some (.int .i64 d2)) (ds := []) (bs 12 0) (by kernel_rfl) rfl rfl ⟨a0, a1, b0, b1⟩ (fun hHeld => ?_)
 refine zP 0 11 12 1 ?_
 refine zP 2 13 12 5 ?_
 refine zP 5 16 12 37 ?_
 refine zP 7 18 12 165 ?_
 refine zT 1 12 12 167 hHeld ?_
 refine zT 3 14 12 175 hHeld ?_
 refine zP 4 15 12 191 ?_
 refine zP 10 5 12 1215 ?_
 refine zT 6 17 12 1279 hHeld ?_
 refine zT 8 19 12 1535 hHeld ?_
 refine zP 9 20 12 2047 ?_
 refine zP 11 6 12 4095 ?_
 refine done_ (by kernel_rfl) ?_
 have hbd : Below w.heap.size w w2.drew := HB2.out.below.trans ((below_drew' (Below.refl _ _)).mono HB2.out.below.size)
 have HBD := Aside0.mk hbd
 clear hbd
 rcases Int.lt_trichotomy X Y with h | h | h
 ·have hc : cmpI X Y = -1 := by unfold cmpI; rw [if_pos h]
  have HC := Aside0.mk hc
  clear hc
  go_wp2
  go_ret
  exact ⟨ret_i HC.out.symm, HBD.out⟩
 ·subst h
  have hc : cmpI X X = 0 := by unfold cmpI; rw [if_neg (by omega), if_neg (by omega)]
  have HC := Aside0.mk hc
  clear hc
  go_wp2
  go_ret
  exact ⟨ret_i HC.out.symm, HBD.out⟩
 ·have hc : cmpI X Y = 1 := by unfold cmpI; rw [if_neg (by omega), if_pos h]
  have HC := Aside0.mk hc
  clear hc
  go_wp2
  go_ret
  exact ⟨ret_i HC.out.symm, HBD.out⟩
set_option maxHeartbeats 8000000 in
set_option maxRecDepth 100000 in
theorem xcmpL_n (n1 d1 n2 d2 : Int) (w : World) (hl : (small n1 d1 && small n2 d2) = false) (v1 : valid n1 d1 = true) (v2 : valid n2 d2 = true) :
  Calls Tryz.prog 50 #[tm n1 d1, tm n2 d2] w (ValP w (.int .i64 (cmpI (n1 * d2) (n2 * d1)))) := by
 have hu := Tryz.underlying24
 have hB := Aside0.mk (Boxed2.start w n1 d1 n2 d2)
 have q1 := valid_bd v1
 have q2 := valid_bd v2
 unfold tm
 go_enter Tryz.func50, Tryz.ntmps50
 go_wp2_with fail
 generalize hW : World.alloc (World.alloc _ _) _ = W
 have HB := Aside0.mk (show Boxed2 w W n1 d1 n2 d2 by rw [← hW]; exact hB.out)
 clear hW hB
 refine (little2_n _ n1 d1 n2 d2 W HB.out.s).mono ?_
 rintro e w2 ⟨rfl, hb2⟩
 rw [hl]
 have HB2 := Aside0.mk (HB.out.step hb2)
 clear hb2 HB
 obtain ⟨a0, a1, _, _⟩ := time_cells HB2.out.a
 obtain ⟨b0, b1, _, _⟩ := time_cells HB2.out.b
 go_wp2_with fail
 refine start_ (n := 12) (S := fun w' => w'.cell? ⟨w.heap.size, 0, none⟩ = some (.int .i64 n1) ∧ w'.cell? ⟨w.heap.size, 1, none⟩ = some (.int .i64 d1) ∧ w'.cell? ⟨w.heap.size + 1, 0, none⟩ = some (.int .i64 n2) ∧ w'.cell? ⟨w.heap.size + 1, 1, none⟩ = some (.int .i64 d2)) (ds := []) (bs 12 0) (by kernel_rfl) rfl rfl ⟨a0, a1, b0, b1⟩ (fun hHeld => ?_)
 refine zP 0 29 12 1 ?_
 refine zP 2 31 12 5 ?_
 refine zP 5 34 12 37 ?_
 refine zP 7 36 12 165 ?_
 refine zT 1 30 12 167 hHeld ?_
 refine zT 3 32 12 175 hHeld ?_
 refine zT 6 35 12 239 hHeld ?_
 refine zT 8 37 12 495 hHeld ?_
 refine zN 4 (some 33) 12 511 (fun K hK => ?_)
 refine zG Tryz.func81 #[.int .i64 n1, .int .i64 d2] ?_
 with_reducible refine (product_n n1 d2 _ (by omega) (by omega) (by omega) (by omega)).mono ?_
 rintro e w4 ⟨g4, hg4, rfl, hb4, hN4⟩
 refine ⟨_, rfl, ?_⟩
 have hb4' := below_drew' hb4
 refine hK.out _ _ ⟨pw_cell_below hb4' a0, pw_cell_below hb4' a1, pw_cell_below hb4' b0, pw_cell_below hb4' b1⟩ (fun hHeld => ?_)
 clear hK K
 refine zM 33 ?_
 refine zN 9 (some 38) 12 1023 (fun K hK => ?_)
 refine zG Tryz.func81 #[.int .i64 n2, .int .i64 d1] ?_
 with_reducible refine (product_n n2 d1 w4 (by omega) (by omega) (by omega) (by omega)).mono ?_
 rintro e w5 ⟨g5, hg5, rfl, hb5, hN5⟩
 refine ⟨_, rfl, ?_⟩
 have hb45 := hb4'.trans (hb5.mono hb4'.size)
 refine hK.out _ _ ⟨pw_cell_below hb45 a0, pw_cell_below hb45 a1, pw_cell_below hb45 b0, pw_cell_below hb45 b1⟩ (fun hHeld => ?_)
 clear hK K
 refine zM 38 ?_
 refine zN 10 (some 39) 12 2047 (fun K hK => ?_)
 refine zG Tryz.func100 #[.pointer (some ⟨g4, 0, none⟩), .pointer (some ⟨g5, 0, none⟩)] ?_
 with_reducible refine (cmp_n g4 0 g5 0 (n1 * d2) (n2 * d1) 4 4 w5 (hN4.below hb5) hN5 (by decide)).mono ?_
 rintro e w6 ⟨rfl, hb6⟩
 refine ⟨_, rfl, ?_⟩
 have hb46 := hb45.trans (hb6.mono hb45.size)
 refine hK.out _ _ ⟨pw_cell_below hb46 a0, pw_cell_below hb46 a1, pw_cell_below hb46 b0, pw_cell_below hb46 b1⟩ (fun hHeld => ?_)
 clear hK K
 refine zM 39 ?_
 refine zP 11 4 12 4095 ?_
 refine done_ (by kernel_rfl) ?_
 have HB6 := Aside0.mk (HB2.out.below.trans (hb46.mono HB2.out.below.size))
 clear hb46 hb45 hb4 hb4' hb5 hb6 hN4 hN5 a0 a1 b0 b1 HB2 hHeld
 go_wp2
 go_ret
 exact ⟨rfl, HB6.out⟩
theorem xcmp_n (n1 d1 n2 d2 : Int) (w : World) (v1 : valid n1 d1 = true) (v2 : valid n2 d2 = true) :
  Calls Tryz.prog 50 #[tm n1 d1, tm n2 d2] w (ValP w (.int .i64 (cmpI (n1 * d2) (n2 * d1)))) := by
 cases h : (small n1 d1 && small n2 d2) with
 | true =>
  simp only [Bool.and_eq_true] at h
  exact xcmpS_n n1 d1 n2 d2 w h.1 h.2 (valid_bd v1).1 (valid_bd v2).1
 | false => exact xcmpL_n n1 d1 n2 d2 w h v1 v2
end Go.Proofs.YtekommcfpjonmaaGreat.Rc
namespace Go.Proofs.YtekommcfpjonmaaGreat.Rd
open Go.RowKit Go Go.Proofs.YtekommcfpjonmaaGreatW.PrintWords Go.Proofs.YtekommcfpjonmaaGreatW.PrintLast Go.Proofs.YtekommcfpjonmaaGreatW.PrintMore Go.Proofs.YtekommcfpjonmaaGreat.Ml Go.Proofs.YtekommcfpjonmaaGreat.Mn Go.Proofs.YtekommcfpjonmaaGreat.Nd Go.Proofs.YtekommcfpjonmaaGreat.Z Go.Proofs.YtekommcfpjonmaaGreat.P Go.Proofs.YtekommcfpjonmaaGreat.Nc Go.Proofs.YtekommcfpjonmaaGreat.Nb Go.Proofs.YtekommcfpjonmaaGreat.Qa Go.Proofs.YtekommcfpjonmaaGreat.Qb Go.Proofs.YtekommcfpjonmaaGreat.Ea Go.Proofs.YtekommcfpjonmaaGreat.Eb Go.Proofs.YtekommcfpjonmaaGreat.Ec Go.Proofs.YtekommcfpjonmaaGreat.Ed Go.Proofs.YtekommcfpjonmaaGreat.Ee Go.Proofs.YtekommcfpjonmaaGreat.Ra Go.Proofs.YtekommcfpjonmaaGreat.Rb Go.Proofs.YtekommcfpjonmaaGreat.Rc Go.Proofs.YtekommcfpjonmaaGreat.E
set_option linter.unusedVariables false
set_option linter.unusedSimpArgs false
theorem vLow_form (n d : Int) : ∃ N D E, vLow n d = .tuple #[.agg #[.int .i64 N, .int .i64 D], .int .i64 E] := by
 unfold vLow two tm er
 split
 all_goals exact ⟨_, _, _, rfl⟩
theorem ratioV_n (N D E : Int) (gn gd : Nat) (n d : Int) (nn nd : Nat) (w : World) (hV : vLow n d = .tuple #[.agg #[.int .i64 N, .int .i64 D], .int .i64 E]) (hn : IsN w gn 0 n nn) (hd : IsN w gd 0 d nd) (hd0 : d ≠ 0) (hl : nn + nd ≤ 900) :
  Calls Tryz.prog 89 #[.pointer (some ⟨gn, 0, none⟩), .pointer (some ⟨gd, 0, none⟩)] w (ValP w (.tuple #[.agg #[.int .i64 N, .int .i64 D], .int .i64 E])) := hV ▸ ratio_n gn gd n d nn nd w hn hd hd0 hl
theorem _root_.Go.Proofs.YtekommcfpjonmaaGreat.Ee.Boxed.cells {w W : World} {n1 d1 n2 d2 : Int} (h : Boxed w W n1 d1 n2 d2) : W.cell? ⟨w.heap.size, 0, none⟩ = some (.int .i64 n1) ∧ W.cell? ⟨w.heap.size, 1, none⟩ = some (.int .i64 d1) ∧ W.cell? ⟨w.heap.size + 1, 0, none⟩ = some (.int .i64 n2) ∧ W.cell? ⟨w.heap.size + 1, 1, none⟩ = some (.int .i64 d2) := by
 obtain ⟨a0, a1, _, _⟩ := time_cells h.a
 obtain ⟨b0, b1, _, _⟩ := time_cells h.b
 exact ⟨a0, a1, b0, b1⟩
theorem _root_.Go.Proofs.YtekommcfpjonmaaGreat.Ee.Boxed.wrote {w W W2 : World} {n1 d1 n2 d2 : Int} {g o : Nat} (h : Boxed w W n1 d1 n2 d2) (hw : Wrote W W2 g o) (hg : w.heap.size + 1 + 1 + 1 < g) : Boxed w W2 n1 d1 n2 d2 :=
 have f : ∀ k, k ≤ w.heap.size + 1 + 1 + 1 → ∀ o, W.heap[k]? = some o → W2.heap[k]? = some o := fun k hk o ho => (hw.other k (lt_of_some ho) (by omega)).trans ho
 ⟨f _ (by omega) _ h.a, f _ (by omega) _ h.b, f _ (by omega) _ h.r, f _ (by omega) _ h.s, h.below.trans (hw.below (by omega) h.below.size)⟩
theorem _root_.Go.Proofs.YtekommcfpjonmaaGreat.Ee.Boxed.top {w W : World} {n1 d1 n2 d2 : Int} (h : Boxed w W n1 d1 n2 d2) : w.heap.size + 1 + 1 + 1 < W.heap.size := lt_of_some h.s
theorem mul_pos' {a b : Int} (ha : 1 ≤ a) (hb : 1 ≤ b) : a * b ≠ 0 := by
 have := Int.mul_le_mul_of_nonneg_right ha (show 0 ≤ b by omega)
 omega
set_option maxHeartbeats 8000000 in
set_option maxRecDepth 100000 in
theorem addSx_n (n1 d1 n2 d2 : Int) (w : World) (h1 : small n1 d1 = true) (h2 : small n2 d2 = true) (p1 : 1 ≤ d1) (p2 : 1 ≤ d2) (N D : Int) (hN : N = lowN (n1 * d2 + n2 * d1) (d1 * d2)) (hD : D = lowD (n1 * d2 + n2 * d1) (d1 * d2)) (hv : valid N D = false) :
  Calls Tryz.prog 39 #[tm n1 d1, tm n2 d2] w (ValP w (two (tm 0 0) (er 2))) := by
 have hu := Tryz.underlying24
 have hB := Aside0.mk (Boxed.start w n1 d1 n2 d2)
 have hs1 : (n1 < 1073741824 ∧ -1073741824 < n1) ∧ d1 < 1073741824 := by unfold small at h1; simpa using h1
 have hs2 : (n2 < 1073741824 ∧ -1073741824 < n2) ∧ d2 < 1073741824 := by unfold small at h2; simpa using h2
 obtain ⟨x1, x2⟩ := mul_bd hs1.1.2 hs1.1.1 p2 hs2.2
 obtain ⟨y1, y2⟩ := mul_bd hs2.1.2 hs2.1.1 p1 hs1.2
 obtain ⟨z1, z2⟩ := mul_bd (a := d1) (by omega) hs1.2 p2 hs2.2
 have z3 : 1 ≤ d1 * d2 := by have := Int.mul_le_mul_of_nonneg_right p1 (show 0 ≤ d2 by omega); omega
 obtain ⟨k, hk⟩ := lowest_f (n1 * d2 + n2 * d1) (d1 * d2) (by omega) (by omega) z3 (by omega)
 rw [← hN, ← hD] at hk
 have HK := Aside0.mk hk
 clear hs1 hs2 hk hN hD
 unfold two tm er
 go_enter Tryz.func39, Tryz.ntmps39
 go_wp2_with fail
 generalize hW : World.alloc (World.alloc _ _) _ = W
 have HB := Aside0.mk (show Boxed w W n1 d1 n2 d2 by rw [← hW]; exact hB.out)
 clear hW hB
 refine (little2_n _ n1 d1 n2 d2 W HB.out.s).mono ?_
 rintro e w2 ⟨rfl, hb2⟩
 rw [h1, h2]
 have HB2 := Aside0.mk (HB.out.step hb2)
 clear hb2 HB
 obtain ⟨a0, a1, b0, b1⟩ := HB2.out.cells
 go_wp2_with fail
 refine (exact_lowest.calls k (n1 * d2 + n2 * d1) (d1 * d2) N D _ HK.out).mono ?_
 rintro e w3 ⟨rfl, hb3⟩
 have HB3 := Aside0.mk (HB2.out.step hb3)
 clear hb3 HB2 a0 a1 b0 b1
 go_wp2_with fail
 have hq := blk_new w3 (timeObj N D)
 have hb4 : Below w3.heap.size w3 (w3.alloc (timeObj N D)) := below_alloc (Below.refl _ w3) _
 refine (Valid_n N D _).mono ?_
 rintro e w5 ⟨rfl, hb5⟩
 rw [hv]
 have HB5 := Aside0.mk ((HB3.out.step hb4).step hb5)
 have hq5 := blk_below hq hb5
 obtain ⟨q0, q1, q2, q3⟩ := time_cells hq5
 obtain ⟨r0, r1, r2, r3⟩ := time_cells HB5.out.r
 clear hb4 hb5 hq hq5 HB3
 go_wp2_with fail
 refine bodyPost_ret (results_ct rfl _ _ (w.heap.size + 1 + 1) 24 #[.int .i64 0, .int .i64 0] (0, 0) _ rfl (blk_two HB5.out.r) Tryz.underlying24 rfl (by kernel_rfl)) rfl ?_
 exact ⟨rfl, (HB5.out.below.setCell (by simp; omega) _).setCell (by simp; omega) _⟩
set_option maxHeartbeats 8000000 in
set_option maxRecDepth 100000 in
theorem addL_n (n1 d1 n2 d2 : Int) (w : World) (hl : (small n1 d1 && small n2 d2) = false) (v1 : valid n1 d1 = true) (v2 : valid n2 d2 = true) :
  Calls Tryz.prog 39 #[tm n1 d1, tm n2 d2] w (ValP w (vLow (n1 * d2 + n2 * d1) (d1 * d2))) := by
 have hu := Tryz.underlying24
 have hB := Aside0.mk (Boxed.start w n1 d1 n2 d2)
 have q1 := valid_bd v1
 have q2 := valid_bd v2
 have hdd := mul_pos' q1.1 q2.1
 obtain ⟨N, D, E, hV⟩ := vLow_form (n1 * d2 + n2 * d1) (d1 * d2)
 have HV := Aside0.mk hV
 rw [hV]
 clear hV
 unfold tm
 go_enter Tryz.func39, Tryz.ntmps39
 go_wp2_with fail
 generalize hW : World.alloc (World.alloc _ _) _ = W
 have HB := Aside0.mk (show Boxed w W n1 d1 n2 d2 by rw [← hW]; exact hB.out)
 clear hW hB
 refine (little2_n _ n1 d1 n2 d2 W HB.out.s).mono ?_
 rintro e w2 ⟨rfl, hb2⟩
 rw [hl]
 have HB2 := Aside0.mk (HB.out.step hb2)
 clear hb2 HB
 obtain ⟨a0, a1, b0, b1⟩ := HB2.out.cells
 go_wp2_with fail
 refine (product_n n1 d2 _ (by omega) (by omega) (by omega) (by omega)).mono ?_
 rintro e w3 ⟨g3, hg3, rfl, hb3, hN3⟩
 have HB3 := Aside0.mk (HB2.out.step hb3)
 have H3 := Aside0.mk hN3
 obtain ⟨c0, c1, c2, c3⟩ := HB3.out.cells
 have hg3' := HB2.out.top
 clear hb3 hN3 HB2 a0 a1 b0 b1
 go_wp2_with fail
 refine start_ (n := 18) (S := fun w' => w'.cell? ⟨w.heap.size, 0, none⟩ = some (.int .i64 n1) ∧ w'.cell? ⟨w.heap.size, 1, none⟩ = some (.int .i64 d1) ∧ w'.cell? ⟨w.heap.size + 1, 0, none⟩ = some (.int .i64 n2) ∧ w'.cell? ⟨w.heap.size + 1, 1, none⟩ = some (.int .i64 d2)) (ds := [16]) (bs 18 0) (by kernel_rfl) rfl rfl (HB3.out.step (below_drew' (Below.refl _ _))).cells (fun hHeld => ?_)
 refine zP 0 39 18 1 ?_
 refine zP 1 40 18 3 ?_
 refine zP 2 41 18 7 ?_
 refine zP 4 43 18 23 ?_
 refine zP 8 47 18 279 ?_
 refine zP 10 49 18 1303 ?_
 refine zT 3 42 18 1311 hHeld ?_
 refine zT 5 44 18 1343 hHeld ?_
 refine zT 9 48 18 1855 hHeld ?_
 refine zT 11 50 18 3903 hHeld ?_
 refine zN 6 (some 45) 18 3967 (fun K hK => ?_)
 refine zG Tryz.func81 #[.int .i64 n2, .int .i64 d1] ?_
 with_reducible refine (product_n n2 d1 _ (by omega) (by omega) (by omega) (by omega)).mono ?_
 rintro e w4 ⟨g4, hg4, rfl, hb4, hN4⟩
 refine ⟨_, rfl, ?_⟩
 have hb4' := below_drew' hb4
 have hB4 := HB3.out.step hb4'
 refine hK.out _ _ hB4.cells (fun hHeld => ?_)
 clear hK K
 refine zM 45 ?_
 refine zN 7 (some 46) 18 4095 (fun K hK => ?_)
 refine zG Tryz.func90 #[.pointer (some ⟨g3, 0, none⟩), .pointer (some ⟨g3, 0, none⟩), .pointer (some ⟨g4, 0, none⟩)] ?_
 with_reducible refine (add_n g3 0 g3 0 g4 0 (n1 * d2) (n2 * d1) 4 4 w4 (H3.out.below hb4').room (H3.out.below hb4') hN4.w (by decide)).mono ?_
 rintro e w5 ⟨rfl, hw5, hN5⟩
 refine ⟨_, rfl, ?_⟩
 have hB5 := hB4.wrote hw5 (by omega)
 refine hK.out _ _ hB5.cells (fun hHeld => ?_)
 clear hK K
 refine zM 46 ?_
 refine zN 12 (some 51) 18 8191 (fun K hK => ?_)
 refine zG Tryz.func81 #[.int .i64 d1, .int .i64 d2] ?_
 with_reducible refine (product_n d1 d2 _ (by omega) (by omega) (by omega) (by omega)).mono ?_
 rintro e w6 ⟨g6, hg6, rfl, hb6, hN6⟩
 refine ⟨_, rfl, ?_⟩
 have hB6 := hB5.step hb6
 refine hK.out _ _ hB6.cells (fun hHeld => ?_)
 clear hK K
 refine zM 51 ?_
 refine zN 13 (some 52) 18 16383 (fun K hK => ?_)
 refine zG Tryz.func89 #[.pointer (some ⟨g3, 0, none⟩), .pointer (some ⟨g6, 0, none⟩)] ?_
 with_reducible refine (ratioV_n N D E g3 g6 (n1 * d2 + n2 * d1) (d1 * d2) _ 4 w6 HV.out (hN5.below hb6) hN6 hdd (by decide)).mono ?_
 rintro e w7 ⟨rfl, hb7⟩
 refine ⟨_, rfl, ?_⟩
 have hB7 := hB6.step hb7
 refine hK.out _ _ hB7.cells (fun hHeld => ?_)
 clear hK K
 refine zM 52 ?_
 refine zP 14 53 18 32767 ?_
 refine zP 15 54 18 65535 ?_
 refine zL 16 none 18 131071 (fun K hK => ?_)
 obtain ⟨r0, r1, r2, r3⟩ := time_cells hB7.r
 refine skip_ (w1 := ?_) (by rfl) rfl ?_ ?_
 rotate_left
 ·(go_simp; with_reducible rfl)
 refine hK.out _ _ ?_
 clear hK K
 refine zP 17 5 18 262143 ?_
 refine done_ (by kernel_rfl) ?_
 have HB7 := Aside0.mk hB7
 go_wp2
 refine bodyPost_ret (results_ct rfl _ _ (w.heap.size + 1 + 1) 24 #[.int .i64 N, .int .i64 D] (0, 0) _ rfl (blk_two HB7.out.r) Tryz.underlying24 rfl (by kernel_rfl)) rfl ?_
 exact ⟨rfl, (HB7.out.below.setCell (by simp; omega) _).setCell (by simp; omega) _⟩
theorem ratN_pos {n d : Int} (hd : 0 < d) : ratN n d = lowN n d ∧ ratD n d = lowD n d := by
 unfold ratN ratD
 rw [if_neg (by omega), if_neg (by omega)]
 exact ⟨rfl, rfl⟩
theorem xadd_n (n1 d1 n2 d2 : Int) (w : World) (v1 : valid n1 d1 = true) (v2 : valid n2 d2 = true) :
  Calls Tryz.prog 39 #[tm n1 d1, tm n2 d2] w (ValP w (vLow (n1 * d2 + n2 * d1) (d1 * d2))) := by
 cases h : (small n1 d1 && small n2 d2) with
 | false => exact addL_n n1 d1 n2 d2 w h v1 v2
 | true =>
  simp only [Bool.and_eq_true] at h
  have q1 := valid_bd v1
  have q2 := valid_bd v2
  have hd : 0 < d1 * d2 := Int.mul_pos (by omega) (by omega)
  unfold vLow
  rw [(ratN_pos (n := n1 * d2 + n2 * d1) hd).1, (ratN_pos (n := n1 * d2 + n2 * d1) hd).2]
  split
  ·next hv => exact addS_n n1 d1 n2 d2 w h.1 h.2 q1.1 q2.1 _ _ rfl rfl hv
  ·next hv => exact addSx_n n1 d1 n2 d2 w h.1 h.2 q1.1 q2.1 _ _ rfl rfl (by simpa using hv)
def vAdd (n1 d1 n2 d2 : Int) : Value := if valid n1 d1 && valid n2 d2 then vLow (n1 * d2 + n2 * d1) (d1 * d2) else two (tm 0 0) (er 4)
def vSub (n1 d1 n2 d2 : Int) : Value := if valid n1 d1 && valid n2 d2 then vLow (n1 * d2 + -n2 * d1) (d1 * d2) else two (tm 0 0) (er 4)
set_option maxHeartbeats 8000000 in
set_option maxRecDepth 100000 in
theorem Add_n (n1 d1 n2 d2 : Int) (w : World) :
  Calls Tryz.prog 26 #[tm n1 d1, tm n2 d2] w (ValP w (vAdd n1 d1 n2 d2)) := by
 have hu := Tryz.underlying24
 have hB := Aside0.mk (Boxed.start w n1 d1 n2 d2)
 cases hv : (valid n1 d1 && valid n2 d2) with
 | false =>
  rw [show vAdd n1 d1 n2 d2 = .tuple #[.agg #[.int .i64 0, .int .i64 0], .int .i64 4] by unfold vAdd; rw [hv]; rfl]
  unfold tm
  go_enter Tryz.func26, Tryz.ntmps26
  go_wp2_with fail
  generalize hW : World.alloc (World.alloc _ _) _ = W
  have HB := Aside0.mk (show Boxed w W n1 d1 n2 d2 by rw [← hW]; exact hB.out)
  clear hW hB
  refine (valid2_n _ n1 d1 n2 d2 W HB.out.s).mono ?_
  rintro e w2 ⟨rfl, hb2⟩
  rw [hv]
  have HB2 := Aside0.mk (HB.out.step hb2)
  clear hb2 HB
  obtain ⟨r0, r1, r2, r3⟩ := time_cells HB2.out.r
  go_wp2_with fail
  refine bodyPost_ret (results_ct rfl _ _ (w.heap.size + 1 + 1) 24 #[.int .i64 0, .int .i64 0] (0, 0) _ rfl (blk_two HB2.out.r) Tryz.underlying24 rfl (by kernel_rfl)) rfl ?_
  exact ⟨rfl, (HB2.out.below.setCell (by simp; omega) _).setCell (by simp; omega) _⟩
 | true =>
  have hv2 := hv
  simp only [Bool.and_eq_true] at hv2
  have q1 := valid_bd hv2.1
  have q2 := valid_bd hv2.2
  obtain ⟨N, D, E, hV⟩ := vLow_form (n1 * d2 + n2 * d1) (d1 * d2)
  have hC := fun w => xadd_n n1 d1 (n2) d2 w hv2.1 hv2.2
  rw [hV] at hC
  rw [show vAdd n1 d1 n2 d2 = .tuple #[.agg #[.int .i64 N, .int .i64 D], .int .i64 E] by unfold vAdd; rw [hv, ← hV]; rfl]
  have HC := Aside0.mk hC
  clear hC hV hv2
  unfold tm at HC
  unfold tm
  go_enter Tryz.func26, Tryz.ntmps26
  go_wp2_with fail
  generalize hW : World.alloc (World.alloc _ _) _ = W
  have HB := Aside0.mk (show Boxed w W n1 d1 n2 d2 by rw [← hW]; exact hB.out)
  clear hW hB
  refine (valid2_n _ n1 d1 n2 d2 W HB.out.s).mono ?_
  rintro e w2 ⟨rfl, hb2⟩
  rw [hv]
  have HB2 := Aside0.mk (HB.out.step hb2)
  clear hb2 HB
  obtain ⟨a0, a1, b0, b1⟩ := HB2.out.cells
  go_wp2_with fail
  refine (HC.out _).mono ?_
  rintro e w3 ⟨rfl, hb3⟩
  have HB3 := Aside0.mk (HB2.out.step hb3)
  obtain ⟨r0, r1, r2, r3⟩ := time_cells HB3.out.r
  clear hb3 HB2 a0 a1 b0 b1
  go_wp2_with fail
  refine bodyPost_ret (results_ct rfl _ _ (w.heap.size + 1 + 1) 24 #[.int .i64 N, .int .i64 D] (0, 0) _ rfl (blk_two HB3.out.r) Tryz.underlying24 rfl (by kernel_rfl)) rfl ?_
  exact ⟨rfl, (HB3.out.below.setCell (by simp; omega) _).setCell (by simp; omega) _⟩
end Go.Proofs.YtekommcfpjonmaaGreat.Rd
namespace Go.Proofs.YtekommcfpjonmaaGreat.Xv
open Go.RowKit Go Go.Proofs.YtekommcfpjonmaaGreatW.PrintWords Go.Proofs.YtekommcfpjonmaaGreatW.PrintLast Go.Proofs.YtekommcfpjonmaaGreatW.PrintMore Go.Proofs.YtekommcfpjonmaaGreat.Ml Go.Proofs.YtekommcfpjonmaaGreat.Mn Go.Proofs.YtekommcfpjonmaaGreat.Nd Go.Proofs.YtekommcfpjonmaaGreat.Z Go.Proofs.YtekommcfpjonmaaGreat.Ea Go.Proofs.YtekommcfpjonmaaGreat.Eb Go.Proofs.YtekommcfpjonmaaGreat.Ed Go.Proofs.YtekommcfpjonmaaGreat.Ee Go.Proofs.YtekommcfpjonmaaGreat.Rf Go.Proofs.YtekommcfpjonmaaGreat.Rc Go.Proofs.YtekommcfpjonmaaGreat.Rd Go.Proofs.YtekommcfpjonmaaGreat.E Go.Proofs.YtekommcfpjonmaaGreat.Sg Go.Proofs.YtekommcfpjonmaaGreat.Sx Go.Proofs.YtekommcfpjonmaaGreat.Sy
set_option linter.unusedVariables false
set_option linter.unusedSimpArgs false
theorem q_lt {a b c d : Int} (hb : 0 < b) (hd : 0 < d) : qq a b < qq c d ↔ a * d < c * b := by
 obtain ⟨g, hg, e1, e2⟩ := parts (a := a) hb
 obtain ⟨h, hh, e3, e4⟩ := parts (a := c) hd
 rw [Rat.lt_iff]
 generalize (qq a b).num = N1 at *
 generalize ((qq a b).den : Int) = D1 at *
 generalize (qq c d).num = N2 at *
 generalize ((qq c d).den : Int) = D2 at *
 subst e1 e2 e3 e4
 have k1 : N1 * g * (D2 * h) = N1 * D2 * (g * h) := by grind
 have k2 : N2 * h * (D1 * g) = N2 * D1 * (g * h) := by grind
 rw [k1, k2]
 exact (Int.mul_lt_mul_right (Int.mul_pos hg hh)).symm
theorem cmp_qT {a b : Tm} (ha : vT a = true) (hb : vT b = true) : cmpI (a.f0 * b.f1) (b.f0 * a.f1) = cmpQ (qT a) (qT b) := by
 have h1 := (vT_is ha).2.1
 have h2 := (vT_is hb).2.1
 unfold cmpI cmpQ qT
 simp only [q_lt (a := a.f0) (c := b.f0) (show 0 < a.f1 by omega) (show 0 < b.f1 by omega), q_lt (a := b.f0) (c := a.f0) (show 0 < b.f1 by omega) (show 0 < a.f1 by omega)]
theorem cmpT_n {a b : Tm} (ha : vT a = true) (hb : vT b = true) (w : World) : Calls Tryz.prog 50 #[.agg #[.int .i64 a.f0, .int .i64 a.f1], .agg #[.int .i64 b.f0, .int .i64 b.f1]] w (ValP w (.int .i64 (cmpQ (qT a) (qT b)))) := by
 have h := xcmp_n a.f0 a.f1 b.f0 b.f1 w ha hb
 rw [cmp_qT ha hb] at h
 exact h
theorem cq_lt {p q : Rat} (h : p < q) : cmpQ p q = -1 := if_pos h
theorem cq_ge {p q : Rat} (h : ¬ p < q) : ∃ c : Int, 0 ≤ c ∧ cmpQ p q = c := ⟨_, by unfold cmpQ; rw [if_neg h]; split <;> decide, rfl⟩
theorem cq_gt {p q : Rat} (h : q < p) : cmpQ p q = 1 := by unfold cmpQ; rw [if_neg (by grind), if_pos h]
theorem cq_le {p q : Rat} (h : ¬ q < p) : ∃ c : Int, c ≤ 0 ∧ cmpQ p q = c := ⟨_, by unfold cmpQ; rw [if_neg h]; split <;> decide, rfl⟩
theorem sn_cells {w : World} {g : Nat} {t : TypeId} {a b c d : Value} (h : w.heap[g]? = some (.cells #[a, b, c, d] t (0, 0))) : w.cell? ⟨g, 0, none⟩ = some a ∧ w.cell? ⟨g, 1, none⟩ = some b ∧ w.cell? ⟨g, 2, none⟩ = some c ∧ w.cell? ⟨g, 3, none⟩ = some d :=
 ⟨(blk_cell h 0).trans rfl, (blk_cell h 1).trans rfl, (blk_cell h 2).trans rfl, (blk_cell h 3).trans rfl⟩
theorem any_drop (p : Sn → Bool) (l : List Sn) {i : Int} (h0 : 0 ≤ i) (h1 : i < (l.length : Int)) : (l.drop i.toNat).any p = (p (rd_T53 l i) || (l.drop (i + 1).toNat).any p) ∧ rd_T53 l i ∈ l := by
 have hn : i.toNat < l.length := by omega
 have hi : (i + 1).toNat = i.toNat + 1 := by omega
 have hg : rd_T53 l i = l[i.toNat] := by
  unfold rd_T53
  rw [List.getD_eq_getElem?_getD, List.getElem?_eq_getElem hn]
  rfl
 rw [hi, hg, List.drop_eq_getElem_cons hn]
 exact ⟨rfl, List.getElem_mem hn⟩
set_option maxHeartbeats 4000000 in
set_option maxRecDepth 100000 in
theorem index0_n (F : Nat) (p : Sn → Bool) (A : Option Addr) (c : Nat) (l : List Sn) (w : World) (hr : Kd.C k53 w A l.length l) (hl : l.length ≤ 1000000) (hE : ∀ args w, Sem.run Tryz.prog (callFunc F args) w = .ok (.enter F args) w)
  (hF : ∀ x ∈ l, ∀ W, Below w.heap.size w W → Calls Tryz.prog F #[.agg #[.int .i64 x.f0.f0, .int .i64 x.f0.f1, .int .i64 x.f1.f0, .int .i64 x.f1.f1]] W (ValP W (.bool (p x)))) :
  Calls Tryz.prog 99 #[.slice A l.length c, .func (.func F) #[] #[]] w (fun e w' => ∃ i : Int, e = .returned (.int .i64 i) ∧ decide (0 ≤ i) = l.any p ∧ Below w.heap.size w w') := by
 have hu := Tryz.underlying53
 have HR := Aside0.mk (And.intro hr hF)
 have HL := Aside0.mk hl
 clear hr hF hl
 go_enter Tryz.func99, Tryz.ntmps99
 go_wp2_with fail
 go_loopg [8] l.length (fun kq v8 w' => ∃ i : Int, v8 = .int .i64 i ∧ Aside0 (0 ≤ i ∧ i + kq = l.length ∧ l.any p = (l.drop i.toNat).any p) ∧ Aside0 (Below w.heap.size w w'))
 case atStart => exact ⟨0, rfl, ⟨by simp, by simp, by simp⟩, ⟨Below.refl _ _⟩⟩
 case round =>
  obtain ⟨i, rfl, hi, HB⟩ := hrel
  by_cases hlt : i < (l.length : Int)
  ·have hlb : decide (i < (l.length : Int)) = true := decide_eq_true hlt
   have p0 := hi.out.1
   obtain ⟨ad, hA, q0, q1, q2, q3⟩ := at_T53 (Kd.C_below HR.out.1 HB.out) i p0 hlt
   have HD := Aside0.mk (any_drop p l p0 hlt)
   obtain ⟨k1, rfl⟩ : ∃ k, gk = k + 1 := ⟨gk - 1, by have := hi.out; omega⟩
   have HW := Aside0.mk (And.intro (show wrap64 (i + 1) = i + 1 by have := HL.out; exact w64 (by omega) (by omega)) (show 0 ≤ i + 1 ∧ i + 1 + (k1 : Int) = l.length by have := hi.out.2.1; omega))
   have HF := Aside0.mk (HR.out.2 _ HD.out.2 wr HB.out)
   have HI := Aside0.mk hi.out
   subst hA
   generalize rd_T53 l i = X at *
   have hp0 := p0
   replace p0 := eq_true p0
   replace hlt := eq_true hlt
   clear hi
   go_wp2_with fail
   refine HF.out.mono ?_
   rintro e w2 ⟨rfl, hb2⟩
   have HB2 := Aside0.mk (HB.out.trans (hb2.mono HB.out.size))
   clear hb2 HF q0 q1 q2 q3
   obtain ⟨b, hb⟩ : ∃ b : Bool, b = p X := ⟨_, rfl⟩
   rw [← hb]
   cases b with
   | true =>
    have Hb := Aside0.mk hb
    clear hb
    go_wp2_with fail
    go_ret
    exact ⟨_, rfl, by rw [HI.out.2.2, HD.out.1, ← Hb.out, Bool.true_or]; exact decide_eq_true hp0, HB2.out⟩
   | false =>
    have Hb := Aside0.mk hb
    clear hb
    go_wp2_with fail
    go_roundg k1
    case measure => omega
    case rel => exact ⟨i + 1, by rw [HW.out.1], ⟨HW.out.2.1, HW.out.2.2, by rw [HI.out.2.2, HD.out.1, ← Hb.out, Bool.false_or]⟩, ⟨HB2.out⟩⟩
  ·have hlb : decide (i < (l.length : Int)) = false := decide_eq_false hlt
   have HV := Aside0.mk (show l.any p = false by rw [hi.out.2.2, List.drop_of_length_le (by have := hi.out; omega)]; rfl)
   replace hlt := eq_false hlt
   clear hi
   go_wp2_with fail
   go_ret
   exact ⟨-1, rfl, by rw [HV.out]; rfl, HB.out⟩
set_option maxHeartbeats 1000000 in
theorem has0_n (F : Nat) (p : Sn → Bool) (A : Option Addr) (c : Nat) (l : List Sn) (w : World) (hr : Kd.C k53 w A l.length l) (hl : l.length ≤ 1000000) (hE : ∀ args w, Sem.run Tryz.prog (callFunc F args) w = .ok (.enter F args) w)
  (hF : ∀ x ∈ l, ∀ W, Below w.heap.size w W → Calls Tryz.prog F #[.agg #[.int .i64 x.f0.f0, .int .i64 x.f0.f1, .int .i64 x.f1.f0, .int .i64 x.f1.f1]] W (ValP W (.bool (p x)))) :
  Calls Tryz.prog 48 #[.slice A l.length c, .func (.func F) #[] #[]] w (ValP w (.bool (l.any p))) := by
 have HX := Aside0.mk (index0_n F p A c l w hr hl hE hF)
 clear hr hF hl
 go_enter Tryz.func48, Tryz.ntmps48
 go_wp2_with fail
 refine HX.out.mono ?_
 rintro e w2 ⟨i, rfl, hi, hb2⟩
 have HI := Aside0.mk hi
 clear hi
 go_wp2_with fail
 go_ret
 exact ⟨ret_b (by rw [← HI.out]), hb2⟩
structure Bs (w W : World) (s : Sn) : Prop where
 c : W.heap[w.heap.size]? = some (.cells #[.int .i64 s.f0.f0, .int .i64 s.f0.f1, .int .i64 s.f1.f0, .int .i64 s.f1.f1] 53 (0, 0))
 below : Below w.heap.size w W
theorem Bs.start (w : World) (s : Sn) : Bs w (w.alloc (.cells #[.int .i64 s.f0.f0, .int .i64 s.f0.f1, .int .i64 s.f1.f0, .int .i64 s.f1.f1] 53 (0, 0))) s := ⟨blk_new w _, below_alloc (Below.refl _ w) _⟩
theorem Bs.step {w W W2 : World} {s : Sn} (h : Bs w W s) (hb : Below W.heap.size W W2) : Bs w W2 s := ⟨blk_below h.c hb, h.below.trans (hb.mono h.below.size)⟩
set_option maxHeartbeats 4000000 in
set_option maxRecDepth 100000 in
theorem bad_n (s : Sn) (w : World) : Calls Tryz.prog 86 #[.agg #[.int .i64 s.f0.f0, .int .i64 s.f0.f1, .int .i64 s.f1.f0, .int .i64 s.f1.f1]] w (ValP w (.bool (!vS s))) := by
 have hu := Tryz.underlying53
 have hu2 := Tryz.underlying24
 have hB := Aside0.mk (Bs.start w s)
 go_enter Tryz.func86, Tryz.ntmps86
 go_upto_region 1 with fail
 generalize World.alloc w _ = W at *
 obtain ⟨q0, q1, q2, q3⟩ := sn_cells hB.out.c
 have hp := Aside0.mk (show Pair (W.alloc (.cells #[.int .i64 s.f0.f0, .int .i64 s.f0.f1, .int .i64 s.f1.f0, .int .i64 s.f1.f1] 24 (0, 0))) W.heap.size s.f0.f0 s.f0.f1 s.f1.f0 s.f1.f1 from blk_new W _)
 have hB2 := Aside0.mk (hB.out.step (below_alloc (Below.refl W.heap.size W) (.cells #[.int .i64 s.f0.f0, .int .i64 s.f0.f1, .int .i64 s.f1.f0, .int .i64 s.f1.f1] 24 (0, 0))))
 go_wp2_with fail
 generalize World.alloc W _ = W2 at *
 refine (valid2_n W.heap.size s.f0.f0 s.f0.f1 s.f1.f0 s.f1.f1 W2 hp.out).mono ?_
 rintro e w3 ⟨rfl, hb3⟩
 have hB3 := Aside0.mk (hB2.out.step hb3)
 clear hb3 hB2 hB hp q0 q1 q2 q3
 obtain ⟨q0, q1, q2, q3⟩ := sn_cells hB3.out.c
 obtain ⟨b, hb⟩ : ∃ b : Bool, b = (valid s.f0.f0 s.f0.f1 && valid s.f1.f0 s.f1.f1) := ⟨_, rfl⟩
 rw [← hb]
 cases b with
 | false =>
  have HV := Aside0.mk (show (!vS s) = true by
   unfold vS vT
   rw [← Bool.and_assoc, ← hb]
   rfl)
  clear hb
  go_wp2_with fail
  go_ret
  exact ⟨ret_b HV.out.symm, hB3.out.below⟩
 | true =>
  have h2 : vT s.f0 = true ∧ vT s.f1 = true := by
   have := hb.symm
   simp only [Bool.and_eq_true] at this
   exact this
  have HV := Aside0.mk (show (!vS s) = decide (qT s.f1 < qT s.f0) by
   unfold vS
   rw [h2.1, h2.2]
   simp)
  have HT := Aside0.mk h2
  clear hb h2
  go_wp2_with fail
  refine (cmpT_n HT.out.2 HT.out.1 w3).mono ?_
  rintro e w4 ⟨rfl, hb4⟩
  have hB4 := Aside0.mk (hB3.out.step hb4)
  clear hb4 q0 q1 q2 q3 hB3
  by_cases hc : qT s.f1 < qT s.f0
  ·rw [cq_lt hc]
   rw [decide_eq_true hc] at HV
   clear hc
   go_wp2_with fail
   go_ret
   exact ⟨ret_b HV.out.symm, hB4.out.below⟩
  ·obtain ⟨c, hc0, ec⟩ := cq_ge hc
   rw [ec]
   rw [decide_eq_false hc] at HV
   have hd : decide (c < 0) = false := decide_eq_false (by omega)
   clear hc ec
   go_wp2_with fail
   go_ret
   exact ⟨ret_b HV.out.symm, hB4.out.below⟩
set_option maxHeartbeats 1000000 in
theorem validSpans_n (A : Option Addr) (c : Nat) (l : List Sn) (w : World) (hr : Kd.C k53 w A l.length l) (hl : l.length ≤ 1000000) :
  Calls Tryz.prog 37 #[.slice A l.length c] w (ValP w (.bool (allV l))) := by
 have HX := Aside0.mk (has0_n 86 (fun x => !vS x) A c l w hr hl (enters_of Tryz.func86 (by kernel_rfl) rfl) (fun x _ W _ => bad_n x W))
 have HV := Aside0.mk (show allV l = !(l.any (fun x => !vS x)) by
  unfold allV
  rw [List.any_eq_not_all_not]
  simp)
 generalize allV l = V at *
 clear hr hl
 go_enter Tryz.func37, Tryz.ntmps37
 go_wp2_with fail
 refine HX.out.mono ?_
 rintro e w2 ⟨rfl, hb2⟩
 generalize l.any (fun x => !vS x) = b at *
 go_wp2_with fail
 go_ret
 exact ⟨ret_b HV.out.symm, hb2⟩
end Go.Proofs.YtekommcfpjonmaaGreat.Xv

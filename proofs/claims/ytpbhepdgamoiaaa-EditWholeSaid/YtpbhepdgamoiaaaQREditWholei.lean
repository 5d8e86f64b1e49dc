/-
  What a list by other clocks and a faster list show. Two lists that show the same are seen to. What is left of a list between two ticks, as a plain value, and that the code tells it. Lists put behind one another: slices.Grow and Concat, and what stands on them. slices.Repeat, and edit.Repeat on it. Division by a number above 0. edit.Whole: what a track shows, as a list. The reference's Whole. What comes in, opened by kinds: whole numbers, bools, strings, rows and structures, one in another. What any track shows, as a list: as the reference says.
-/
import Derived.Test.YtpbhepdgamoiaaaQREditWholeh
import Derived.Outline
import Derived.Laws.IdiomCopy
import Derived.Laws.MathBits
import Derived.IntWalk
import Derived.Test.YtpbhepdgamoiaaaQREditWholeb
import Derived.Test.YtpbhepdgamoiaaaQREditWholec
import Derived.Lib.SliceRun
import Derived.Test.YtpbhepdgamoiaaaQREditWholea
import Derived.Test.YtpbhepdgamoiaaaQREditWholed
import Derived.Test.YtpbhepdgamoiaaaQREditWholee
import Derived.Test.YtpbhepdgamoiaaaChecked
import Derived.Test.YtpbhepdgamoiaaaQREditWholeWWords
import Derived.Lib.SmallJoins
import Derived.ProofKit
import Derived.Deep.Slices
import Derived.Deep.Fields
import Derived.ChangeSame
namespace Go.Proofs.Ytpbhepdgamoiaaa.So
open Go.RowKit Go Go.Proofs.Ytpbhepdgamoiaaa.Rf Go.Proofs.Ytpbhepdgamoiaaa.Er Go.Proofs.Ytpbhepdgamoiaaa.Ek Go.Proofs.Ytpbhepdgamoiaaa.Et Go.Proofs.Ytpbhepdgamoiaaa.Ew Go.Proofs.Ytpbhepdgamoiaaa.E Go.Proofs.Ytpbhepdgamoiaaa.Pe Go.Proofs.Ytpbhepdgamoiaaa.Pf Go.Proofs.Ytpbhepdgamoiaaa.Qr Go.Proofs.Ytpbhepdgamoiaaa.Qn Go.Proofs.Ytpbhepdgamoiaaa.Qw Go.Proofs.Ytpbhepdgamoiaaa.Fr Go.Proofs.Ytpbhepdgamoiaaa.Cl Go.Proofs.Ytpbhepdgamoiaaa.Nm
set_option linter.unusedVariables false
set_option linter.unusedSimpArgs false
end Go.Proofs.Ytpbhepdgamoiaaa.So
namespace Go.Proofs.Ytpbhepdgamoiaaa.Sw
open Go.RowKit Go Go.Proofs.Ytpbhepdgamoiaaa.Rf Go.Proofs.Ytpbhepdgamoiaaa.Er Go.Proofs.Ytpbhepdgamoiaaa.Ek Go.Proofs.Ytpbhepdgamoiaaa.Et Go.Proofs.Ytpbhepdgamoiaaa.E Go.Proofs.Ytpbhepdgamoiaaa.Pe Go.Proofs.Ytpbhepdgamoiaaa.Pf Go.Proofs.Ytpbhepdgamoiaaa.Nm
set_option linter.unusedVariables false
set_option linter.unusedSimpArgs false
end Go.Proofs.Ytpbhepdgamoiaaa.Sw
namespace Go.Proofs.Ytpbhepdgamoiaaa.Ct
open Go.RowKit Go Go.Proofs.YtpbhepdgamoiaaaW.PrintWords Go.Proofs.YtpbhepdgamoiaaaW.PrintLast Go.Proofs.YtpbhepdgamoiaaaW.PrintMore Go.Proofs.Ytpbhepdgamoiaaa.Mn Go.Proofs.Ytpbhepdgamoiaaa.Rf Go.Proofs.Ytpbhepdgamoiaaa.Er Go.Proofs.Ytpbhepdgamoiaaa.Ek Go.Proofs.Ytpbhepdgamoiaaa.Et Go.Proofs.Ytpbhepdgamoiaaa.Ew Go.Proofs.Ytpbhepdgamoiaaa.E Go.Proofs.Ytpbhepdgamoiaaa.Pe Go.Proofs.Ytpbhepdgamoiaaa.Pf Go.Proofs.Ytpbhepdgamoiaaa.Pg Go.Proofs.Ytpbhepdgamoiaaa.Qr Go.Proofs.Ytpbhepdgamoiaaa.Qn Go.Proofs.Ytpbhepdgamoiaaa.Qw Go.Proofs.Ytpbhepdgamoiaaa.Fr Go.Proofs.Ytpbhepdgamoiaaa.Cl Go.Proofs.Ytpbhepdgamoiaaa.Nm Go.Proofs.Ytpbhepdgamoiaaa.So Go.Proofs.Ytpbhepdgamoiaaa.Sw
set_option linter.unusedVariables false
set_option linter.unusedSimpArgs false
def cutOk (fr te : Int) : Prop := (0 ≤ fr ∧ fr ≤ 1099511627776) ∧ (0 ≤ te ∧ te ≤ 1099511627776) ∧ fr ≤ te
instance (fr te : Int) : Decidable (cutOk fr te) := inferInstanceAs (Decidable (_ ∧ _))
def tkB (a : Int) : Bool := decide (0 ≤ a) && decide (a ≤ 1099511627776)
theorem tick_f (a : Int) : edit_isTick.f a = some (tkB a) := by
 unfold edit_isTick.f tkB
 by_cases h : a ≥ 0
 ·rw [if_pos h, decide_eq_true (show 0 ≤ a from h), Bool.true_and]
 ·rw [if_neg h, decide_eq_false (show ¬ 0 ≤ a from h), Bool.false_and]
end Go.Proofs.Ytpbhepdgamoiaaa.Ct
namespace Go.Proofs.Ytpbhepdgamoiaaa.Jn
open Go.RowKit Go Go.Proofs.YtpbhepdgamoiaaaW.PrintWords Go.Proofs.YtpbhepdgamoiaaaW.PrintLast Go.Proofs.YtpbhepdgamoiaaaW.PrintMore Go.Proofs.Ytpbhepdgamoiaaa.Mn Go.Proofs.Ytpbhepdgamoiaaa.Nd Go.Proofs.Ytpbhepdgamoiaaa.Z Go.Proofs.Ytpbhepdgamoiaaa.Rf Go.Proofs.Ytpbhepdgamoiaaa.Er Go.Proofs.Ytpbhepdgamoiaaa.Ek Go.Proofs.Ytpbhepdgamoiaaa.Et Go.Proofs.Ytpbhepdgamoiaaa.E Go.Proofs.Ytpbhepdgamoiaaa.Pe Go.Proofs.Ytpbhepdgamoiaaa.Pf Go.Proofs.Ytpbhepdgamoiaaa.Ct
set_option linter.unusedVariables false
set_option linter.unusedSimpArgs false
def LP (w : World) (l : List Ed) (e : Ending) (w' : World) : Prop := ∃ v, e = .returned v ∧ Kd.R k77 77 w' w.heap.size (fun _ => True) v l ∧ Below w.heap.size w w'
def TP (w : World) (r : List Ed × Int) (e : Ending) (w' : World) : Prop := ∃ v, e = .returned (.tuple #[v, .int .i64 r.2]) ∧ Kd.R k77 77 w' w.heap.size (fun _ => True) v r.1 ∧ Below w.heap.size w w'
theorem TP.below {w w1 : World} {r : List Ed × Int} {e : Ending} {w' : World} (h : TP w1 r e w') (hb : Below w.heap.size w w1) : TP w r e w' := by
 obtain ⟨v, he, hr, hb2⟩ := h
 exact ⟨v, he, Kd.R_lower hr hb.size, hb.trans (hb2.mono hb.size)⟩
structure Dx (w W : World) (ms ts : Int) (g : Nat) : Prop where
 c : W.heap[g]? = some (clO ms ts)
 below : Below w.heap.size w W
theorem Dx.step {w W W2 : World} {ms ts : Int} {g : Nat} (h : Dx w W ms ts g) (hb : Below W.heap.size W W2) : Dx w W2 ms ts g := ⟨blk_below h.c hb, h.below.trans (hb.mono h.below.size)⟩
theorem Dx.start {w W : World} (ms ts : Int) (h : Below w.heap.size w W) : Dx w (W.alloc (clO ms ts)) ms ts W.heap.size := ⟨blk_new W _, h.trans ((below_alloc (Below.refl W.heap.size W) _).mono h.size)⟩
end Go.Proofs.Ytpbhepdgamoiaaa.Jn
namespace Go.Proofs.Ytpbhepdgamoiaaa.E
open Go.RowKit Go Go.Proofs.YtpbhepdgamoiaaaW.PrintWords Go.Proofs.YtpbhepdgamoiaaaW.PrintLast Go.Proofs.YtpbhepdgamoiaaaW.PrintMore Go.Proofs.Ytpbhepdgamoiaaa.Pe Go.Proofs.Ytpbhepdgamoiaaa.Jn
end Go.Proofs.Ytpbhepdgamoiaaa.E
namespace Go.Proofs.Ytpbhepdgamoiaaa.Rp
open Go.RowKit Go Go.Proofs.YtpbhepdgamoiaaaW.PrintWords Go.Proofs.YtpbhepdgamoiaaaW.PrintLast Go.Proofs.YtpbhepdgamoiaaaW.PrintMore Go.Proofs.Ytpbhepdgamoiaaa.Mn Go.Proofs.Ytpbhepdgamoiaaa.Nd Go.Proofs.Ytpbhepdgamoiaaa.Z Go.Proofs.Ytpbhepdgamoiaaa.Rf Go.Proofs.Ytpbhepdgamoiaaa.Er Go.Proofs.Ytpbhepdgamoiaaa.Ek Go.Proofs.Ytpbhepdgamoiaaa.Et Go.Proofs.Ytpbhepdgamoiaaa.E Go.Proofs.Ytpbhepdgamoiaaa.Pe Go.Proofs.Ytpbhepdgamoiaaa.Pf Go.Proofs.Ytpbhepdgamoiaaa.Ct Go.Proofs.Ytpbhepdgamoiaaa.Jn
set_option linter.unusedVariables false
set_option linter.unusedSimpArgs false
def encE (x : Ed) : List Value := [.int .i64 x.f0, .int .i64 x.f1, .int .i64 x.f2, .int .i64 x.f3]
def encL : List Ed → List Value
 | [] => []
 | x :: t => encE x ++ encL t
theorem encL_len : ∀ l : List Ed, (encL l).length = l.length * 4
 | [] => rfl
 | x :: t => by
  simp only [encL, List.length_append, encL_len t, List.length_cons]
  show 4 + t.length * 4 = (t.length + 1) * 4
  omega
theorem encL_reps {w : World} {base : Nat} {ok : Nat → Prop} : ∀ l : List Ed, Reps (fun (x : Ed) cs => Kd.M k77 w base ok x cs) 4 l (encL l)
 | [] => Reps.none _ _
 | x :: t => Reps.c4 (k77_mkM w base ok x) (encL_reps t)
def Bh (W : World) (g : Nat) (R : List Ed) (n : Nat) : Prop := ∃ rest : List Value, W.heap[g]? = some (.cells (encL (R.take n) ++ rest).toArray 77 (0, 0)) ∧ n ≤ R.length ∧ (encL (R.take n) ++ rest).length = R.length * 4
theorem Bh.row {W : World} {g base : Nat} {R : List Ed} (h : Bh W g R R.length) (hb : base ≤ g) (hl : R.length ≤ 1000000) : Kd.R k77 77 W base (fun _ => True) (.slice (some ⟨g, 0, none⟩) R.length R.length) R := by
 obtain ⟨rest, h1, h2, h3⟩ := h
 rw [List.take_length] at h1 h3
 have hr : rest = [] := by
  rw [List.length_append, encL_len] at h3
  exact List.eq_nil_of_length_eq_zero (by omega)
 subst hr
 rw [List.append_nil] at h1 h3
 refine ⟨fun _ _ => trivial, encL R, ⟨by rw [encL_len]; rfl, .inr ⟨g, R.length, (encL R).toArray, rfl, hb, h1, Nat.le_refl _, by unfold maxLen; omega, ?_, ?_⟩⟩, encL_reps R⟩
 ·simp [encL_len]
  rfl
 ·show (encL R).toArray.toList.take (R.length * 4) = encL R
  rw [List.take_of_length_le (by simp [encL_len])]
def zC4 : Array Value := #[.int .i64 0, .int .i64 0, .int .i64 0, .int .i64 0]
theorem Bh.start (W : World) (R : List Ed) : Bh (W.alloc (.cells (madeCells zC4 (R.length * 4)) 77)) W.heap.size R 0 := by
 refine ⟨(madeCells zC4 (R.length * 4)).toList, ?_, Nat.zero_le _, ?_⟩
 ·have := blk_new W (.cells (madeCells zC4 (R.length * 4)) 77 (0, 0))
  simpa [encL] using this
 ·simp [encL, size_madeCells]
end Go.Proofs.Ytpbhepdgamoiaaa.Rp
namespace Go.Proofs.Ytpbhepdgamoiaaa.E
open Go.RowKit Go Go.Proofs.YtpbhepdgamoiaaaW.PrintWords Go.Proofs.YtpbhepdgamoiaaaW.PrintLast Go.Proofs.YtpbhepdgamoiaaaW.PrintMore Go.Proofs.Ytpbhepdgamoiaaa.Pe Go.Proofs.Ytpbhepdgamoiaaa.Rp
end Go.Proofs.Ytpbhepdgamoiaaa.E
namespace Go.Proofs.Ytpbhepdgamoiaaa.Dv
open Go.RowKit Go Go.Proofs.YtpbhepdgamoiaaaW.PrintWords Go.Proofs.YtpbhepdgamoiaaaW.PrintLast Go.Proofs.YtpbhepdgamoiaaaW.PrintMore Go.Proofs.Ytpbhepdgamoiaaa.Ml Go.Proofs.Ytpbhepdgamoiaaa.Mn Go.Proofs.Ytpbhepdgamoiaaa.Nd Go.Proofs.Ytpbhepdgamoiaaa.Z Go.Proofs.Ytpbhepdgamoiaaa.P Go.Proofs.Ytpbhepdgamoiaaa.Nc Go.Proofs.Ytpbhepdgamoiaaa.Na Go.Proofs.Ytpbhepdgamoiaaa.Nb Go.Proofs.Ytpbhepdgamoiaaa.Ns Go.Proofs.Ytpbhepdgamoiaaa.Da Go.Proofs.Ytpbhepdgamoiaaa.Dc Go.Proofs.Ytpbhepdgamoiaaa.Qa
set_option linter.unusedVariables false
set_option linter.unusedSimpArgs false
theorem fl_div {a b : Int} (hb : 0 < b) : (if a.tmod b < 0 then a.tdiv b - 1 else a.tdiv b) = a / b := by
 have h1 := Int.mul_tdiv_add_tmod a b
 have h2 : (a.tmod b).natAbs < b.natAbs := by
  have := Int.natAbs_tmod a b
  rw [this]
  exact Nat.mod_lt _ (by omega)
 have h3 := Int.mul_ediv_add_emod a b
 have h4 := Int.emod_nonneg a (show b ≠ 0 by omega)
 have h5 := Int.emod_lt_of_pos a hb
 generalize a.tmod b = r at *
 generalize a.tdiv b = q at *
 generalize a / b = p at *
 generalize a % b = s at *
 have key : ∀ x y : Int, 0 ≤ y → y < b → b * x + y = a → x = p := by
  intro x y y0 y1 e
  have e1 : b * (x - p) = s - y := by rw [Int.mul_sub]; omega
  rcases Int.lt_trichotomy (x - p) 0 with h | h | h
  ·have : b * (x - p) ≤ b * (-1) := Int.mul_le_mul_of_nonneg_left (by omega) (by omega)
   omega
  ·omega
  ·have : b * 1 ≤ b * (x - p) := Int.mul_le_mul_of_nonneg_left (by omega) (by omega)
   omega
 by_cases hr : r < 0
 ·rw [if_pos hr]
  exact key _ (r + b) (by omega) (by omega) (by rw [Int.mul_sub]; omega)
 ·rw [if_neg hr]
  exact key _ r (by omega) (by omega) h1
theorem isN_neg {w : World} {g o : Nat} {z : Int} {n : Nat} (h : IsN w g o z n) : w.cell? ⟨g, o, none⟩ = some (.bool (decide (z < 0))) := by
 obtain ⟨neg, A, c, l, h1, h2, h3, h4, h5, h6, h7⟩ := h.open
 have := h1.cell0
 have hp : l ≠ [] → 0 < dv 4294967296 l := by
  intro h
  have h1 := dv_len (a := []) (by decide) (Dg.nil _) h4 (by cases l with | nil => exact absurd rfl h | cons x t => simp)
  simpa only [dv] using h1
 have h0 := dv_nonneg (by decide) h4.dg
 rw [this]
 cases neg with
 | true => have := hp (h7 rfl); rw [h6]; simp [sg]; omega
 | false => rw [h6]; simp [sg]; omega
set_option maxHeartbeats 4000000 in
set_option maxRecDepth 100000 in
theorem divI_n (gx ox ga oa gb ob : Nat) (a b : Int) (na nb B : Nat) (w : World) (hx : Room w gx ox) (ha : IsN w ga oa a na) (hb : IsN w gb ob b nb) (hbp : 0 < b) (hl : na + nb ≤ 900) (hB1 : B ≤ gx) :
  Calls Try.prog 108 #[.pointer (some ⟨gx, ox, none⟩), .pointer (some ⟨ga, oa, none⟩), .pointer (some ⟨gb, ob, none⟩)] w (fun e w' => e = .returned (.pointer (some ⟨gx, ox, none⟩)) ∧ Below B w w' ∧ IsN w' gx ox (a / b) (na + 3)) := by
 have hx0 := hx.lt
 go_enter Try.func108, Try.ntmps108
 go_wp2_with fail
 refine (newInt_n 1 w (by decide) (by decide)).mono ?_
 rintro e w1 ⟨g1, hg1, rfl, hb1, hN1⟩
 have HN1 := Aside0.mk hN1
 clear hN1
 replace hx := hx.below hb1
 replace ha := ha.below hb1
 replace hb := hb.below hb1
 have b0 := isN_neg hb
 have hd : decide (b < 0) = false := decide_eq_false (by omega)
 rw [hd] at b0
 go_wp2_with fail
 have hb2 : Below w1.heap.size w1 (w1.alloc (.cells #[.bool false, .slice none 0 0] 86)) := below_alloc (Below.refl _ w1) _
 have hx1 := hx.lt
 have s1 := hb1.size
 refine (quoRem_n gx ox ga oa gb ob w1.heap.size 0 a b na nb B _ (hx.below hb2) (ha.below hb2) (hb.below hb2) (room_new w1) (by omega) (by omega) (by omega) hB1 (by omega)).mono ?_
 rintro e w2 ⟨rfl, hB2, hq, hr, hk⟩
 have c0 := isN_neg hr
 have h1 := hk g1 0 1 2 (by omega) (by have := HN1.out.lt; omega) (HN1.out.below hb2)
 have HQ := Aside0.mk (And.intro hq (And.intro hr h1))
 have s2 := hB2.size
 have HBB := Aside0.mk (show Below B w w2 from (show Below B w w1 from ⟨hb1.os, hb1.tape, hb1.output, hb1.size, fun i hi => hb1.block i (by omega)⟩).trans ((show Below B w1 _ from ⟨hb2.os, hb2.tape, hb2.output, hb2.size, fun i hi => hb2.block i (by omega)⟩).trans hB2))
 clear hq hr hk h1
 have hfl := fl_div (a := a) hbp
 by_cases hneg : a.tmod b < 0
 ·rw [decide_eq_true hneg] at c0
  rw [if_pos hneg] at hfl
  have HF := Aside0.mk hfl
  clear hfl
  go_wp2_with fail
  refine (subI_n gx ox gx ox g1 0 (a.tdiv b) 1 na 2 w2 HQ.out.1.room HQ.out.1 HQ.out.2.2 (by omega)).mono ?_
  rintro e w3 ⟨rfl, hw3, hN3⟩
  have HN3 := Aside0.mk (And.intro hw3 hN3)
  clear hw3 hN3
  go_wp2_with fail
  go_ret
  exact ⟨rfl, HBB.out.trans (HN3.out.1.below hB1 (by have := HBB.out.size; omega)), HF.out ▸ HN3.out.2.mono (by omega)⟩
 ·rw [decide_eq_false hneg] at c0
  rw [if_neg hneg] at hfl
  have HF := Aside0.mk hfl
  clear hfl
  go_wp2_with fail
  go_ret
  exact ⟨rfl, HBB.out, HF.out ▸ HQ.out.1.mono (by omega)⟩
end Go.Proofs.Ytpbhepdgamoiaaa.Dv
namespace Go.Proofs.Ytpbhepdgamoiaaa.Wo
open Go.RowKit Go Go.Proofs.YtpbhepdgamoiaaaW.PrintWords Go.Proofs.YtpbhepdgamoiaaaW.PrintLast Go.Proofs.YtpbhepdgamoiaaaW.PrintMore Go.Proofs.Ytpbhepdgamoiaaa.Mn Go.Proofs.Ytpbhepdgamoiaaa.Nd Go.Proofs.Ytpbhepdgamoiaaa.Z Go.Proofs.Ytpbhepdgamoiaaa.Nc Go.Proofs.Ytpbhepdgamoiaaa.Nb Go.Proofs.Ytpbhepdgamoiaaa.Qa Go.Proofs.Ytpbhepdgamoiaaa.Ra Go.Proofs.Ytpbhepdgamoiaaa.Rf Go.Proofs.Ytpbhepdgamoiaaa.Er Go.Proofs.Ytpbhepdgamoiaaa.Ek Go.Proofs.Ytpbhepdgamoiaaa.Et Go.Proofs.Ytpbhepdgamoiaaa.E Go.Proofs.Ytpbhepdgamoiaaa.Pe Go.Proofs.Ytpbhepdgamoiaaa.Jn Go.Proofs.Ytpbhepdgamoiaaa.Rp Go.Proofs.Ytpbhepdgamoiaaa.Dv Go.Proofs.Ytpbhepdgamoiaaa.Tk Go.Proofs.Ytpbhepdgamoiaaa.Tw Go.Proofs.Ytpbhepdgamoiaaa.Wv
attribute [local go_sem] max2_int min2_int Go.Lib.run_eql_slice_nil
set_option linter.unusedVariables false
set_option linter.unusedSimpArgs false
set_option maxHeartbeats 4000000 in
set_option maxRecDepth 100000 in
theorem clone_n (A0 : Option Addr) (c0 : Nat) (l : List Ed) (w : World) (h0 : Kd.C k77 w A0 l.length l) (hl : l.length ≤ 1000) (hp : 0 < l.length) :
  Calls Try.prog 104 #[.slice A0 l.length c0] w (LP w l) := by
 obtain ⟨ad, hA, _⟩ := h0.2.2 hp
 subst hA
 have HG := Aside0.mk (And.intro h0 hl)
 have hu2 := Try.underlying22
 clear h0 hl hp
 go_enter Try.func104, Try.ntmps104
 have HB := Aside0.mk (below_alloc (Below.refl w.heap.size w) (.cells #[] 77 (0, 0)))
 have HR := Aside0.mk (show Kd.R k77 77 (w.alloc (.cells #[] 77 (0, 0))) w.heap.size (fun _ => True) (.slice (some ⟨w.heap.size, 0, none⟩) 0 0) [] from
  ⟨fun _ _ => trivial, [], ⟨rfl, .inr ⟨w.heap.size, 0, #[], rfl, Nat.le_refl _, blk_new w _, Nat.le_refl _, by unfold maxLen; omega, rfl, rfl⟩⟩, Reps.none _ _⟩)
 go_wp2_with (first | ((with_reducible refine gate_builtin (b := .append) (xs := #[.tmp 5, .tmp 6]) rfl ?_); at_builtin; refine Kd.R_append_rows k77 (w0 := w) w.heap.size rfl (.tmp 5) (.tmp 6) 22 77 (.agg #[(.int .i64 0), (.int .i64 0), (.int .i64 0), (.int .i64 0)]) 32 rfl Try.underlying22 info77 rfl (by decide) (by omega) (.slice (some ⟨w.heap.size, 0, none⟩) 0 0) [] l _ _ _ (fun _ => True) (fun _ => False) rfl rfl HR.out (Kd.C_below HG.out.1 HB.out) (fun _ _ h => h) (fun _ h => h.elim) (fun _ _ => trivial) HB.out HB.out.size (by have := HG.out.2; (try simp only [List.length_nil]); omega) ?_; intro v6' w9 ho hb hg hat; obtain ⟨A6, c6, e6⟩ := Kd.R_slice ho; subst e6; have HO2 := Aside0.mk ho; have HB2 := Aside0.mk hb; clear ho hb hg hat))
 go_ret
 exact ⟨_, rfl, HO2.out, HB2.out⟩
theorem endL_drop {l : List Sm} {i : Int} {m : Int} (h0 : 0 ≤ i) (h1 : i < (l.length : Int)) : endL (l.drop i.toNat) m = endL (l.drop (i + 1).toNat) (mx m (wrap64 ((rd_T120 l i).f1 + (rd_T120 l i).f2))) := by
 have hn : i.toNat < l.length := by omega
 have hi : (i + 1).toNat = i.toNat + 1 := by omega
 have hg : rd_T120 l i = l[i.toNat] := by
  unfold rd_T120
  rw [List.getD_eq_getElem?_getD, List.getElem?_eq_getElem hn]
  rfl
 rw [hi, hg, List.drop_eq_getElem_cons hn, endL]
section
variable (id kind : Int) (codec : ByteArray) (scale : Int) (A4 : Option Addr) (c4 : Nat) (setup : List Int) (lang name : ByteArray) (pr : Int) (A8 : Option Addr) (c8 : Nat) (edits : List Ed') (A9 : Option Addr) (c9 : Nat) (refs : List Rf) (A10 : Option Addr) (c10 : Nat) (samples : List Sm)
def whoV (ms : Int) : List Ed' × Int := if 1 ≤ ms ∧ ms ≤ 1000000 then (if chkT id kind codec scale setup lang name pr edits refs samples = 0 then whoT ms scale edits samples else ([], chkT id kind codec scale setup lang name pr edits refs samples)) else ([], 1)
set_option maxHeartbeats 16000000 in
set_option maxRecDepth 100000 in
theorem whole_n (ms : Int) (w : World) (hok : okB codec lang name refs = true) (hc4 : setup.length ≤ c4) (hc8 : edits.length ≤ c8) (hc9 : refs.length ≤ c9) (hc10 : samples.length ≤ c10) (hh : Hd A4 setup A8 edits A9 refs A10 samples w) :
  Calls Try.prog 53 #[.agg #[.int .i64 id, .int .i64 kind, .string codec, .int .i64 scale, .slice A4 setup.length c4, .string lang, .string name, .int .i64 pr, .slice A8 edits.length c8, .slice A9 refs.length c9, .slice A10 samples.length c10], .int .i64 ms] w (TP w (whoV id kind codec scale setup lang name pr edits refs samples ms)) := by
 have hu := Try.underlying71
 have hu2 := Try.underlying77
 have hu3 := Try.underlying120
 have HH := Aside0.mk hh
 have HV := Aside0.mk (show whoV id kind codec scale setup lang name pr edits refs samples ms = if 1 ≤ ms ∧ ms ≤ 1000000 then (if chkT id kind codec scale setup lang name pr edits refs samples = 0 then whoT ms scale edits samples else ([], chkT id kind codec scale setup lang name pr edits refs samples)) else ([], 1) from rfl)
 have HK := Aside0.mk (fun h : chkT id kind codec scale setup lang name pr edits refs samples = 0 => chkT_ok h)
 have HC := Aside0.mk (fun W (hb : Below w.heap.size w W) => check_track_n id kind codec scale A4 c4 setup lang name pr A8 c8 edits A9 c9 refs A10 c10 samples hok hc4 hc8 hc9 hc10 W (Hd.below A4 setup A8 edits A9 refs A10 samples hh hb))
 generalize whoV id kind codec scale setup lang name pr edits refs samples ms = V at *
 generalize chkT id kind codec scale setup lang name pr edits refs samples = C at *
 clear hok hc4 hc8 hc9 hc10 hh
 go_enter Try.func53, Try.ntmps53
 go_upto_region 1 with (first | ((with_reducible refine gate_dst (N := 2) rfl ?_); refine zB 2 71 #[.int .i64 id, .int .i64 kind, .string codec, .int .i64 scale, .slice A4 setup.length c4, .string lang, .string name, .int .i64 pr, .slice A8 edits.length c8, .slice A9 refs.length c9, .slice A10 samples.length c10] ?_; intro gb hg W0 hbox hb; subst hg; have HB := Aside0.mk (show Bt w W0 #[.int .i64 id, .int .i64 kind, .string codec, .int .i64 scale, .slice A4 setup.length c4, .string lang, .string name, .int .i64 pr, .slice A8 edits.length c8, .slice A9 refs.length c9, .slice A10 samples.length c10] from ⟨hbox, hb⟩); clear hbox hb))
 go_wp2_with fail
 refine (edit_isScale.calls ms _ W0 (scale_f ms)).mono ?_
 rintro e w2 ⟨rfl, hb2⟩
 have HB2 := Aside0.mk (HB.out.step (Drawn0.below hb2))
 clear hb2 HB
 by_cases hs : 1 ≤ ms ∧ ms ≤ 1000000
 case neg =>
  rw [decide_eq_false hs]
  have HV2 := Aside0.mk (show V = ([], 1) by rw [HV.out, if_neg hs])
  clear HV HK HC hs
  go_wp2_with fail
  go_ret2
  rw [HV2.out]
  exact ⟨_, rfl, Kd.R_nil _ _ _ _ _, HB2.out.below⟩
 rw [decide_eq_true hs]
 have HV2 := Aside0.mk (show V = if C = 0 then whoT ms scale edits samples else ([], C) by rw [HV.out, if_pos hs])
 have HS := Aside0.mk hs
 clear HV hs
 obtain ⟨q0, q1, q2, q3, q4, q5, q6, q7, q8, q9, qa⟩ := ten_cells HB2.out.c
 go_wp2_with fail
 refine (HC.out w2 HB2.out.below).mono ?_
 rintro e w3 ⟨rfl, hb3⟩
 have HB3 := Aside0.mk (HB2.out.step hb3)
 clear hb3 HB2 HC q0 q1 q2 q3 q4 q5 q6 q7 q8 q9 qa
 by_cases hz : C = 0
 case neg =>
  have HV3 := Aside0.mk (show V = ([], C) by rw [HV2.out, if_neg hz])
  clear HV2 HK
  go_wp2_with fail
  go_ret2
  rw [HV3.out]
  exact ⟨_, rfl, Kd.R_nil _ _ _ _ _, HB3.out.below⟩
 subst hz
 have HV3 := Aside0.mk (show V = whoT ms scale edits samples by rw [HV2.out, if_pos rfl])
 have HK2 := Aside0.mk (HK.out rfl)
 clear HV2 HK
 obtain ⟨q0, q1, q2, q3, q4, q5, q6, q7, q8, q9, qa⟩ := ten_cells HB3.out.c
 by_cases hl : 0 < edits.length
 ·have HV4 := Aside0.mk (show V = (edits, 0) by rw [HV3.out, whoT, if_pos hl])
  have HL := Aside0.mk hl
  have hlb : decide ((edits.length : Int) > 0) = true := decide_eq_true (by omega)
  have hl2 := eq_true hl
  clear HV3 hl
  go_wp2_with fail
  refine (clone_n A8 c8 edits w3 (Kd.C_below HH.out.e HB3.out.below) (by have := HK2.out.2.1; omega) HL.out).mono ?_
  rintro e w4 ⟨v, rfl, hr4, hb4⟩
  have H4 := Aside0.mk (And.intro (Kd.R_lower hr4 HB3.out.below.size) (HB3.out.below.trans (hb4.mono HB3.out.below.size)))
  obtain ⟨A, c, rfl⟩ := Kd.R_slice hr4
  clear hr4 hb4
  go_wp2_with fail
  go_ret2
  rw [HV4.out]
  exact ⟨_, rfl, H4.out.1, H4.out.2⟩
 have HV4 := Aside0.mk (show V = if endL samples 0 = 0 then ([], 0) else if 1099511627776 < upV (qq (endL samples 0) scale * qq ms 1) then ([], 2) else ([⟨upV (qq (endL samples 0) scale * qq ms 1), 0, 1, 1⟩], 0) by rw [HV3.out, whoT, if_neg hl])
 have hlb : decide ((edits.length : Int) > 0) = false := decide_eq_false (by omega)
 have hl2 := eq_false hl
 clear HV3 hl
 go_wp2_with fail
 have HE := Aside0.mk (end_rng samples 0 HK2.out.2.2.2 (by decide) (by decide))
 clear q0 q1 q2 q3 q4 q5 q6 q7 q8 q9 qa
 go_loopg [7, 30] samples.length (fun kq v7 v30 w' => ∃ m i : Int, v7 = .int .i64 m ∧ v30 = .int .i64 i ∧ Aside0 (0 ≤ i ∧ i + kq = samples.length ∧ endL (samples.drop i.toNat) m = endL samples 0) ∧ Aside0 (Bt w w' #[.int .i64 id, .int .i64 kind, .string codec, .int .i64 scale, .slice A4 setup.length c4, .string lang, .string name, .int .i64 pr, .slice A8 edits.length c8, .slice A9 refs.length c9, .slice A10 samples.length c10]))
 case atStart => exact ⟨0, 0, rfl, rfl, ⟨by simp, by simp, by simp⟩, ⟨HB3.out⟩⟩
 case round =>
  clear HB3
  obtain ⟨m, i, rfl, rfl, hi, hB⟩ := hrel
  by_cases hlt : i < (samples.length : Int)
  ·have hlb2 : decide (i < (samples.length : Int)) = true := decide_eq_true hlt
   have p0 := hi.out.1
   have hx := HK2.out.2.2.2
   obtain ⟨ad, B4, d4, B5, d5, hA, r0, r1, r2, r3, r4, r5, _, _, _, _⟩ := at_T120 (Kd.C_below HH.out.p hB.out.below) i p0 hlt
   have HL := Aside0.mk (show endL (samples.drop (i + 1).toNat) (mx m (wrap64 ((rd_T120 samples i).f1 + (rd_T120 samples i).f2))) = endL samples 0 by rw [← hi.out.2.2]; exact (endL_drop p0 hlt).symm)
   obtain ⟨k1, rfl⟩ : ∃ k, gk = k + 1 := ⟨gk - 1, by have := hi.out.2; omega⟩
   have hwi : wrap64 (i + 1) = i + 1 := by
    have := HK2.out.2.2.1
    exact w64 (by omega) (by omega)
   have HW := Aside0.mk (And.intro hwi (show 0 ≤ i + 1 ∧ i + 1 + (k1 : Int) = samples.length by have := hi.out.2.1; omega))
   subst hA
   generalize rd_T120 samples i = X at *
   replace p0 := eq_true p0
   replace hlt := eq_true hlt
   have HB4 := Aside0.mk (hB.out.step (below_alloc (Below.refl wr.heap.size wr) (.cells #[.int .i64 X.f0, .int .i64 X.f1, .int .i64 X.f2, .bool X.f3, .slice B4 X.f4.length d4, .slice B5 X.f5.length d5] 120 (0, 0))))
   clear hwi hi hx hB
   go_wp2_with fail
   go_roundg k1
   case measure => omega
   case rel => exact ⟨mx m (wrap64 (X.f1 + X.f2)), i + 1, congrArg (Value.int .i64) (show max m (wrap64 (X.f1 + X.f2)) = mx m (wrap64 (X.f1 + X.f2)) by unfold mx; omega), by rw [HW.out.1], ⟨HW.out.2.1, HW.out.2.2, HL.out⟩, ⟨HB4.out⟩⟩
  ·have hlb2 : decide (i < (samples.length : Int)) = false := decide_eq_false hlt
   have hm : m = endL samples 0 := by
    rw [← hi.out.2.2, List.drop_of_length_le (by have := hi.out; omega)]
    rfl
   have HM := Aside0.mk hm
   replace hlt := eq_false hlt
   clear hi
   generalize endL samples 0 = E at *
   subst hm
   by_cases he : m = 0
   ·have HV5 := Aside0.mk (show V = ([], 0) by rw [HV4.out, if_pos he])
    have heb : (m == 0) = true := by rw [he]; rfl
    clear HV4 he
    go_wp2_with fail
    go_ret2
    rw [HV5.out]
    exact ⟨_, rfl, Kd.R_nil _ _ _ _ _, hB.out.below⟩
   have heb : (m == 0) = false := by simpa using he
   have HV5 := Aside0.mk (show V = if 1099511627776 < upV (qq m scale * qq ms 1) then ([], 2) else ([⟨upV (qq m scale * qq ms 1), 0, 1, 1⟩], 0) by rw [HV4.out, if_neg he])
   have HI := Aside0.mk (show (I64 m ∧ I64 ms) ∧ I64 scale ∧ scale ≠ 0 by
    have := HE.out
    have := HS.out
    have := HK2.out.1
    exact ⟨⟨⟨by omega, by omega⟩, ⟨by omega, by omega⟩⟩, ⟨by omega, by omega⟩, by omega⟩)
   have HN := Aside0.mk (show 0 ≤ upV (qq m scale * qq ms 1) by
    rw [q_is (by have := HK2.out.1; omega), ← up_qq _ (by have := HK2.out.1; omega)]
    have := Int.mul_nonneg HE.out.1 (show 0 ≤ ms by have := HS.out; omega)
    exact Int.ediv_nonneg (by have := HK2.out.1; omega) (by have := HK2.out.1; omega))
   clear HV4 he HE
   obtain ⟨q0, q1, q2, q3, q4, q5, q6, q7, q8, q9, qa⟩ := ten_cells hB.out.c
   go_wp2_with fail
   refine (ratioE_n m scale wr HI.out.1.1 HI.out.2.1 HI.out.2.2).mono ?_
   rintro e w5 ⟨g5, hg5, rfl, hb5, hN5⟩
   have H5 := Aside0.mk (And.intro (hB.out.step hb5) hN5)
   clear hb5 hN5 hg5 q0 q1 q2 q3 q4 q5 q6 q7 q8 q9 qa
   go_wp2_with fail
   refine (ratioE_n ms 1 w5 HI.out.1.2 i1 (by decide)).mono ?_
   rintro e w6 ⟨g6, hg6, rfl, hb6, hN6⟩
   have H6 := Aside0.mk (And.intro (H5.out.1.step hb6) (And.intro (H5.out.2.below hb6) hN6))
   clear hb6 hN6 hg6 H5
   go_wp2_with fail
   refine (mulE_n g5 g6 _ _ 2 2 w6 H6.out.2.1 H6.out.2.2 (by decide)).mono ?_
   rintro e w7 ⟨g7, hg7, rfl, hb7, hN7⟩
   have H7 := Aside0.mk (And.intro (H6.out.1.below.trans (hb7.mono H6.out.1.below.size)) hN7)
   clear hb7 hN7 hg7 H6
   generalize hQ : qq m scale * qq ms 1 = Q at *
   have HD := Aside0.mk (show (0 : Int) < (Q.den : Int) by have := Q.den_pos; omega)
   have HU := Aside0.mk (show upV Q = (Q.num + (Q.den : Int) - 1) / (Q.den : Int) from rfl)
   have hb8 : Below w7.heap.size w7 (w7.alloc (.cells #[.bool false, .slice none 0 0] 86)) := below_alloc (Below.refl _ w7) _
   have H8 := Aside0.mk (And.intro (H7.out.1.trans (hb8.mono H7.out.1.size)) (And.intro (H7.out.2.below hb8) (And.intro (room_new w7) hb8.size)))
   have HG := Aside0.mk (And.intro H7.out.2.lt H7.out.1.size)
   clear hb8 H7
   go_wp2_with fail
   generalize hW8 : World.alloc w7 _ = w8
   have H9 := Aside0.mk (show Below w.heap.size w w8 ∧ RQ w8 g7 Q 4 ∧ Room w8 w7.heap.size 0 ∧ w7.heap.size ≤ w8.heap.size by rw [← hW8]; exact H8.out)
   clear hW8 H8
   generalize w7.heap.size = gd at *
   refine (num_n g7 w8).mono ?_
   rintro e w9 ⟨rfl, rfl⟩
   go_wp2_with fail
   refine (denom_n g7 (Q.den : Int) 4 w8 H9.out.2.1.den (den0 Q)).mono ?_
   rintro e w9 ⟨rfl, rfl⟩
   go_wp2_with fail
   refine (add_n gd 0 g7 0 g7 2 Q.num (Q.den : Int) 4 4 w8 H9.out.2.2.1 H9.out.2.1.num H9.out.2.1.den.w (by decide)).mono ?_
   rintro e w9 ⟨rfl, hw9, hN9⟩
   have H10 := Aside0.mk (show Below w.heap.size w w9 ∧ IsN w9 g7 2 (Q.den : Int) 4 ∧ IsN w9 gd 0 (Q.num + (Q.den : Int)) 5 from ⟨H9.out.1.trans (hw9.below HG.out.2 H9.out.1.size), hw9.isN H9.out.2.2.1 H9.out.2.1.den (.inl (by have := HG.out.1; omega)), hN9⟩)
   clear hw9 hN9 H9
   go_wp2_with fail
   refine (newInt_n 1 w9 (by decide) (by decide)).mono ?_
   rintro e w10 ⟨g10, hg10, rfl, hb10, hN10⟩
   have H11 := Aside0.mk (show Below w.heap.size w w10 ∧ IsN w10 g7 2 (Q.den : Int) 4 ∧ IsN w10 gd 0 (Q.num + (Q.den : Int)) 5 ∧ IsN w10 g10 0 1 2 from ⟨H10.out.1.trans (hb10.mono H10.out.1.size), H10.out.2.1.below hb10, H10.out.2.2.below hb10, hN10⟩)
   clear hb10 hN10 hg10 H10
   go_wp2_with fail
   refine (subI_n gd 0 gd 0 g10 0 (Q.num + (Q.den : Int)) 1 5 2 w10 H11.out.2.2.1.room H11.out.2.2.1 H11.out.2.2.2 (by decide)).mono ?_
   rintro e w11 ⟨rfl, hw11, hN11⟩
   have H12 := Aside0.mk (show Below w.heap.size w w11 ∧ IsN w11 g7 2 (Q.den : Int) 4 ∧ IsN w11 gd 0 (Q.num + (Q.den : Int) - 1) 6 from ⟨H11.out.1.trans (hw11.below HG.out.2 H11.out.1.size), hw11.isN H11.out.2.2.1.room H11.out.2.1 (.inl (by have := HG.out.1; omega)), hN11⟩)
   clear hw11 hN11 H11
   go_wp2_with fail
   refine (denom_n g7 (Q.den : Int) 4 w11 H12.out.2.1 (den0 Q)).mono ?_
   rintro e w12 ⟨rfl, rfl⟩
   go_wp2_with fail
   refine (divI_n gd 0 gd 0 g7 2 (Q.num + (Q.den : Int) - 1) (Q.den : Int) 6 4 w.heap.size w11 H12.out.2.2.room H12.out.2.2 H12.out.2.1 HD.out (by decide) HG.out.2).mono ?_
   rintro e w12 ⟨rfl, hb12, hN12⟩
   have H13 := Aside0.mk (show Below w.heap.size w w12 ∧ IsN w12 gd 0 (upV Q) 9 from ⟨H12.out.1.trans hb12, HU.out ▸ hN12⟩)
   clear hb12 hN12 H12 HU
   generalize upV Q = U at *
   go_wp2_with fail
   refine (newInt_n 1099511627776 w12 (by decide) (by decide)).mono ?_
   rintro e w13 ⟨g13, hg13, rfl, hb13, hN13⟩
   have H14 := Aside0.mk (show Below w.heap.size w w13 ∧ IsN w13 gd 0 U 9 ∧ IsN w13 g13 0 1099511627776 2 from ⟨H13.out.1.trans (hb13.mono H13.out.1.size), H13.out.2.below hb13, hN13⟩)
   clear hb13 hN13 hg13 H13
   go_wp2_with fail
   refine (cmp_n gd 0 g13 0 U 1099511627776 9 2 w13 H14.out.2.1 H14.out.2.2 (by decide)).mono ?_
   rintro e w14 ⟨rfl, hb14⟩
   have H15 := Aside0.mk (show Below w.heap.size w w14 ∧ IsN w14 gd 0 U 9 from ⟨H14.out.1.trans (hb14.mono H14.out.1.size), H14.out.2.1.below hb14⟩)
   clear hb14 H14
   by_cases hbig : (1099511627776 : Int) < U
   ·rw [Et.cmp_gt hbig]
    have HV6 := Aside0.mk (show V = ([], 2) by rw [HV5.out, if_pos hbig])
    clear HV5 hbig
    go_wp2_with fail
    go_ret2
    rw [HV6.out]
    exact ⟨_, rfl, Kd.R_nil _ _ _ _ _, H15.out.1⟩
   ·obtain ⟨c, hc, ec⟩ := Et.cmp_le hbig
    rw [ec]
    have HV6 := Aside0.mk (show V = ([⟨U, 0, 1, 1⟩], 0) by rw [HV5.out, if_neg hbig])
    have HX := Aside0.mk (show U ≤ 1099511627776 by omega)
    clear HV5 hbig ec
    go_wp2_with fail
    refine (int64_n gd 0 U 9 w14 H15.out.2 (by have := HN.out; omega) (by have := HX.out; omega) (by decide)).mono ?_
    rintro e w15 ⟨rfl, hb15⟩
    have H16 := Aside0.mk (H15.out.1.trans (hb15.mono H15.out.1.size))
    clear hb15 H15
    have hrow := Aside0.mk (show Kd.R k77 77 (w15.alloc (.cells #[.int .i64 U, .int .i64 0, .int .i64 1, .int .i64 1] 77 (0, 0))) w.heap.size (fun _ => True) (.slice (some ⟨w15.heap.size, 0, none⟩) 1 1) [⟨U, 0, 1, 1⟩] from
     Bh.row (g := w15.heap.size) (R := [⟨U, 0, 1, 1⟩]) ⟨[], blk_new w15 _, Nat.le_refl _, rfl⟩ H16.out.size (show 1 ≤ 1000000 by decide))
    have hbl := Aside0.mk (H16.out.trans ((below_alloc (Below.refl w15.heap.size w15) (.cells #[.int .i64 U, .int .i64 0, .int .i64 1, .int .i64 1] 77 (0, 0))).mono H16.out.size))
    go_wp2_with fail
    go_ret2
    rw [HV6.out]
    exact ⟨_, rfl, hrow.out, hbl.out⟩
end
end Go.Proofs.Ytpbhepdgamoiaaa.Wo
namespace Go.Proofs.Ytpbhepdgamoiaaa.E
open Go.RowKit Go Go.Proofs.YtpbhepdgamoiaaaW.PrintWords Go.Proofs.YtpbhepdgamoiaaaW.PrintLast Go.Proofs.YtpbhepdgamoiaaaW.PrintMore Go.Proofs.Ytpbhepdgamoiaaa.Tk Go.Proofs.Ytpbhepdgamoiaaa.Tw Go.Proofs.Ytpbhepdgamoiaaa.Jn Go.Proofs.Ytpbhepdgamoiaaa.Wo
def edit_Whole.f (a0_0 : Int) (a0_1 : Int) (a0_2 : ByteArray) (a0_3 : Int) (l0_4 : List Int) (a0_5 : ByteArray) (a0_6 : ByteArray) (a0_7 : Int) (l0_8 : List (S77)) (l0_9 : List (S150)) (l0_10 : List (S120)) (a1 : Int) : Option ((List (S77)) × Int) := if okB a0_2 a0_5 a0_6 l0_9 = true then some (whoV a0_0 a0_1 a0_2 a0_3 l0_4 a0_5 a0_6 a0_7 l0_8 l0_9 l0_10 a1) else none
theorem edit_Whole.calls (a0_0 : Int) (a0_1 : Int) (a0_2 : ByteArray) (a0_3 : Int) (A0_4 : Option Addr) (c0_4 : Nat) (l0_4 : List Int) (a0_5 : ByteArray) (a0_6 : ByteArray) (a0_7 : Int) (A0_8 : Option Addr) (c0_8 : Nat) (l0_8 : List (S77)) (A0_9 : Option Addr) (c0_9 : Nat) (l0_9 : List (S150)) (A0_10 : Option Addr) (c0_10 : Nat) (l0_10 : List (S120)) (a1 : Int) (r1 : List (S77)) (r2 : Int) (w : World) (hr0_4 : Kd.C (Kd.int .u8) w A0_4 l0_4.length l0_4) (hc0_4 : l0_4.length ≤ c0_4) (hr0_8 : Kd.C k77 w A0_8 l0_8.length l0_8) (hc0_8 : l0_8.length ≤ c0_8) (hr0_9 : Kd.C k150 w A0_9 l0_9.length l0_9) (hc0_9 : l0_9.length ≤ c0_9) (hr0_10 : Kd.C k120 w A0_10 l0_10.length l0_10) (hc0_10 : l0_10.length ≤ c0_10) (h : edit_Whole.f a0_0 a0_1 a0_2 a0_3 l0_4 a0_5 a0_6 a0_7 l0_8 l0_9 l0_10 a1 = some (r1, r2)) :
  Calls Try.prog 53 #[.agg #[.int .i64 a0_0, .int .i64 a0_1, .string a0_2, .int .i64 a0_3, .slice A0_4 l0_4.length c0_4, .string a0_5, .string a0_6, .int .i64 a0_7, .slice A0_8 l0_8.length c0_8, .slice A0_9 l0_9.length c0_9, .slice A0_10 l0_10.length c0_10], .int .i64 a1] w fun e w' => ∃ v0_ : Value, e = .returned (.tuple #[v0_, .int .i64 r2]) ∧ Kd.R k77 77 w' w.heap.size (fun _ => True) v0_ r1 ∧ Below w.heap.size w w' := by
 unfold edit_Whole.f at h
 split at h
 ·rename_i hok
  have hV : whoV a0_0 a0_1 a0_2 a0_3 l0_4 a0_5 a0_6 a0_7 l0_8 l0_9 l0_10 a1 = (r1, r2) := Option.some.inj h
  have := whole_n a0_0 a0_1 a0_2 a0_3 A0_4 c0_4 l0_4 a0_5 a0_6 a0_7 A0_8 c0_8 l0_8 A0_9 c0_9 l0_9 A0_10 c0_10 l0_10 a1 w hok hc0_4 hc0_8 hc0_9 hc0_10 ⟨hr0_4, hr0_8, hr0_9, hr0_10⟩
  rw [hV] at this
  exact this
 ·cases h
end Go.Proofs.Ytpbhepdgamoiaaa.E
namespace Go.Proofs.Ytpbhepdgamoiaaa.Wr
open Go.RowKit Go Go.Proofs.YtpbhepdgamoiaaaW.PrintWords Go.Proofs.YtpbhepdgamoiaaaW.PrintLast Go.Proofs.YtpbhepdgamoiaaaW.PrintMore Go.Proofs.Ytpbhepdgamoiaaa.Mn Go.Proofs.Ytpbhepdgamoiaaa.Nd Go.Proofs.Ytpbhepdgamoiaaa.Z Go.Proofs.Ytpbhepdgamoiaaa.Rf Go.Proofs.Ytpbhepdgamoiaaa.Er Go.Proofs.Ytpbhepdgamoiaaa.E Go.Proofs.Ytpbhepdgamoiaaa.Jn Go.Proofs.Ytpbhepdgamoiaaa.Rp Go.Proofs.Ytpbhepdgamoiaaa.Tk Go.Proofs.Ytpbhepdgamoiaaa.Tw Go.Proofs.Ytpbhepdgamoiaaa.Wv Go.Proofs.Ytpbhepdgamoiaaa.Wo
set_option linter.unusedVariables false
set_option linter.unusedSimpArgs false
theorem upT {ms scale : Int} {edits : List Ed'} {samples : List Sm} (hs : 1 ≤ scale ∧ scale ≤ 1000000) (hm : 1 ≤ ms ∧ ms ≤ 1000000) (h0 : 0 ≤ endL samples 0) (he : ¬ 0 < edits.length) :
  whoT ms scale edits samples = if (endV (endL samples 0) scale ms).2 = 0 then (if (endV (endL samples 0) scale ms).1 = 0 then ([], 0) else ([⟨(endV (endL samples 0) scale ms).1, 0, 1, 1⟩], 0)) else ([], 2) := by
 unfold whoT
 rw [if_neg he]
 by_cases hz : endL samples 0 = 0
 ·rw [if_pos hz, hz]
  have : upV (qq 0 scale * qq ms 1) = 0 := up_zero (by omega)
  unfold endV
  rw [this]
  rfl
 ·rw [if_neg hz]
  have hp := up_pos (a := endL samples 0) (b := scale) (c := ms) (by omega) (by omega) (by omega)
  unfold endV
  by_cases hb : 1099511627776 < upV (qq (endL samples 0) scale * qq ms 1)
  ·rw [if_pos hb, if_pos hb, if_neg (by decide)]
  ·rw [if_neg hb, if_neg hb, if_pos rfl, if_neg (by show ¬ upV _ = 0; omega)]
section
variable (id kind : Int) (codec : ByteArray) (scale : Int) (A4 : Option Addr) (c4 : Nat) (setup : List Int) (lang name : ByteArray) (pr : Int) (A8 : Option Addr) (c8 : Nat) (edits : List Ed') (A9 : Option Addr) (c9 : Nat) (refs : List Rf) (A10 : Option Addr) (c10 : Nat) (samples : List Sm)
theorem end_n {ms : Int} (hm : 1 ≤ ms ∧ ms ≤ 1000000) (hk : chkT id kind codec scale setup lang name pr edits refs samples = 0) (hc4 : setup.length ≤ c4) (hc8 : edits.length ≤ c8) (hc9 : refs.length ≤ c9) (hc10 : samples.length ≤ c10) (W : World) (h : Hd A4 setup A8 edits A9 refs A10 samples W) :
  Calls Try.prog 112 #[.agg #[.int .i64 id, .int .i64 kind, .string codec, .int .i64 scale, .slice A4 setup.length c4, .string lang, .string name, .int .i64 pr, .slice A8 edits.length c8, .slice A9 refs.length c9, .slice A10 samples.length c10], .int .i64 ms] W (ValP W (.tuple #[.int .i64 (endV (endL samples 0) scale ms).1, .int .i64 (endV (endL samples 0) scale ms).2])) := by
 obtain ⟨k, hk⟩ := (end_f id kind codec scale setup lang name pr edits refs samples hm hk).rounds
 exact dioramaref10_end.calls k id kind codec scale A4 c4 setup lang name pr A8 c8 edits A9 c9 refs A10 c10 samples ms _ _ W h.s hc4 h.e hc8 h.r hc9 h.p hc10 hk
set_option maxHeartbeats 16000000 in
set_option maxRecDepth 100000 in
theorem rwhole_n (ms : Int) (w : World) (hm : 1 ≤ ms ∧ ms ≤ 1000000) (hk : chkT id kind codec scale setup lang name pr edits refs samples = 0) (hc4 : setup.length ≤ c4) (hc8 : edits.length ≤ c8) (hc9 : refs.length ≤ c9) (hc10 : samples.length ≤ c10) (hh : Hd A4 setup A8 edits A9 refs A10 samples w) :
  Calls Try.prog 55 #[.agg #[.int .i64 id, .int .i64 kind, .string codec, .int .i64 scale, .slice A4 setup.length c4, .string lang, .string name, .int .i64 pr, .slice A8 edits.length c8, .slice A9 refs.length c9, .slice A10 samples.length c10], .int .i64 ms] w (TP w (whoT ms scale edits samples)) := by
 have hu := Try.underlying71
 have hu2 := Try.underlying77
 have HH := Aside0.mk hh
 obtain ⟨hsc, hel, hsl, hsv⟩ := chkT_ok hk
 have HL := Aside0.mk hel
 have HV := Aside0.mk (show 0 < edits.length → whoT ms scale edits samples = (edits, 0) from fun h => by rw [whoT, if_pos h])
 have HV0 := Aside0.mk (fun h => upT (ms := ms) (scale := scale) (edits := edits) (samples := samples) hsc hm (end_rng samples 0 hsv (by decide) (by decide)).1 h)
 have HC := Aside0.mk (fun W (hb : Below w.heap.size w W) => end_n id kind codec scale A4 c4 setup lang name pr A8 c8 edits A9 c9 refs A10 c10 samples hm hk hc4 hc8 hc9 hc10 W (Hd.below A4 setup A8 edits A9 refs A10 samples hh hb))
 generalize whoT ms scale edits samples = V at *
 have HE := Aside0.mk (show (endV (endL samples 0) scale ms) = (0, 2) ∨ (endV (endL samples 0) scale ms).2 = 0 by
  unfold endV
  split
  ·exact .inl rfl
  ·exact .inr rfl)
 generalize endV (endL samples 0) scale ms = E at *
 clear hk hc4 hc8 hc9 hc10 hh hm hsc hel hsl hsv
 by_cases hl : 0 < edits.length
 ·have HV4 := Aside0.mk (HV.out hl)
  have hlb : decide ((edits.length : Int) > 0) = true := decide_eq_true (by omega)
  have hl2 := eq_true hl
  clear HV HV0 hl HC HE
  go_enter Try.func55, Try.ntmps55
  go_upto_region 1 with (first | ((with_reducible refine gate_dst (N := 2) rfl ?_); refine zB 2 71 #[.int .i64 id, .int .i64 kind, .string codec, .int .i64 scale, .slice A4 setup.length c4, .string lang, .string name, .int .i64 pr, .slice A8 edits.length c8, .slice A9 refs.length c9, .slice A10 samples.length c10] ?_; intro gb hg W0 hbox hb; subst hg; have HB := Aside0.mk (show Bt w W0 #[.int .i64 id, .int .i64 kind, .string codec, .int .i64 scale, .slice A4 setup.length c4, .string lang, .string name, .int .i64 pr, .slice A8 edits.length c8, .slice A9 refs.length c9, .slice A10 samples.length c10] from ⟨hbox, hb⟩); clear hbox hb))
  obtain ⟨q0, q1, q2, q3, q4, q5, q6, q7, q8, q9, qa⟩ := ten_cells HB.out.c
  go_wp2_with (first | ((with_reducible refine gate_builtin (b := .append) (xs := #[.const (.slice none 0 0), .tmp 13]) rfl ?_); at_builtin; refine Kd.R_append_rows k77 (w0 := w) w.heap.size rfl (.const (.slice none 0 0)) (.tmp 13) 22 77 (.agg #[(.int .i64 0), (.int .i64 0), (.int .i64 0), (.int .i64 0)]) 32 rfl Try.underlying22 info77 rfl (by decide) (by omega) (.slice none 0 0) [] edits _ _ _ (fun _ => True) (fun _ => False) rfl rfl (Kd.R_nil _ _ _ _ _) (Kd.C_below HH.out.e HB.out.below) (fun _ _ h => h) (fun _ h => h.elim) (fun _ _ => trivial) HB.out.below HB.out.below.size (by have := HL.out; (try simp only [List.length_nil]); omega) ?_; intro v6' w9 ho hb hg hat; obtain ⟨A6, c6, e6⟩ := Kd.R_slice ho; subst e6; have HO2 := Aside0.mk ho; have HB2 := Aside0.mk hb; clear ho hb hg hat))
  go_ret2
  rw [HV4.out]
  exact ⟨_, rfl, HO2.out, HB2.out⟩
 have HV4 := Aside0.mk (HV0.out hl)
 have hlb : decide ((edits.length : Int) > 0) = false := decide_eq_false (by omega)
 have hl2 := eq_false hl
 clear HV HV0 hl
 go_enter Try.func55, Try.ntmps55
 go_upto_region 1 with (first | ((with_reducible refine gate_dst (N := 2) rfl ?_); refine zB 2 71 #[.int .i64 id, .int .i64 kind, .string codec, .int .i64 scale, .slice A4 setup.length c4, .string lang, .string name, .int .i64 pr, .slice A8 edits.length c8, .slice A9 refs.length c9, .slice A10 samples.length c10] ?_; intro gb hg W0 hbox hb; subst hg; have HB := Aside0.mk (show Bt w W0 #[.int .i64 id, .int .i64 kind, .string codec, .int .i64 scale, .slice A4 setup.length c4, .string lang, .string name, .int .i64 pr, .slice A8 edits.length c8, .slice A9 refs.length c9, .slice A10 samples.length c10] from ⟨hbox, hb⟩); clear hbox hb))
 obtain ⟨q0, q1, q2, q3, q4, q5, q6, q7, q8, q9, qa⟩ := ten_cells HB.out.c
 go_wp2_with fail
 refine (HC.out W0 HB.out.below).mono ?_
 rintro e w2 ⟨rfl, hb2⟩
 have HB2 := Aside0.mk (HB.out.step hb2)
 clear hb2 HB HC q0 q1 q2 q3 q4 q5 q6 q7 q8 q9 qa
 rcases HE.out with hE | hE
 ·have HV5 := Aside0.mk (show V = ([], 2) by rw [HV4.out, hE, if_neg (by decide)])
  rw [hE]
  clear HV4 HE hE
  go_wp2_with fail
  go_ret2
  rw [HV5.out]
  exact ⟨_, rfl, Kd.R_nil _ _ _ _ _, HB2.out.below⟩
 ·have HV5 := Aside0.mk (show V = if E.1 = 0 then ([], 0) else ([⟨E.1, 0, 1, 1⟩], 0) by rw [HV4.out, if_pos hE])
  rw [hE]
  generalize E.1 = U at *
  clear HV4 HE hE
  by_cases hu0 : U = 0
  ·have HV6 := Aside0.mk (show V = ([], 0) by rw [HV5.out, if_pos hu0])
   have hub : (U == 0) = true := by rw [hu0]; rfl
   clear HV5 hu0
   go_wp2_with fail
   go_ret2
   rw [HV6.out]
   exact ⟨_, rfl, Kd.R_nil _ _ _ _ _, HB2.out.below⟩
  ·have HV6 := Aside0.mk (show V = ([⟨U, 0, 1, 1⟩], 0) by rw [HV5.out, if_neg hu0])
   have hub : (U == 0) = false := by simpa using hu0
   clear HV5 hu0
   have hrow := Aside0.mk (show Kd.R k77 77 (w2.alloc (.cells #[.int .i64 U, .int .i64 0, .int .i64 1, .int .i64 1] 77 (0, 0))) w.heap.size (fun _ => True) (.slice (some ⟨w2.heap.size, 0, none⟩) 1 1) [⟨U, 0, 1, 1⟩] from
    Bh.row (g := w2.heap.size) (R := [⟨U, 0, 1, 1⟩]) ⟨[], blk_new w2 _, Nat.le_refl _, rfl⟩ HB2.out.below.size (show 1 ≤ 1000000 by decide))
   have hbl := Aside0.mk (HB2.out.below.trans ((below_alloc (Below.refl w2.heap.size w2) (.cells #[.int .i64 U, .int .i64 0, .int .i64 1, .int .i64 1] 77 (0, 0))).mono HB2.out.below.size))
   go_wp2_with fail
   go_ret2
   rw [HV6.out]
   exact ⟨_, rfl, hrow.out, hbl.out⟩
end
end Go.Proofs.Ytpbhepdgamoiaaa.Wr
namespace Go.Proofs.Ytpbhepdgamoiaaa.E
open Go.RowKit Go Go.Proofs.YtpbhepdgamoiaaaW.PrintWords Go.Proofs.YtpbhepdgamoiaaaW.PrintLast Go.Proofs.YtpbhepdgamoiaaaW.PrintMore Go.Proofs.Ytpbhepdgamoiaaa.Tk Go.Proofs.Ytpbhepdgamoiaaa.Tw Go.Proofs.Ytpbhepdgamoiaaa.Wv Go.Proofs.Ytpbhepdgamoiaaa.Jn Go.Proofs.Ytpbhepdgamoiaaa.Wr
def dioramaref10_Whole.f (a0_0 : Int) (a0_1 : Int) (a0_2 : ByteArray) (a0_3 : Int) (l0_4 : List Int) (a0_5 : ByteArray) (a0_6 : ByteArray) (a0_7 : Int) (l0_8 : List (S77)) (l0_9 : List (S150)) (l0_10 : List (S120)) (a1 : Int) : Option ((List (S77)) × Int) := if chkT a0_0 a0_1 a0_2 a0_3 l0_4 a0_5 a0_6 a0_7 l0_8 l0_9 l0_10 = 0 ∧ 1 ≤ a1 ∧ a1 ≤ 1000000 then some (whoT a1 a0_3 l0_8 l0_10) else none
theorem dioramaref10_Whole.calls (a0_0 : Int) (a0_1 : Int) (a0_2 : ByteArray) (a0_3 : Int) (A0_4 : Option Addr) (c0_4 : Nat) (l0_4 : List Int) (a0_5 : ByteArray) (a0_6 : ByteArray) (a0_7 : Int) (A0_8 : Option Addr) (c0_8 : Nat) (l0_8 : List (S77)) (A0_9 : Option Addr) (c0_9 : Nat) (l0_9 : List (S150)) (A0_10 : Option Addr) (c0_10 : Nat) (l0_10 : List (S120)) (a1 : Int) (r1 : List (S77)) (r2 : Int) (w : World) (hr0_4 : Kd.C (Kd.int .u8) w A0_4 l0_4.length l0_4) (hc0_4 : l0_4.length ≤ c0_4) (hr0_8 : Kd.C k77 w A0_8 l0_8.length l0_8) (hc0_8 : l0_8.length ≤ c0_8) (hr0_9 : Kd.C k150 w A0_9 l0_9.length l0_9) (hc0_9 : l0_9.length ≤ c0_9) (hr0_10 : Kd.C k120 w A0_10 l0_10.length l0_10) (hc0_10 : l0_10.length ≤ c0_10) (h : dioramaref10_Whole.f a0_0 a0_1 a0_2 a0_3 l0_4 a0_5 a0_6 a0_7 l0_8 l0_9 l0_10 a1 = some (r1, r2)) :
  Calls Try.prog 55 #[.agg #[.int .i64 a0_0, .int .i64 a0_1, .string a0_2, .int .i64 a0_3, .slice A0_4 l0_4.length c0_4, .string a0_5, .string a0_6, .int .i64 a0_7, .slice A0_8 l0_8.length c0_8, .slice A0_9 l0_9.length c0_9, .slice A0_10 l0_10.length c0_10], .int .i64 a1] w fun e w' => ∃ v0_ : Value, e = .returned (.tuple #[v0_, .int .i64 r2]) ∧ Kd.R k77 77 w' w.heap.size (fun _ => True) v0_ r1 ∧ Below w.heap.size w w' := by
 unfold dioramaref10_Whole.f at h
 split at h
 ·rename_i hok
  have hV : whoT a1 a0_3 l0_8 l0_10 = (r1, r2) := Option.some.inj h
  have := rwhole_n a0_0 a0_1 a0_2 a0_3 A0_4 c0_4 l0_4 a0_5 a0_6 a0_7 A0_8 c0_8 l0_8 A0_9 c0_9 l0_9 A0_10 c0_10 l0_10 a1 w hok.2 hok.1 hc0_4 hc0_8 hc0_9 hc0_10 ⟨hr0_4, hr0_8, hr0_9, hr0_10⟩
  rw [hV] at this
  exact this
 ·cases h
end Go.Proofs.Ytpbhepdgamoiaaa.E
namespace Go.Proofs.Ytpbhepdgamoiaaa.E
open Go.Proofs.Ytpbhepdgamoiaaa.Z Go.RowKit Go.Proofs.YtpbhepdgamoiaaaW.PrintWords Go.Proofs.YtpbhepdgamoiaaaW.PrintLast Go.Proofs.YtpbhepdgamoiaaaW.PrintMore
attribute [local go_sem] max2_int min2_int max_two min_two max_three min_three max_four min_four
set_option linter.unusedVariables false
set_option linter.unusedSimpArgs false
def dioramalaw10_EditWhole.j0 : Nat → Int → List (S77) → Int → Bool → Int → Int → ByteArray → Int → List Int → ByteArray → ByteArray → Int → List (S77) → List (S150) → List (S120) → Option (Bool)
  | 0, _, _, _, _, _, _, _, _, _, _, _, _, _, _, _ => none
  | k + 1, x1, x5, x6, x21, x1307000, x1307001, x1307002, x1307003, x1307004, x1307005, x1307006, x1307007, x1307008, x1307009, x1307010 => if x21 = true then (if x6 = 1 then (if (x5.length : Int) = 0 then ((dioramalaw10_awake.f k).bind fun t1311 => (some t1311)) else (some false)) else (some false)) else ((dioramaref03_CheckTrack.f k x1307000 x1307001 x1307002 x1307003 x1307004 x1307005 x1307006 x1307007 x1307008 x1307009 x1307010).bind fun t1312 => (if t1312 = 0 then ((dioramaref10_Whole.f x1307000 x1307001 x1307002 x1307003 x1307004 x1307005 x1307006 x1307007 x1307008 x1307009 x1307010 x1).bind fun bt1313 => ((dioramalaw10_eq.f k x5 x6 bt1313.1 bt1313.2).bind fun t1317 => (if t1317 = true then ((dioramalaw10_awake.f k).bind fun t1318 => (some t1318)) else (some false)))) else (if x6 = t1312 then (if (x5.length : Int) = 0 then ((dioramalaw10_awake.f k).bind fun t1319 => (some t1319)) else (some false)) else (some false))))
def dioramalaw10_EditWhole.f (k : Nat) (a0_0 : Int) (a0_1 : Int) (a0_2 : ByteArray) (a0_3 : Int) (l0_4 : List Int) (a0_5 : ByteArray) (a0_6 : ByteArray) (a0_7 : Int) (l0_8 : List (S77)) (l0_9 : List (S150)) (l0_10 : List (S120)) (a1 : Int) : Option (Bool) := (edit_Whole.f a0_0 a0_1 a0_2 a0_3 l0_4 a0_5 a0_6 a0_7 l0_8 l0_9 l0_10 a1).bind fun bt1307 => (if a1 < 1 then (dioramalaw10_EditWhole.j0 k a1 bt1307.1 bt1307.2 true a0_0 a0_1 a0_2 a0_3 l0_4 a0_5 a0_6 a0_7 l0_8 l0_9 l0_10) else (dioramalaw10_EditWhole.j0 k a1 bt1307.1 bt1307.2 (decide (a1 > 1000000)) a0_0 a0_1 a0_2 a0_3 l0_4 a0_5 a0_6 a0_7 l0_8 l0_9 l0_10))
set_option maxHeartbeats 8000000 in
set_option maxRecDepth 100000 in
theorem dioramalaw10_EditWhole.calls (k : Nat) (a0_0 : Int) (a0_1 : Int) (a0_2 : ByteArray) (a0_3 : Int) (A0_4 : Option Addr) (c0_4 : Nat) (l0_4 : List Int) (a0_5 : ByteArray) (a0_6 : ByteArray) (a0_7 : Int) (A0_8 : Option Addr) (c0_8 : Nat) (l0_8 : List (S77)) (A0_9 : Option Addr) (c0_9 : Nat) (l0_9 : List (S150)) (A0_10 : Option Addr) (c0_10 : Nat) (l0_10 : List (S120)) (a1 : Int) (r : Bool) (w : World) (hr0_4 : Kd.C (Kd.int .u8) w A0_4 l0_4.length l0_4) (hc0_4 : l0_4.length ≤ c0_4) (hr0_8 : Kd.C k77 w A0_8 l0_8.length l0_8) (hc0_8 : l0_8.length ≤ c0_8) (hr0_9 : Kd.C k150 w A0_9 l0_9.length l0_9) (hc0_9 : l0_9.length ≤ c0_9) (hr0_10 : Kd.C k120 w A0_10 l0_10.length l0_10) (hc0_10 : l0_10.length ≤ c0_10) (h : dioramalaw10_EditWhole.f k a0_0 a0_1 a0_2 a0_3 l0_4 a0_5 a0_6 a0_7 l0_8 l0_9 l0_10 a1 = some r) :
  Calls Try.prog 17 #[.agg #[.int .i64 a0_0, .int .i64 a0_1, .string a0_2, .int .i64 a0_3, .slice A0_4 l0_4.length c0_4, .string a0_5, .string a0_6, .int .i64 a0_7, .slice A0_8 l0_8.length c0_8, .slice A0_9 l0_9.length c0_9, .slice A0_10 l0_10.length c0_10], .int .i64 a1] w fun e w' => e = .returned (.bool r) ∧ Below w.heap.size w w' := by
 have hu71 := Try.underlying71; have HR0_4 := Aside0.mk hr0_4; have HC0_4 := Aside0.mk hc0_4; clear hr0_4 hc0_4; have HR0_8 := Aside0.mk hr0_8; have HC0_8 := Aside0.mk hc0_8; clear hr0_8 hc0_8; have HR0_9 := Aside0.mk hr0_9; have HC0_9 := Aside0.mk hc0_9; clear hr0_9 hc0_9; have HR0_10 := Aside0.mk hr0_10; have HC0_10 := Aside0.mk hc0_10; clear hr0_10 hc0_10; have HB := Aside0.mk (Below.refl w.heap.size w); have H : ((edit_Whole.f a0_0 a0_1 a0_2 a0_3 l0_4 a0_5 a0_6 a0_7 l0_8 l0_9 l0_10 a1).bind fun bt1307 => (if a1 < 1 then (dioramalaw10_EditWhole.j0 k a1 bt1307.1 bt1307.2 true a0_0 a0_1 a0_2 a0_3 l0_4 a0_5 a0_6 a0_7 l0_8 l0_9 l0_10) else (dioramalaw10_EditWhole.j0 k a1 bt1307.1 bt1307.2 (decide (a1 > 1000000)) a0_0 a0_1 a0_2 a0_3 l0_4 a0_5 a0_6 a0_7 l0_8 l0_9 l0_10))) = some r := h
 clear h; obtain ⟨⟨t1307, t1310⟩, A3, H⟩ := ob H
 (try dsimp only at H)
 have HC4 := Aside0.mk H; clear H
 go_enter Try.func17, Try.ntmps17
 go_upto_region 2 with (first | ((with_reducible refine gate_dst (N := 2) rfl ?_); refine zB 2 71 #[.int .i64 a0_0, .int .i64 a0_1, .string a0_2, .int .i64 a0_3, .slice A0_4 l0_4.length c0_4, .string a0_5, .string a0_6, .int .i64 a0_7, .slice A0_8 l0_8.length c0_8, .slice A0_9 l0_9.length c0_9, .slice A0_10 l0_10.length c0_10] ?_; intro gb1306 hg w5 hbox hb; have BK1306 := Aside0.mk hbox; have GW1306 := gz hg; have GE1306 := gz hg; replace HB := bp hb; clear hb hbox hg; have hcz6_0 : w5.cell? ⟨gb1306, 0, none⟩ = some (.int .i64 a0_0) := ct BK1306 0; have hcz6_1 : w5.cell? ⟨gb1306, 1, none⟩ = some (.int .i64 a0_1) := ct BK1306 1; have hcz6_2 : w5.cell? ⟨gb1306, 2, none⟩ = some (.string a0_2) := ct BK1306 2; have hcz6_3 : w5.cell? ⟨gb1306, 3, none⟩ = some (.int .i64 a0_3) := ct BK1306 3; have hcz6_4 : w5.cell? ⟨gb1306, 4, none⟩ = some (.slice A0_4 l0_4.length c0_4) := ct BK1306 4; have hcz6_5 : w5.cell? ⟨gb1306, 5, none⟩ = some (.string a0_5) := ct BK1306 5; have hcz6_6 : w5.cell? ⟨gb1306, 6, none⟩ = some (.string a0_6) := ct BK1306 6; have hcz6_7 : w5.cell? ⟨gb1306, 7, none⟩ = some (.int .i64 a0_7) := ct BK1306 7; have hcz6_8 : w5.cell? ⟨gb1306, 8, none⟩ = some (.slice A0_8 l0_8.length c0_8) := ct BK1306 8; have hcz6_9 : w5.cell? ⟨gb1306, 9, none⟩ = some (.slice A0_9 l0_9.length c0_9) := ct BK1306 9; have hcz6_10 : w5.cell? ⟨gb1306, 10, none⟩ = some (.slice A0_10 l0_10.length c0_10) := ct BK1306 10; have hfz6_0 := blk_frozen BK1306.out 0; have hfz6_1 := blk_frozen BK1306.out 1; have hfz6_2 := blk_frozen BK1306.out 2; have hfz6_3 := blk_frozen BK1306.out 3; have hfz6_4 := blk_frozen BK1306.out 4; have hfz6_5 := blk_frozen BK1306.out 5; have hfz6_6 := blk_frozen BK1306.out 6; have hfz6_7 := blk_frozen BK1306.out 7; have hfz6_8 := blk_frozen BK1306.out 8; have hfz6_9 := blk_frozen BK1306.out 9; have hfz6_10 := blk_frozen BK1306.out 10) | ((with_reducible refine gate_callee (f := 53) rfl ?_); refine zC 13 Try.func53 #[.agg #[.int .i64 a0_0, .int .i64 a0_1, .string a0_2, .int .i64 a0_3, .slice A0_4 l0_4.length c0_4, .string a0_5, .string a0_6, .int .i64 a0_7, .slice A0_8 l0_8.length c0_8, .slice A0_9 l0_9.length c0_9, .slice A0_10 l0_10.length c0_10], .int .i64 a1] ?_; (with_reducible refine (edit_Whole.calls a0_0 a0_1 a0_2 a0_3 _ _ l0_4 a0_5 a0_6 a0_7 _ _ l0_8 _ _ l0_9 _ _ l0_10 a1 t1307 t1310 _ ?side1 ?side2 ?side3 ?side4 ?side5 ?side6 ?side7 ?side8 A3.out).mono ?_); (case side1 => exact cz HR0_4); (case side2 => exact HC0_4.out); (case side3 => exact cz HR0_8); (case side4 => exact HC0_8.out); (case side5 => exact cz HR0_9); (case side6 => exact HC0_9.out); (case side7 => exact cz HR0_10); (case side8 => exact HC0_10.out); rintro e w7 ⟨v1308, rfl, ho0, hb⟩; refine ⟨_, rfl, ?_⟩; have HO1309 := Aside0.mk (Kd.R_lower ho0 sz); replace BK1306 := kb BK1306 hb; replace HB := bp hb; clear hb ho0))
 (try simp only [Act.put, List.setIfInBounds_toArray, List.set_cons_zero, List.set_cons_succ])
 go_cut [21] (fun v21 wc => ∃ (kq : Nat) (x21_3 : Bool), v21 = .bool x21_3 ∧ Aside0 (dioramalaw10_EditWhole.j0 kq a1 t1307 t1310 x21_3 a0_0 a0_1 a0_2 a0_3 l0_4 a0_5 a0_6 a0_7 l0_8 l0_9 l0_10 = some r) ∧ Aside0 (kq ≤ k) ∧ Aside0 (Kd.R k77 77 wc w.heap.size (fun _ => True) v1308 t1307) ∧ Aside0 (wc.heap[gb1306]? = some (.cells #[.int .i64 a0_0, .int .i64 a0_1, .string a0_2, .int .i64 a0_3, (.slice A0_4 l0_4.length c0_4), .string a0_5, .string a0_6, .int .i64 a0_7, (.slice A0_8 l0_8.length c0_8), (.slice A0_9 l0_9.length c0_9), (.slice A0_10 l0_10.length c0_10)] 71 (0, 0))) ∧ Aside0 (Below w.heap.size w wc))
 case first =>
  have H := HC4.out; clear HC4
  by_cases c8 : a1 < 1
  ·rw [if_pos c8] at H; have c8b0 : decide (a1 < 1) = true := decide_eq_true c8; clear c8
   (first | rw [c8b0] | (simp only [i64_w, i32_w]; rw [c8b0]) | skip)
   have H' := Aside0.mk H; clear H
   go_wp2
   go_meet
   case rel => exact ⟨_, (true), jz, H', ⟨by first | omega | exact Nat.le_refl _⟩, ⟨rz HO1309⟩, ⟨kz⟩, ⟨bz⟩⟩
  ·rw [if_neg c8] at H; have c8b0 : decide (a1 < 1) = false := decide_eq_false c8; clear c8
   (first | rw [c8b0] | (simp only [i64_w, i32_w]; rw [c8b0]) | skip)
   have H' := Aside0.mk H; clear H
   go_wp2
   go_meet
   case rel => exact ⟨_, (decide (a1 > 1000000)), jz, H', ⟨by first | omega | exact Nat.le_refl _⟩, ⟨rz HO1309⟩, ⟨kz⟩, ⟨bz⟩⟩
 case rest =>
  clear HC4
  try clear c1
  try clear p2
  try clear c5
  try clear c8
  try clear c8b0
  try clear hcz6_0
  try clear hcz6_1
  try clear hcz6_10
  try clear hcz6_2
  try clear hcz6_3
  try clear hcz6_4
  try clear hcz6_5
  try clear hcz6_6
  try clear hcz6_7
  try clear hcz6_8
  try clear hcz6_9
  try clear hfz6_0
  try clear hfz6_1
  try clear hfz6_10
  try clear hfz6_2
  try clear hfz6_3
  try clear hfz6_4
  try clear hfz6_5
  try clear hfz6_6
  try clear hfz6_7
  try clear hfz6_8
  try clear hfz6_9
  obtain ⟨kq, x21_3, rfl, HA, HJ3, HO_5, BK1306, HB⟩ := hcut
  cases kq with
  | zero => exact absurd HA.out (by simp [dioramalaw10_EditWhole.j0])
  | succ kj3 =>
   have H := HA.out; clear HA; simp only [dioramalaw10_EditWhole.j0] at H
   by_cases c9 : x21_3 = true
   ·subst c9; rw [if_pos rfl] at H
    by_cases c10 : t1310 = 1
    ·rw [if_pos c10] at H; have c10b0 : (t1310 == 1) = true := beq_iff_eq.mpr c10; have c10b1 : (t1310 != 1) = false := bne_eq_false_iff_eq.mpr c10; clear c10
     by_cases c11 : (t1307.length : Int) = 0
     ·rw [if_pos c11] at H; have c11b0 : ((t1307.length : Int) == 0) = true := beq_iff_eq.mpr c11; have c11b1 : ((t1307.length : Int) != 0) = false := bne_eq_false_iff_eq.mpr c11; clear c11; obtain ⟨t1311, A12, H⟩ := ob H; obtain rfl := Option.some.inj H; obtain ⟨Ao13, co13, eo13⟩ := Kd.R_slice HO_5.out; subst eo13
      go_wp2_with (first | (go_at_call 20; (with_reducible refine (dioramalaw10_awake.calls kj3  t1311 _ A12.out).mono ?_); rintro e w14 ⟨rfl, hb⟩; replace HO_5 := Aside0.mk (Kd.R_below (rz HO_5) hb); replace BK1306 := kb BK1306 hb; replace HB := bp hb; clear hb))
      go_ret
      exact ⟨ez, bz⟩
     ·rw [if_neg c11] at H; have c11b0 : ((t1307.length : Int) == 0) = false := beq_eq_false_iff_ne.mpr c11; have c11b1 : ((t1307.length : Int) != 0) = true := bne_iff_ne.mpr c11; have c11b2 : ¬ (t1307 = []) := fun h_ => c11 (by rw [h_]; rfl)
      obtain rfl := Option.some.inj H; obtain ⟨Ao15, co15, eo15⟩ := Kd.R_slice HO_5.out; subst eo15
      go_wp2
      go_ret
      exact ⟨ez, bz⟩
    ·rw [if_neg c10] at H; have c10b0 : (t1310 == 1) = false := beq_eq_false_iff_ne.mpr c10; have c10b1 : (t1310 != 1) = true := bne_iff_ne.mpr c10; obtain rfl := Option.some.inj H
     go_wp2
     go_ret
     exact ⟨ez, bz⟩
   ·obtain rfl := bf c9; rw [if_neg (show ¬ (false = true) by decide)] at H; obtain ⟨t1312, A16, H⟩ := ob H
    by_cases c17 : t1312 = 0
    ·rw [if_pos c17] at H; have c17b0 : (t1312 == 0) = true := beq_iff_eq.mpr c17; have c17b1 : (t1312 != 0) = false := bne_eq_false_iff_eq.mpr c17; clear c17; obtain ⟨⟨t1313, t1316⟩, A18, H⟩ := ob H
     (try dsimp only at H)
     obtain ⟨t1317, A19, H⟩ := ob H
     by_cases c20 : t1317 = true
     ·subst c20; rw [if_pos rfl] at H; obtain ⟨t1318, A21, H⟩ := ob H; obtain rfl := Option.some.inj H; have hcz22_0 : wc.cell? ⟨gb1306, 0, none⟩ = some (.int .i64 a0_0) := ct BK1306 0; have hcz22_1 : wc.cell? ⟨gb1306, 1, none⟩ = some (.int .i64 a0_1) := ct BK1306 1; have hcz22_2 : wc.cell? ⟨gb1306, 2, none⟩ = some (.string a0_2) := ct BK1306 2; have hcz22_3 : wc.cell? ⟨gb1306, 3, none⟩ = some (.int .i64 a0_3) := ct BK1306 3; have hcz22_4 : wc.cell? ⟨gb1306, 4, none⟩ = some (.slice A0_4 l0_4.length c0_4) := ct BK1306 4; have hcz22_5 : wc.cell? ⟨gb1306, 5, none⟩ = some (.string a0_5) := ct BK1306 5; have hcz22_6 : wc.cell? ⟨gb1306, 6, none⟩ = some (.string a0_6) := ct BK1306 6; have hcz22_7 : wc.cell? ⟨gb1306, 7, none⟩ = some (.int .i64 a0_7) := ct BK1306 7; have hcz22_8 : wc.cell? ⟨gb1306, 8, none⟩ = some (.slice A0_8 l0_8.length c0_8) := ct BK1306 8; have hcz22_9 : wc.cell? ⟨gb1306, 9, none⟩ = some (.slice A0_9 l0_9.length c0_9) := ct BK1306 9; have hcz22_10 : wc.cell? ⟨gb1306, 10, none⟩ = some (.slice A0_10 l0_10.length c0_10) := ct BK1306 10; have hfz22_0 := blk_frozen BK1306.out 0; have hfz22_1 := blk_frozen BK1306.out 1; have hfz22_2 := blk_frozen BK1306.out 2; have hfz22_3 := blk_frozen BK1306.out 3; have hfz22_4 := blk_frozen BK1306.out 4; have hfz22_5 := blk_frozen BK1306.out 5; have hfz22_6 := blk_frozen BK1306.out 6; have hfz22_7 := blk_frozen BK1306.out 7; have hfz22_8 := blk_frozen BK1306.out 8; have hfz22_9 := blk_frozen BK1306.out 9; have hfz22_10 := blk_frozen BK1306.out 10
      go_wp2_with (first | ((with_reducible refine gate_callee (f := 54) rfl ?_); refine zC 33 Try.func54 #[.agg #[.int .i64 a0_0, .int .i64 a0_1, .string a0_2, .int .i64 a0_3, .slice A0_4 l0_4.length c0_4, .string a0_5, .string a0_6, .int .i64 a0_7, .slice A0_8 l0_8.length c0_8, .slice A0_9 l0_9.length c0_9, .slice A0_10 l0_10.length c0_10]] ?_; (with_reducible refine (dioramaref03_CheckTrack.calls kj3 a0_0 a0_1 a0_2 a0_3 _ _ l0_4 a0_5 a0_6 a0_7 _ _ l0_8 _ _ l0_9 _ _ l0_10 t1312 _ ?side1 ?side2 ?side3 ?side4 ?side5 ?side6 ?side7 ?side8 A16.out).mono ?_); (case side1 => exact cz HR0_4); (case side2 => exact HC0_4.out); (case side3 => exact cz HR0_8); (case side4 => exact HC0_8.out); (case side5 => exact cz HR0_9); (case side6 => exact HC0_9.out); (case side7 => exact cz HR0_10); (case side8 => exact HC0_10.out); rintro e w23 ⟨rfl, hb⟩; refine ⟨_, rfl, ?_⟩; replace HO_5 := Aside0.mk (Kd.R_below (rz HO_5) hb); replace BK1306 := kb BK1306 hb; replace HB := bp hb; clear hb; have hcz24_0 : w23.cell? ⟨gb1306, 0, none⟩ = some (.int .i64 a0_0) := ct BK1306 0; have hcz24_1 : w23.cell? ⟨gb1306, 1, none⟩ = some (.int .i64 a0_1) := ct BK1306 1; have hcz24_2 : w23.cell? ⟨gb1306, 2, none⟩ = some (.string a0_2) := ct BK1306 2; have hcz24_3 : w23.cell? ⟨gb1306, 3, none⟩ = some (.int .i64 a0_3) := ct BK1306 3; have hcz24_4 : w23.cell? ⟨gb1306, 4, none⟩ = some (.slice A0_4 l0_4.length c0_4) := ct BK1306 4; have hcz24_5 : w23.cell? ⟨gb1306, 5, none⟩ = some (.string a0_5) := ct BK1306 5; have hcz24_6 : w23.cell? ⟨gb1306, 6, none⟩ = some (.string a0_6) := ct BK1306 6; have hcz24_7 : w23.cell? ⟨gb1306, 7, none⟩ = some (.int .i64 a0_7) := ct BK1306 7; have hcz24_8 : w23.cell? ⟨gb1306, 8, none⟩ = some (.slice A0_8 l0_8.length c0_8) := ct BK1306 8; have hcz24_9 : w23.cell? ⟨gb1306, 9, none⟩ = some (.slice A0_9 l0_9.length c0_9) := ct BK1306 9; have hcz24_10 : w23.cell? ⟨gb1306, 10, none⟩ = some (.slice A0_10 l0_10.length c0_10) := ct BK1306 10; have hfz24_0 := blk_frozen BK1306.out 0; have hfz24_1 := blk_frozen BK1306.out 1; have hfz24_2 := blk_frozen BK1306.out 2; have hfz24_3 := blk_frozen BK1306.out 3; have hfz24_4 := blk_frozen BK1306.out 4; have hfz24_5 := blk_frozen BK1306.out 5; have hfz24_6 := blk_frozen BK1306.out 6; have hfz24_7 := blk_frozen BK1306.out 7; have hfz24_8 := blk_frozen BK1306.out 8; have hfz24_9 := blk_frozen BK1306.out 9; have hfz24_10 := blk_frozen BK1306.out 10) | ((with_reducible refine gate_callee (f := 55) rfl ?_); refine zC 50 Try.func55 #[.agg #[.int .i64 a0_0, .int .i64 a0_1, .string a0_2, .int .i64 a0_3, .slice A0_4 l0_4.length c0_4, .string a0_5, .string a0_6, .int .i64 a0_7, .slice A0_8 l0_8.length c0_8, .slice A0_9 l0_9.length c0_9, .slice A0_10 l0_10.length c0_10], .int .i64 a1] ?_; (with_reducible refine (dioramaref10_Whole.calls a0_0 a0_1 a0_2 a0_3 _ _ l0_4 a0_5 a0_6 a0_7 _ _ l0_8 _ _ l0_9 _ _ l0_10 a1 t1313 t1316 _ ?side1 ?side2 ?side3 ?side4 ?side5 ?side6 ?side7 ?side8 A18.out).mono ?_); (case side1 => exact cz HR0_4); (case side2 => exact HC0_4.out); (case side3 => exact cz HR0_8); (case side4 => exact HC0_8.out); (case side5 => exact cz HR0_9); (case side6 => exact HC0_9.out); (case side7 => exact cz HR0_10); (case side8 => exact HC0_10.out); rintro e w25 ⟨v1314, rfl, ho0, hb⟩; refine ⟨_, rfl, ?_⟩; have HO1315 := Aside0.mk (Kd.R_lower (Kd.R_new' ho0 (Kd.R_lt (rz HO_5))) sz); replace HO_5 := Aside0.mk (Kd.R_elder' (rz HO_5) (Kd.R_base ho0) hb); replace BK1306 := kb BK1306 hb; replace HB := bp hb; clear hb ho0; obtain ⟨Ao26, co26, eo26⟩ := Kd.R_slice HO_5.out; subst eo26; obtain ⟨Ao27, co27, eo27⟩ := Kd.R_slice HO1315.out; subst eo27) | ((with_reducible refine gate_callee (f := 23) rfl ?_); refine zC 57 Try.func23 #[.slice Ao26 t1307.length co26, .int .i64 t1310, .slice Ao27 t1313.length co27, .int .i64 t1316] ?_; (with_reducible refine (dioramalaw10_eq.calls kj3 _ _ t1307 t1310 _ _ t1313 t1316 true _ ?side1 ?side2 ?side3 ?side4 A19.out).mono ?_); (case side1 => exact cr HO_5); (case side2 => exact (Kd.R_reads' HO_5.out).2.1); (case side3 => exact cr HO1315); (case side4 => exact (Kd.R_reads' HO1315.out).2.1); rintro e w' ⟨rfl, ⟨nd, rfl⟩⟩; refine ⟨_, rfl, ?_⟩) | (go_at_call 20; (with_reducible refine (dioramalaw10_awake.calls kj3  t1318 _ A21.out).mono ?_); rintro e w28 ⟨rfl, hb⟩; replace HO_5 := Aside0.mk (Kd.R_below (rz HO_5) hb); replace HO1315 := Aside0.mk (Kd.R_below (rz HO1315) hb); replace BK1306 := kb BK1306 hb; replace HB := bp hb; clear hb))
      go_ret
      exact ⟨ez, bz⟩
     ·obtain rfl := bf c20; rw [if_neg (show ¬ (false = true) by decide)] at H; obtain rfl := Option.some.inj H; have hcz29_0 : wc.cell? ⟨gb1306, 0, none⟩ = some (.int .i64 a0_0) := ct BK1306 0; have hcz29_1 : wc.cell? ⟨gb1306, 1, none⟩ = some (.int .i64 a0_1) := ct BK1306 1; have hcz29_2 : wc.cell? ⟨gb1306, 2, none⟩ = some (.string a0_2) := ct BK1306 2; have hcz29_3 : wc.cell? ⟨gb1306, 3, none⟩ = some (.int .i64 a0_3) := ct BK1306 3; have hcz29_4 : wc.cell? ⟨gb1306, 4, none⟩ = some (.slice A0_4 l0_4.length c0_4) := ct BK1306 4; have hcz29_5 : wc.cell? ⟨gb1306, 5, none⟩ = some (.string a0_5) := ct BK1306 5; have hcz29_6 : wc.cell? ⟨gb1306, 6, none⟩ = some (.string a0_6) := ct BK1306 6; have hcz29_7 : wc.cell? ⟨gb1306, 7, none⟩ = some (.int .i64 a0_7) := ct BK1306 7; have hcz29_8 : wc.cell? ⟨gb1306, 8, none⟩ = some (.slice A0_8 l0_8.length c0_8) := ct BK1306 8; have hcz29_9 : wc.cell? ⟨gb1306, 9, none⟩ = some (.slice A0_9 l0_9.length c0_9) := ct BK1306 9; have hcz29_10 : wc.cell? ⟨gb1306, 10, none⟩ = some (.slice A0_10 l0_10.length c0_10) := ct BK1306 10; have hfz29_0 := blk_frozen BK1306.out 0; have hfz29_1 := blk_frozen BK1306.out 1; have hfz29_2 := blk_frozen BK1306.out 2; have hfz29_3 := blk_frozen BK1306.out 3; have hfz29_4 := blk_frozen BK1306.out 4; have hfz29_5 := blk_frozen BK1306.out 5; have hfz29_6 := blk_frozen BK1306.out 6; have hfz29_7 := blk_frozen BK1306.out 7; have hfz29_8 := blk_frozen BK1306.out 8; have hfz29_9 := blk_frozen BK1306.out 9; have hfz29_10 := blk_frozen BK1306.out 10
      go_wp2_with (first | ((with_reducible refine gate_callee (f := 54) rfl ?_); refine zC 33 Try.func54 #[.agg #[.int .i64 a0_0, .int .i64 a0_1, .string a0_2, .int .i64 a0_3, .slice A0_4 l0_4.length c0_4, .string a0_5, .string a0_6, .int .i64 a0_7, .slice A0_8 l0_8.length c0_8, .slice A0_9 l0_9.length c0_9, .slice A0_10 l0_10.length c0_10]] ?_; (with_reducible refine (dioramaref03_CheckTrack.calls kj3 a0_0 a0_1 a0_2 a0_3 _ _ l0_4 a0_5 a0_6 a0_7 _ _ l0_8 _ _ l0_9 _ _ l0_10 t1312 _ ?side1 ?side2 ?side3 ?side4 ?side5 ?side6 ?side7 ?side8 A16.out).mono ?_); (case side1 => exact cz HR0_4); (case side2 => exact HC0_4.out); (case side3 => exact cz HR0_8); (case side4 => exact HC0_8.out); (case side5 => exact cz HR0_9); (case side6 => exact HC0_9.out); (case side7 => exact cz HR0_10); (case side8 => exact HC0_10.out); rintro e w30 ⟨rfl, hb⟩; refine ⟨_, rfl, ?_⟩; replace HO_5 := Aside0.mk (Kd.R_below (rz HO_5) hb); replace BK1306 := kb BK1306 hb; replace HB := bp hb; clear hb; have hcz31_0 : w30.cell? ⟨gb1306, 0, none⟩ = some (.int .i64 a0_0) := ct BK1306 0; have hcz31_1 : w30.cell? ⟨gb1306, 1, none⟩ = some (.int .i64 a0_1) := ct BK1306 1; have hcz31_2 : w30.cell? ⟨gb1306, 2, none⟩ = some (.string a0_2) := ct BK1306 2; have hcz31_3 : w30.cell? ⟨gb1306, 3, none⟩ = some (.int .i64 a0_3) := ct BK1306 3; have hcz31_4 : w30.cell? ⟨gb1306, 4, none⟩ = some (.slice A0_4 l0_4.length c0_4) := ct BK1306 4; have hcz31_5 : w30.cell? ⟨gb1306, 5, none⟩ = some (.string a0_5) := ct BK1306 5; have hcz31_6 : w30.cell? ⟨gb1306, 6, none⟩ = some (.string a0_6) := ct BK1306 6; have hcz31_7 : w30.cell? ⟨gb1306, 7, none⟩ = some (.int .i64 a0_7) := ct BK1306 7; have hcz31_8 : w30.cell? ⟨gb1306, 8, none⟩ = some (.slice A0_8 l0_8.length c0_8) := ct BK1306 8; have hcz31_9 : w30.cell? ⟨gb1306, 9, none⟩ = some (.slice A0_9 l0_9.length c0_9) := ct BK1306 9; have hcz31_10 : w30.cell? ⟨gb1306, 10, none⟩ = some (.slice A0_10 l0_10.length c0_10) := ct BK1306 10; have hfz31_0 := blk_frozen BK1306.out 0; have hfz31_1 := blk_frozen BK1306.out 1; have hfz31_2 := blk_frozen BK1306.out 2; have hfz31_3 := blk_frozen BK1306.out 3; have hfz31_4 := blk_frozen BK1306.out 4; have hfz31_5 := blk_frozen BK1306.out 5; have hfz31_6 := blk_frozen BK1306.out 6; have hfz31_7 := blk_frozen BK1306.out 7; have hfz31_8 := blk_frozen BK1306.out 8; have hfz31_9 := blk_frozen BK1306.out 9; have hfz31_10 := blk_frozen BK1306.out 10) | ((with_reducible refine gate_callee (f := 55) rfl ?_); refine zC 50 Try.func55 #[.agg #[.int .i64 a0_0, .int .i64 a0_1, .string a0_2, .int .i64 a0_3, .slice A0_4 l0_4.length c0_4, .string a0_5, .string a0_6, .int .i64 a0_7, .slice A0_8 l0_8.length c0_8, .slice A0_9 l0_9.length c0_9, .slice A0_10 l0_10.length c0_10], .int .i64 a1] ?_; (with_reducible refine (dioramaref10_Whole.calls a0_0 a0_1 a0_2 a0_3 _ _ l0_4 a0_5 a0_6 a0_7 _ _ l0_8 _ _ l0_9 _ _ l0_10 a1 t1313 t1316 _ ?side1 ?side2 ?side3 ?side4 ?side5 ?side6 ?side7 ?side8 A18.out).mono ?_); (case side1 => exact cz HR0_4); (case side2 => exact HC0_4.out); (case side3 => exact cz HR0_8); (case side4 => exact HC0_8.out); (case side5 => exact cz HR0_9); (case side6 => exact HC0_9.out); (case side7 => exact cz HR0_10); (case side8 => exact HC0_10.out); rintro e w32 ⟨v1314, rfl, ho0, hb⟩; refine ⟨_, rfl, ?_⟩; have HO1315 := Aside0.mk (Kd.R_lower (Kd.R_new' ho0 (Kd.R_lt (rz HO_5))) sz); replace HO_5 := Aside0.mk (Kd.R_elder' (rz HO_5) (Kd.R_base ho0) hb); replace BK1306 := kb BK1306 hb; replace HB := bp hb; clear hb ho0; obtain ⟨Ao33, co33, eo33⟩ := Kd.R_slice HO_5.out; subst eo33; obtain ⟨Ao34, co34, eo34⟩ := Kd.R_slice HO1315.out; subst eo34) | ((with_reducible refine gate_callee (f := 23) rfl ?_); refine zC 57 Try.func23 #[.slice Ao33 t1307.length co33, .int .i64 t1310, .slice Ao34 t1313.length co34, .int .i64 t1316] ?_; (with_reducible refine (dioramalaw10_eq.calls kj3 _ _ t1307 t1310 _ _ t1313 t1316 false _ ?side1 ?side2 ?side3 ?side4 A19.out).mono ?_); (case side1 => exact cr HO_5); (case side2 => exact (Kd.R_reads' HO_5.out).2.1); (case side3 => exact cr HO1315); (case side4 => exact (Kd.R_reads' HO1315.out).2.1); rintro e w' ⟨rfl, ⟨nd, rfl⟩⟩; refine ⟨_, rfl, ?_⟩))
      go_ret
      exact ⟨ez, bz⟩
    ·rw [if_neg c17] at H; have c17b0 : (t1312 == 0) = false := beq_eq_false_iff_ne.mpr c17; have c17b1 : (t1312 != 0) = true := bne_iff_ne.mpr c17
     by_cases c35 : t1310 = t1312
     ·rw [if_pos c35] at H; have c35b0 : (t1310 == t1312) = true := beq_iff_eq.mpr c35; have c35b1 : (t1310 != t1312) = false := bne_eq_false_iff_eq.mpr c35; clear c35
      by_cases c36 : (t1307.length : Int) = 0
      ·rw [if_pos c36] at H; have c36b0 : ((t1307.length : Int) == 0) = true := beq_iff_eq.mpr c36; have c36b1 : ((t1307.length : Int) != 0) = false := bne_eq_false_iff_eq.mpr c36; clear c36; obtain ⟨t1319, A37, H⟩ := ob H; obtain rfl := Option.some.inj H; have hcz38_0 : wc.cell? ⟨gb1306, 0, none⟩ = some (.int .i64 a0_0) := ct BK1306 0; have hcz38_1 : wc.cell? ⟨gb1306, 1, none⟩ = some (.int .i64 a0_1) := ct BK1306 1; have hcz38_2 : wc.cell? ⟨gb1306, 2, none⟩ = some (.string a0_2) := ct BK1306 2; have hcz38_3 : wc.cell? ⟨gb1306, 3, none⟩ = some (.int .i64 a0_3) := ct BK1306 3; have hcz38_4 : wc.cell? ⟨gb1306, 4, none⟩ = some (.slice A0_4 l0_4.length c0_4) := ct BK1306 4; have hcz38_5 : wc.cell? ⟨gb1306, 5, none⟩ = some (.string a0_5) := ct BK1306 5; have hcz38_6 : wc.cell? ⟨gb1306, 6, none⟩ = some (.string a0_6) := ct BK1306 6; have hcz38_7 : wc.cell? ⟨gb1306, 7, none⟩ = some (.int .i64 a0_7) := ct BK1306 7; have hcz38_8 : wc.cell? ⟨gb1306, 8, none⟩ = some (.slice A0_8 l0_8.length c0_8) := ct BK1306 8; have hcz38_9 : wc.cell? ⟨gb1306, 9, none⟩ = some (.slice A0_9 l0_9.length c0_9) := ct BK1306 9; have hcz38_10 : wc.cell? ⟨gb1306, 10, none⟩ = some (.slice A0_10 l0_10.length c0_10) := ct BK1306 10; have hfz38_0 := blk_frozen BK1306.out 0; have hfz38_1 := blk_frozen BK1306.out 1; have hfz38_2 := blk_frozen BK1306.out 2; have hfz38_3 := blk_frozen BK1306.out 3; have hfz38_4 := blk_frozen BK1306.out 4; have hfz38_5 := blk_frozen BK1306.out 5; have hfz38_6 := blk_frozen BK1306.out 6; have hfz38_7 := blk_frozen BK1306.out 7; have hfz38_8 := blk_frozen BK1306.out 8; have hfz38_9 := blk_frozen BK1306.out 9; have hfz38_10 := blk_frozen BK1306.out 10
       go_wp2_with (first | ((with_reducible refine gate_callee (f := 54) rfl ?_); refine zC 33 Try.func54 #[.agg #[.int .i64 a0_0, .int .i64 a0_1, .string a0_2, .int .i64 a0_3, .slice A0_4 l0_4.length c0_4, .string a0_5, .string a0_6, .int .i64 a0_7, .slice A0_8 l0_8.length c0_8, .slice A0_9 l0_9.length c0_9, .slice A0_10 l0_10.length c0_10]] ?_; (with_reducible refine (dioramaref03_CheckTrack.calls kj3 a0_0 a0_1 a0_2 a0_3 _ _ l0_4 a0_5 a0_6 a0_7 _ _ l0_8 _ _ l0_9 _ _ l0_10 t1312 _ ?side1 ?side2 ?side3 ?side4 ?side5 ?side6 ?side7 ?side8 A16.out).mono ?_); (case side1 => exact cz HR0_4); (case side2 => exact HC0_4.out); (case side3 => exact cz HR0_8); (case side4 => exact HC0_8.out); (case side5 => exact cz HR0_9); (case side6 => exact HC0_9.out); (case side7 => exact cz HR0_10); (case side8 => exact HC0_10.out); rintro e w39 ⟨rfl, hb⟩; refine ⟨_, rfl, ?_⟩; replace HO_5 := Aside0.mk (Kd.R_below (rz HO_5) hb); replace BK1306 := kb BK1306 hb; replace HB := bp hb; clear hb; obtain ⟨Ao40, co40, eo40⟩ := Kd.R_slice HO_5.out; subst eo40) | (go_at_call 20; (with_reducible refine (dioramalaw10_awake.calls kj3  t1319 _ A37.out).mono ?_); rintro e w41 ⟨rfl, hb⟩; replace HO_5 := Aside0.mk (Kd.R_below (rz HO_5) hb); replace BK1306 := kb BK1306 hb; replace HB := bp hb; clear hb))
       go_ret
       exact ⟨ez, bz⟩
      ·rw [if_neg c36] at H; have c36b0 : ((t1307.length : Int) == 0) = false := beq_eq_false_iff_ne.mpr c36; have c36b1 : ((t1307.length : Int) != 0) = true := bne_iff_ne.mpr c36; have c36b2 : ¬ (t1307 = []) := fun h_ => c36 (by rw [h_]; rfl)
       obtain rfl := Option.some.inj H; have hcz42_0 : wc.cell? ⟨gb1306, 0, none⟩ = some (.int .i64 a0_0) := ct BK1306 0; have hcz42_1 : wc.cell? ⟨gb1306, 1, none⟩ = some (.int .i64 a0_1) := ct BK1306 1; have hcz42_2 : wc.cell? ⟨gb1306, 2, none⟩ = some (.string a0_2) := ct BK1306 2; have hcz42_3 : wc.cell? ⟨gb1306, 3, none⟩ = some (.int .i64 a0_3) := ct BK1306 3; have hcz42_4 : wc.cell? ⟨gb1306, 4, none⟩ = some (.slice A0_4 l0_4.length c0_4) := ct BK1306 4; have hcz42_5 : wc.cell? ⟨gb1306, 5, none⟩ = some (.string a0_5) := ct BK1306 5; have hcz42_6 : wc.cell? ⟨gb1306, 6, none⟩ = some (.string a0_6) := ct BK1306 6; have hcz42_7 : wc.cell? ⟨gb1306, 7, none⟩ = some (.int .i64 a0_7) := ct BK1306 7; have hcz42_8 : wc.cell? ⟨gb1306, 8, none⟩ = some (.slice A0_8 l0_8.length c0_8) := ct BK1306 8; have hcz42_9 : wc.cell? ⟨gb1306, 9, none⟩ = some (.slice A0_9 l0_9.length c0_9) := ct BK1306 9; have hcz42_10 : wc.cell? ⟨gb1306, 10, none⟩ = some (.slice A0_10 l0_10.length c0_10) := ct BK1306 10; have hfz42_0 := blk_frozen BK1306.out 0; have hfz42_1 := blk_frozen BK1306.out 1; have hfz42_2 := blk_frozen BK1306.out 2; have hfz42_3 := blk_frozen BK1306.out 3; have hfz42_4 := blk_frozen BK1306.out 4; have hfz42_5 := blk_frozen BK1306.out 5; have hfz42_6 := blk_frozen BK1306.out 6; have hfz42_7 := blk_frozen BK1306.out 7; have hfz42_8 := blk_frozen BK1306.out 8; have hfz42_9 := blk_frozen BK1306.out 9; have hfz42_10 := blk_frozen BK1306.out 10
       go_wp2_with (first | ((with_reducible refine gate_callee (f := 54) rfl ?_); refine zC 33 Try.func54 #[.agg #[.int .i64 a0_0, .int .i64 a0_1, .string a0_2, .int .i64 a0_3, .slice A0_4 l0_4.length c0_4, .string a0_5, .string a0_6, .int .i64 a0_7, .slice A0_8 l0_8.length c0_8, .slice A0_9 l0_9.length c0_9, .slice A0_10 l0_10.length c0_10]] ?_; (with_reducible refine (dioramaref03_CheckTrack.calls kj3 a0_0 a0_1 a0_2 a0_3 _ _ l0_4 a0_5 a0_6 a0_7 _ _ l0_8 _ _ l0_9 _ _ l0_10 t1312 _ ?side1 ?side2 ?side3 ?side4 ?side5 ?side6 ?side7 ?side8 A16.out).mono ?_); (case side1 => exact cz HR0_4); (case side2 => exact HC0_4.out); (case side3 => exact cz HR0_8); (case side4 => exact HC0_8.out); (case side5 => exact cz HR0_9); (case side6 => exact HC0_9.out); (case side7 => exact cz HR0_10); (case side8 => exact HC0_10.out); rintro e w43 ⟨rfl, hb⟩; refine ⟨_, rfl, ?_⟩; replace HO_5 := Aside0.mk (Kd.R_below (rz HO_5) hb); replace BK1306 := kb BK1306 hb; replace HB := bp hb; clear hb; obtain ⟨Ao44, co44, eo44⟩ := Kd.R_slice HO_5.out; subst eo44))
       go_ret
       exact ⟨ez, bz⟩
     ·rw [if_neg c35] at H; have c35b0 : (t1310 == t1312) = false := beq_eq_false_iff_ne.mpr c35; have c35b1 : (t1310 != t1312) = true := bne_iff_ne.mpr c35; obtain rfl := Option.some.inj H; have hcz45_0 : wc.cell? ⟨gb1306, 0, none⟩ = some (.int .i64 a0_0) := ct BK1306 0; have hcz45_1 : wc.cell? ⟨gb1306, 1, none⟩ = some (.int .i64 a0_1) := ct BK1306 1; have hcz45_2 : wc.cell? ⟨gb1306, 2, none⟩ = some (.string a0_2) := ct BK1306 2; have hcz45_3 : wc.cell? ⟨gb1306, 3, none⟩ = some (.int .i64 a0_3) := ct BK1306 3; have hcz45_4 : wc.cell? ⟨gb1306, 4, none⟩ = some (.slice A0_4 l0_4.length c0_4) := ct BK1306 4; have hcz45_5 : wc.cell? ⟨gb1306, 5, none⟩ = some (.string a0_5) := ct BK1306 5; have hcz45_6 : wc.cell? ⟨gb1306, 6, none⟩ = some (.string a0_6) := ct BK1306 6; have hcz45_7 : wc.cell? ⟨gb1306, 7, none⟩ = some (.int .i64 a0_7) := ct BK1306 7; have hcz45_8 : wc.cell? ⟨gb1306, 8, none⟩ = some (.slice A0_8 l0_8.length c0_8) := ct BK1306 8; have hcz45_9 : wc.cell? ⟨gb1306, 9, none⟩ = some (.slice A0_9 l0_9.length c0_9) := ct BK1306 9; have hcz45_10 : wc.cell? ⟨gb1306, 10, none⟩ = some (.slice A0_10 l0_10.length c0_10) := ct BK1306 10; have hfz45_0 := blk_frozen BK1306.out 0; have hfz45_1 := blk_frozen BK1306.out 1; have hfz45_2 := blk_frozen BK1306.out 2; have hfz45_3 := blk_frozen BK1306.out 3; have hfz45_4 := blk_frozen BK1306.out 4; have hfz45_5 := blk_frozen BK1306.out 5; have hfz45_6 := blk_frozen BK1306.out 6; have hfz45_7 := blk_frozen BK1306.out 7; have hfz45_8 := blk_frozen BK1306.out 8; have hfz45_9 := blk_frozen BK1306.out 9; have hfz45_10 := blk_frozen BK1306.out 10
      go_wp2_with (first | ((with_reducible refine gate_callee (f := 54) rfl ?_); refine zC 33 Try.func54 #[.agg #[.int .i64 a0_0, .int .i64 a0_1, .string a0_2, .int .i64 a0_3, .slice A0_4 l0_4.length c0_4, .string a0_5, .string a0_6, .int .i64 a0_7, .slice A0_8 l0_8.length c0_8, .slice A0_9 l0_9.length c0_9, .slice A0_10 l0_10.length c0_10]] ?_; (with_reducible refine (dioramaref03_CheckTrack.calls kj3 a0_0 a0_1 a0_2 a0_3 _ _ l0_4 a0_5 a0_6 a0_7 _ _ l0_8 _ _ l0_9 _ _ l0_10 t1312 _ ?side1 ?side2 ?side3 ?side4 ?side5 ?side6 ?side7 ?side8 A16.out).mono ?_); (case side1 => exact cz HR0_4); (case side2 => exact HC0_4.out); (case side3 => exact cz HR0_8); (case side4 => exact HC0_8.out); (case side5 => exact cz HR0_9); (case side6 => exact HC0_9.out); (case side7 => exact cz HR0_10); (case side8 => exact HC0_10.out); rintro e w46 ⟨rfl, hb⟩; refine ⟨_, rfl, ?_⟩; replace HO_5 := Aside0.mk (Kd.R_below (rz HO_5) hb); replace BK1306 := kb BK1306 hb; replace HB := bp hb; clear hb))
      go_ret
      exact ⟨ez, bz⟩
end Go.Proofs.Ytpbhepdgamoiaaa.E

namespace Go.Proofs.Ytpbhepdgamoiaaa.Op
open Go.ChangeShapes Go.WideShapes Go.ChangeAt Go.RowKit Go.Joins Go.Deep Go.Proofs.YtpbhepdgamoiaaaW.PrintWords
set_option linter.unusedVariables false
theorem list_of {α : Type} (P : Nat → α → Prop) (n : Nat) (h : ∀ i, i < n → ∃ x, P i x) : ∃ l : List α, l.length = n ∧ ∀ i x, l[i]? = some x → P i x := by
 induction n with
 | zero => exact ⟨[], rfl, by simp⟩
 | succ n ih =>
  obtain ⟨l, hl, hp⟩ := ih (fun i hi => h i (by omega))
  obtain ⟨x, hx⟩ := h n (by omega)
  refine ⟨l ++ [x], by simp [hl], fun i y hy => ?_⟩
  by_cases hi : i < l.length
  ·rw [List.getElem?_append_left hi] at hy
   exact hp i y hy
  ·have hi2 : i = l.length := by
    have := (List.getElem?_eq_some_iff.1 hy).1
    simp only [List.length_append, List.length_cons, List.length_nil] at this
    omega
   subst hi2
   simp only [Nat.le_refl, List.getElem?_append_right, Nat.sub_self, List.getElem?_cons_zero, Option.some.injEq] at hy
   subst hy
   rw [hl]
   exact hx
section
variable {H : Type} (enc : TypeId × Value → H) (P : Program) (w : World) (base : Nat) (spare : Nat → Bool) (held : Bool)
def Opens {α : Type} (d : Kd α) (W : α → Prop) (t : TypeId) : Prop := ∀ (fuel : Nat) (cs : List Value) (x : DataW H × List MemPlace), DataW.trod enc P w base spare held fuel t cs = some x → ∃ z, d.K w z cs ∧ W z
def OpensF {α : Type} (d : Kd α) (W : α → Prop) (fs : List (TypeId × Nat)) (at_ : Nat) : Prop := ∀ cs : List Value, cs.length = at_ + d.sz → (∀ f ∈ fs, ∃ (fuel : Nat) (x : DataW H × List MemPlace), DataW.trod enc P w base spare held fuel f.1 ((cs.drop f.2).take (P.cellsOf f.1)) = some x) → ∃ z, d.K w z (cs.drop at_) ∧ W z
variable {enc P w base spare held}
theorem opens_int {t : TypeId} {k : IntKind} (ht : P.underlying t = some (.int k)) : Opens enc P w base spare held (Kd.int k) (fun z => (Lit.int k z).wf = true) t := by
 intro fuel cs x h
 obtain ⟨z, rfl, _, hw⟩ := DataW.trod_int ht h
 exact ⟨z, rfl, hw⟩
theorem opens_bool {t : TypeId} (ht : P.underlying t = some .bool) : Opens enc P w base spare held Kd.bool (fun _ => True) t := by
 intro fuel cs x h
 obtain ⟨z, rfl, _⟩ := DataW.trod_bool ht h
 exact ⟨z, rfl, trivial⟩
theorem opens_string {t : TypeId} (ht : P.underlying t = some .string) : Opens enc P w base spare held Kd.string (fun z => z.size ≤ maxLen) t := by
 intro fuel cs x h
 obtain ⟨z, rfl, _, hw⟩ := DataW.trod_string ht h
 exact ⟨z, rfl, hw⟩
theorem opens_slice {α : Type} {d : Kd α} {W : α → Prop} {t e : TypeId} (ht : P.underlying t = some (.slice e)) (hc : P.cellsOf e = d.sz) (he : Opens enc P w base spare held d W e) : Opens enc P w base spare held (Kd.slice e d) (fun l => l.length ≤ maxLen ∧ ∀ x ∈ l, W x) t := by
 intro fuel cs x h
 rcases open_slice ht h with ⟨rfl, _⟩ | ⟨x, len, cap, m, k, D, Pl, rfl, _, hl, hm, hmm, _, hi⟩
 ·exact ⟨[], ⟨none, 0, rfl, Nat.le_refl _, Kd.C_nil _ _⟩, by simp, by simp⟩
 ·have hlm : len ≤ m := by rw [hmm]; split <;> omega
  obtain ⟨L, hL, hp⟩ := list_of (fun i z => ∃ cs', d.K w z cs' ∧ (∀ j u, cs'[j]? = some u → w.cell? (x.add (i * d.sz + j)) = some u) ∧ W z) len (fun i hlt => by
   obtain ⟨cs', hc', ht'⟩ := hi i (by omega)
   obtain ⟨z, hK, hw⟩ := he _ _ _ ht'
   rw [hc] at hc'
   obtain ⟨_, _, hat⟩ := World.cells?_some hc'
   refine ⟨z, cs', hK, fun j u hu => ?_, hw⟩
   have hj : j < d.sz := by
    have := (List.getElem?_eq_some_iff.1 hu).1
    rw [d.K_len hK] at this
    exact this
   have := hat j hj
   rw [← Go.Deep.add_add, this, hu])
  subst hL
  refine ⟨L, ⟨some x, cap, rfl, hl, ⟨rfl, by have := hm; unfold maxLen at this; omega, fun _ => ⟨x, rfl, fun j p hj => ?_⟩⟩⟩, by omega, fun z hz => ?_⟩
  ·obtain ⟨cs', h1, h2, _⟩ := hp j p hj
   exact ⟨cs', d.K_len h1, h1, h2⟩
  ·obtain ⟨i, hi2, he2⟩ := List.getElem_of_mem hz
   obtain ⟨_, _, _, h3⟩ := hp i z (by rw [List.getElem?_eq_getElem hi2, he2])
   exact h3
theorem opens_iso {α β : Type} {d : Kd α} {f : β → α} {W : α → Prop} {t : TypeId} (g : α → β) (hg : ∀ z, f (g z) = z) (h : Opens enc P w base spare held d W t) : Opens enc P w base spare held (Kd.iso d f) (fun x => W (f x)) t := by
 intro fuel cs x hx
 obtain ⟨z, hK, hW⟩ := h fuel cs x hx
 refine ⟨g z, ?_, ?_⟩
 ·show d.K w (f (g z)) cs
  rw [hg]
  exact hK
 ·show W (f (g z))
  rw [hg]
  exact hW
theorem opens_last {α : Type} {d : Kd α} {W : α → Prop} {t : TypeId} {s : Nat} (hc : P.cellsOf t = d.sz) (h : Opens enc P w base spare held d W t) : OpensF enc P w base spare held d W [(t, s)] s := by
 intro cs hl hf
 obtain ⟨fuel, x, hx⟩ := hf (t, s) (by simp)
 simp only at hx
 rw [hc, List.take_of_length_le (by rw [List.length_drop]; omega)] at hx
 exact h _ _ _ hx
theorem opens_pair {α β : Type} {a : Kd α} {b : Kd β} {Wa : α → Prop} {Wb : β → Prop} {t : TypeId} {s s2 : Nat} {fs : List (TypeId × Nat)} (hc : P.cellsOf t = a.sz) (hs : s2 = s + a.sz) (ha : Opens enc P w base spare held a Wa t) (hb : OpensF enc P w base spare held b Wb fs s2) : OpensF enc P w base spare held (Kd.pair a b) (fun z => Wa z.1 ∧ Wb z.2) ((t, s) :: fs) s := by
 intro cs hl hf
 have hsz : (Kd.pair a b).sz = a.sz + b.sz := rfl
 obtain ⟨fuel, x, hx⟩ := hf (t, s) (by simp)
 simp only at hx
 rw [hc] at hx
 obtain ⟨z0, k0, w0⟩ := ha _ _ _ hx
 obtain ⟨z1, k1, w1⟩ := hb cs (by omega) (fun f h => hf f (by simp [h]))
 refine ⟨(z0, z1), ⟨_, _, ?_, k0, k1⟩, w0, w1⟩
 rw [hs, ← List.drop_drop, List.take_append_drop]
theorem opens_struct {α : Type} {d : Kd α} {W : α → Prop} {t : TypeId} {fs : Array Field} (l : List (TypeId × Nat)) (ht : P.underlying t = some (.struct fs)) (hc : P.cellsOf t = d.sz) (hl : fs.toList.map (fun f => (f.type, f.offset)) = l) (h : OpensF enc P w base spare held d W l 0) : Opens enc P w base spare held d W t := by
 intro fuel cs x hx
 obtain ⟨xs, k, _, _, hlen, hxs, hg⟩ := DataW.trod_struct ht hx
 obtain ⟨z, hK, hW⟩ := h cs (by omega) (fun f hf => by
  rw [← hl] at hf
  obtain ⟨F, hF, rfl⟩ := List.mem_map.1 hf
  obtain ⟨i, hi, he⟩ := List.getElem_of_mem hF
  have h1 := hg i F (by rw [← Array.getElem?_toList, List.getElem?_eq_getElem hi, he])
  have hi2 : i < xs.length := by rw [hxs, ← Array.length_toList]; exact hi
  rw [List.getElem?_eq_getElem hi2] at h1
  exact ⟨k, _, h1⟩)
 rw [List.drop_zero] at hK
 exact ⟨z, hK, hW⟩
theorem open_given {α : Type} {d : Kd α} {W : α → Prop} {t : TypeId} {fs : Array Field} {r : Reach} {b0 : Nat} {v : Value} {x : DataW H} {p : List MemPlace} (hs : P.underlying t = some (.struct fs)) (ho : Opens enc P w base spare held d W t) (hv : Value.okWide P w r b0 t v) (h : DataW.Trod enc P w base spare held t v x p) : ∃ cs z, v = .agg cs ∧ d.K w z cs.toList ∧ W z := by
 obtain ⟨cs, rfl, hsz⟩ := okWide_struct hs hv
 obtain ⟨fuel, hf⟩ := h
 obtain ⟨z, hK, hW⟩ := ho _ _ _ hf
 exact ⟨cs, z, rfl, by simpa [Value.cells] using hK, hW⟩
end
end Go.Proofs.Ytpbhepdgamoiaaa.Op
namespace Go.Proofs.Ytpbhepdgamoiaaa.Hw
open Go.ChangeShapes Go.WideShapes Go.ChangeAt Go.RowKit Go Go.Proofs.YtpbhepdgamoiaaaW.PrintWords Go.Proofs.YtpbhepdgamoiaaaW.PrintLast Go.Proofs.YtpbhepdgamoiaaaW.PrintMore Go.Proofs.Ytpbhepdgamoiaaa.Mn Go.Proofs.Ytpbhepdgamoiaaa.E Go.Proofs.Ytpbhepdgamoiaaa.Pe Go.Proofs.Ytpbhepdgamoiaaa.Pg Go.Proofs.Ytpbhepdgamoiaaa.Qe Go.Proofs.Ytpbhepdgamoiaaa.Tk Go.Proofs.Ytpbhepdgamoiaaa.Tw Go.Proofs.Ytpbhepdgamoiaaa.Wv Go.Proofs.Ytpbhepdgamoiaaa.Wo Go.Proofs.Ytpbhepdgamoiaaa.Wr Go.Proofs.Ytpbhepdgamoiaaa.Op
set_option linter.unusedVariables false
set_option linter.unusedSimpArgs false
section
variable (id kind : Int) (codec : ByteArray) (scale : Int) (setup : List Int) (lang name : ByteArray) (pr : Int) (edits : List Ed') (refs : List Rf) (samples : List Sm)
theorem whoT_len {ms : Int} (h : edits.length ≤ 20) : (whoT ms scale edits samples).1.length ≤ 1000000 := by
 unfold whoT
 split
 ·show edits.length ≤ 1000000
  omega
 ·split
  ·simp
  ·split <;> simp
theorem pure_Hw (ms : Int) (hok : okB codec lang name refs = true) : Ev (fun k => dioramalaw10_EditWhole.f k id kind codec scale setup lang name pr edits refs samples ms) true := by
 have aw : Ev (fun k => (dioramalaw10_awake.f k).bind fun t => (some t)) true := Ev.bind awake_f (Ev.now _)
 have hb := hok
 unfold okB at hb
 simp only [Bool.and_eq_true, decide_eq_true_eq, List.all_eq_true] at hb
 have hc := rCheckTrack_f id kind codec scale setup lang name pr edits refs samples hb.1 hb.2.1 hb.2.2.1 hb.2.2.2.1 hb.2.2.2.2
 have hl : chkT id kind codec scale setup lang name pr edits refs samples = 0 → edits.length ≤ 20 := fun h => (chkT_ok h).2.1
 have hw : edit_Whole.f id kind codec scale setup lang name pr edits refs samples ms = some (whoV id kind codec scale setup lang name pr edits refs samples ms) := by
  unfold edit_Whole.f
  rw [if_pos hok]
 unfold dioramalaw10_EditWhole.f
 rw [hw]
 simp only [Option.bind_some]
 have bad : ∀ l e, (l, e) = (([], 1) : List Ed' × Int) → Ev (fun k => dioramalaw10_EditWhole.j0 k ms l e true id kind codec scale setup lang name pr edits refs samples) true := by
  rintro l e h
  obtain ⟨rfl, rfl⟩ := Prod.mk.inj h
  exact Ev.step (fun k => by rw [dioramalaw10_EditWhole.j0]) (Ev.congr (fun k => if_pos rfl) (Ev.congr (fun k => if_pos rfl) (Ev.congr (fun k => if_pos (by simp)) aw)))
 by_cases h1 : ms < 1
 ·refine Ev.congr (fun k => if_pos h1) (bad _ _ ?_)
  unfold whoV
  rw [if_neg (by omega)]
 refine Ev.congr (fun k => if_neg h1) ?_
 by_cases h2 : ms > 1000000
 ·rw [decide_eq_true h2]
  refine bad _ _ ?_
  unfold whoV
  rw [if_neg (by omega)]
 rw [decide_eq_false h2]
 refine Ev.step (fun k => by rw [dioramalaw10_EditWhole.j0]) (Ev.congr (fun k => if_neg (by decide)) (Ev.bind hc ?_))
 unfold whoV
 rw [if_pos (show 1 ≤ ms ∧ ms ≤ 1000000 by omega)]
 by_cases hz : chkT id kind codec scale setup lang name pr edits refs samples = 0
 ·rw [if_pos hz]
  refine Ev.congr (fun k => if_pos hz) ?_
  have hr : dioramaref10_Whole.f id kind codec scale setup lang name pr edits refs samples ms = some (whoT ms scale edits samples) := by
   unfold dioramaref10_Whole.f
   rw [if_pos ⟨hz, by omega, by omega⟩]
  rw [hr]
  simp only [Option.bind_some]
  exact Ev.bind (eq_f _ _ (whoT_len scale edits samples (hl hz))) (Ev.congr (fun k => if_pos rfl) aw)
 ·rw [if_neg hz]
  exact Ev.congr (fun k => if_neg hz) (Ev.congr (fun k => if_pos rfl) (Ev.congr (fun k => if_pos (by simp)) aw))
end
structure Tr (W : World) (codec : ByteArray) (A4 : Option Addr) (c4 : Nat) (setup : List Int) (lang name : ByteArray) (A8 : Option Addr) (c8 : Nat) (edits : List Ed') (A9 : Option Addr) (c9 : Nat) (refs : List Rf) (A10 : Option Addr) (c10 : Nat) (samples : List Sm) : Prop where
 ok : okB codec lang name refs = true
 h : Hd A4 setup A8 edits A9 refs A10 samples W
 c4 : setup.length ≤ c4
 c8 : edits.length ≤ c8
 c9 : refs.length ≤ c9
 c10 : samples.length ≤ c10
theorem walk_Hw (id kind : Int) (codec : ByteArray) (scale : Int) (A4 : Option Addr) (c4 : Nat) (setup : List Int) (lang name : ByteArray) (pr : Int) (A8 : Option Addr) (c8 : Nat) (edits : List Ed') (A9 : Option Addr) (c9 : Nat) (refs : List Rf) (A10 : Option Addr) (c10 : Nat) (samples : List Sm) (ms : Int) (w : World) (h : Tr w codec A4 c4 setup lang name A8 c8 edits A9 c9 refs A10 c10 samples) (_ : (Lit.int .i64 ms).wf = true) :
  Calls Try.prog 17 #[.agg #[.int .i64 id, .int .i64 kind, .string codec, .int .i64 scale, .slice A4 setup.length c4, .string lang, .string name, .int .i64 pr, .slice A8 edits.length c8, .slice A9 refs.length c9, .slice A10 samples.length c10], .int .i64 ms] w (fun e w' => e = .returned (.bool true) ∧ Below w.heap.size w w') := by
 obtain ⟨k, hk⟩ := (pure_Hw id kind codec scale setup lang name pr edits refs samples ms h.ok).rounds
 exact dioramalaw10_EditWhole.calls k id kind codec scale A4 c4 setup lang name pr A8 c8 edits A9 c9 refs A10 c10 samples ms true w h.h.s h.c4 h.h.e h.c8 h.h.r h.c9 h.h.p h.c10 hk
section
variable {H : Type} {enc : TypeId × Value → H} {w : World} {base : Nat} {spare : Nat → Bool} {held : Bool}
theorem laidOut : laidOutB Try.prog = true := by kernel_rfl
theorem own : ownKnob Try.prog.godebug = none := by kernel_rfl
theorem op_int : Opens enc Try.prog w base spare held (Kd.int .i64) (fun z => (Lit.int .i64 z).wf = true) 3 := opens_int Try.underlying3
theorem op_str : Opens enc Try.prog w base spare held Kd.string (fun z => z.size ≤ maxLen) 9 := opens_string Try.underlying9
set_option maxRecDepth 100000 in
theorem op_edit : Opens enc Try.prog w base spare held k77 (fun _ => True) 77 := by
 have h := opens_struct (enc := enc) (w := w) (base := base) (spare := spare) (held := held) [(3, 0), (3, 1), (3, 2), (3, 3)] Try.underlying77 (by kernel_rfl) rfl
  (opens_pair (by kernel_rfl) rfl op_int (opens_pair (by kernel_rfl) rfl op_int (opens_pair (by kernel_rfl) rfl op_int (opens_last (by kernel_rfl) op_int))))
 intro fuel cs x hx
 obtain ⟨z, h1, _⟩ := opens_iso (f := fun x : S77 => (x.f0, x.f1, x.f2, x.f3)) (fun z => ⟨z.1, z.2.1, z.2.2.1, z.2.2.2⟩) (fun z => rfl) h fuel cs x hx
 exact ⟨z, h1, trivial⟩
set_option maxRecDepth 100000 in
theorem op_ref : Opens enc Try.prog w base spare held k150 (fun z => z.f0.size ≤ maxLen) 150 := by
 have h := opens_struct (enc := enc) (w := w) (base := base) (spare := spare) (held := held) [(9, 0), (3, 1)] Try.underlying150 (by kernel_rfl) rfl
  (opens_pair (by kernel_rfl) rfl op_str (opens_last (by kernel_rfl) op_int))
 intro fuel cs x hx
 obtain ⟨z, h1, h2⟩ := opens_iso (f := fun x : S150 => (x.f0, x.f1)) (fun z => ⟨z.1, z.2⟩) (fun z => rfl) h fuel cs x hx
 exact ⟨z, h1, h2.1⟩
set_option maxRecDepth 100000 in
theorem op_sample : Opens enc Try.prog w base spare held k120 (fun _ => True) 120 := by
 have h := opens_struct (enc := enc) (w := w) (base := base) (spare := spare) (held := held) [(3, 0), (3, 1), (3, 2), (4, 3), (92, 4), (67, 5)] Try.underlying120 (by kernel_rfl) rfl
  (opens_pair (by kernel_rfl) rfl op_int (opens_pair (by kernel_rfl) rfl op_int (opens_pair (by kernel_rfl) rfl op_int (opens_pair (by kernel_rfl) rfl (opens_bool Try.underlying4) (opens_pair (by kernel_rfl) rfl (opens_slice Try.underlying92 (by kernel_rfl) op_int) (opens_last (by kernel_rfl) (opens_slice Try.underlying67 (by kernel_rfl) (opens_int Try.underlying5))))))))
 intro fuel cs x hx
 obtain ⟨z, h1, _⟩ := opens_iso (f := fun x : S120 => (x.f0, x.f1, x.f2, x.f3, x.f4, x.f5)) (fun z => ⟨z.1, z.2.1, z.2.2.1, z.2.2.2.1, z.2.2.2.2.1, z.2.2.2.2.2⟩) (fun z => rfl) h fuel cs x hx
 exact ⟨z, h1, trivial⟩
set_option maxRecDepth 100000 in
theorem open_track {r : Reach} {b0 : Nat} {v : Value} {d : DataW H} {p : List MemPlace} (hv : Value.okWide Try.prog w r b0 71 v) (h : DataW.Trod enc Try.prog w base spare held 71 v d p) :
  ∃ id kind codec scale A4 c4 setup lang name pr A8 c8 edits A9 c9 refs A10 c10 samples, v = .agg #[.int .i64 id, .int .i64 kind, .string codec, .int .i64 scale, .slice A4 setup.length c4, .string lang, .string name, .int .i64 pr, .slice A8 edits.length c8, .slice A9 refs.length c9, .slice A10 samples.length c10] ∧ Tr w codec A4 c4 setup lang name A8 c8 edits A9 c9 refs A10 c10 samples := by
 have ho := opens_struct (enc := enc) (w := w) (base := base) (spare := spare) (held := held) [(3, 0), (3, 1), (9, 2), (3, 3), (67, 4), (9, 5), (9, 6), (3, 7), (22, 8), (68, 9), (69, 10)] Try.underlying71 (by kernel_rfl) rfl
  (opens_pair (by kernel_rfl) rfl op_int (opens_pair (by kernel_rfl) rfl op_int (opens_pair (by kernel_rfl) rfl op_str (opens_pair (by kernel_rfl) rfl op_int (opens_pair (by kernel_rfl) rfl (opens_slice Try.underlying67 (by kernel_rfl) (opens_int Try.underlying5)) (opens_pair (by kernel_rfl) rfl op_str (opens_pair (by kernel_rfl) rfl op_str (opens_pair (by kernel_rfl) rfl op_int (opens_pair (by kernel_rfl) rfl (opens_slice Try.underlying22 (by kernel_rfl) op_edit) (opens_pair (by kernel_rfl) rfl (opens_slice Try.underlying68 (by kernel_rfl) op_ref) (opens_last (by kernel_rfl) (opens_slice Try.underlying69 (by kernel_rfl) op_sample))))))))))))
 obtain ⟨cs, z, rfl, hK, hW⟩ := open_given Try.underlying71 ho hv h
 obtain ⟨x0, x1, x2, x3, x4, x5, x6, x7, x8, x9, xa⟩ := z
 obtain ⟨_, _, w2, _, w4, w5, w6, _, w8, w9, wa⟩ := hW
 obtain ⟨l⟩ := cs
 obtain ⟨_, _, e, rfl, ⟨_, _, rfl, rfl, ⟨_, _, rfl, rfl, ⟨_, _, rfl, rfl, ⟨_, _, rfl, ⟨A4, c4, rfl, l4, g4⟩, ⟨_, _, rfl, rfl, ⟨_, _, rfl, rfl, ⟨_, _, rfl, rfl, ⟨_, _, rfl, ⟨A8, c8, rfl, l8, g8⟩, ⟨_, _, rfl, ⟨A9, c9, rfl, l9, g9⟩, ⟨A10, c10, rfl, l10, g10⟩⟩⟩⟩⟩⟩⟩⟩⟩⟩⟩ := hK
 have e' : l = [.int .i64 x0, .int .i64 x1, .string x2, .int .i64 x3, .slice A4 x4.length c4, .string x5, .string x6, .int .i64 x7, .slice A8 x8.length c8, .slice A9 x9.length c9, .slice A10 xa.length c10] := e
 subst e'
 refine ⟨x0, x1, x2, x3, A4, c4, x4, x5, x6, x7, A8, c8, x8, A9, c9, x9, A10, c10, xa, rfl, ⟨?_, ⟨g4, g8, g9, g10⟩, l4, l8, l9, l10⟩⟩
 unfold okB
 simp only [Bool.and_eq_true, decide_eq_true_eq, List.all_eq_true]
 exact ⟨w2, w5, w6, w9.1, w9.2⟩
end
end Go.Proofs.Ytpbhepdgamoiaaa.Hw

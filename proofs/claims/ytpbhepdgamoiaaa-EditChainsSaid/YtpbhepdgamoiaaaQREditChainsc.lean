/-
  Fractions of package num as rational numbers: NewRat, Mul, Add, Sub, Cmp, IsInt. edit's rational numbers: ratio, mul, add, and the media tick behind an edit's begin. edit's lowest rate of an edit, what two edits have in common, and whether one goes over into the next. Lists of edits as plain values: the first error, the normal list, the length; and that the code tells them. Fractions of package num: Sub. edit's number of a time, time of a number, difference of numbers. edit.Media: the walk. The reference's lowest rate of an edit. edit's whole of a rational number that is not below 0. edit's lowest, over and Length, told as functions of numbers and lists. Edits that come in, opened: a list of edits, a list with its clocks, two numbers.
-/
import Derived.Test.YtpbhepdgamoiaaaQREditChainsb
import Derived.Test.YtpbhepdgamoiaaaQREditChainsWEqStruct
import Derived.Outline
import Derived.Test.YtpbhepdgamoiaaaQREditChainsa
import Derived.Test.YtpbhepdgamoiaaaProg
import Derived.Below
import Derived.Deep.Draws
import Derived.Deep.AppendLies
import Derived.Maps.AppendAt
import Derived.OwnWalk
import Derived.Laws.BytesArg
import Derived.Laws.MakeOwn
import Derived.Laws.OwnMore
import Derived.Deep.OwnRows
import Derived.Tactics
import Derived.Lib.ConvBytes
import Derived.Laws.Slices
import Derived.WalkKit
import Derived.KernelRfl
import Derived.RowKit3
import Derived.Deep.LoopGhost
import Derived.Deep.QuietTactic
import Derived.BigQuiet
import Derived.WideLaws
import Derived.Deep.DeepCutAuto
import Derived.Deep.CutBlock
import Derived.Deep.RegionHeld3
import Derived.Laws.Rows
import Derived.Lib.AppendStr
import Derived.ArgAppend
import Derived.Laws.IdiomCopy
import Derived.OrdersHeld
import Derived.Laws.BitsLemmas
import Derived.RowKit
import Derived.WalkMore
import Derived.Test.YtpbhepdgamoiaaaQREditChainsWWords
import Derived.Test.YtpbhepdgamoiaaaQREditChainsWLast
import Derived.Test.YtpbhepdgamoiaaaQREditChainsWTab
import Derived.Test.YtpbhepdgamoiaaaQREditChainsWQPut
import Derived.Test.YtpbhepdgamoiaaaQREditChainsWApart
import Derived.Test.YtpbhepdgamoiaaaQREditChainsWArr
import Derived.Test.YtpbhepdgamoiaaaQREditChainsWZeros
import Derived.Test.YtpbhepdgamoiaaaQREditChainsWFoot
import Derived.Test.YtpbhepdgamoiaaaQREditChainsWKept
import Derived.Test.YtpbhepdgamoiaaaQREditChainsWShare
import Derived.Test.YtpbhepdgamoiaaaQREditChainsWN
import Derived.Test.YtpbhepdgamoiaaaQREditChainsWFootNe
import Derived.Test.YtpbhepdgamoiaaaQREditChainsWAt
import Derived.Test.YtpbhepdgamoiaaaQREditChainsWRepsOne
import Derived.Test.YtpbhepdgamoiaaaQREditChainsWNEv
import Derived.Test.YtpbhepdgamoiaaaQREditChainsWMore
import Derived.Test.YtpbhepdgamoiaaaChecked
import Derived.Lib.SmallJoins
import Derived.ProofKit
import Derived.Deep.Slices
import Derived.Deep.Fields
import Derived.ChangeSame
namespace Go.Proofs.Ytpbhepdgamoiaaa.Rf
open Go.RowKit Go Go.Proofs.YtpbhepdgamoiaaaW.PrintWords Go.Proofs.YtpbhepdgamoiaaaW.PrintLast Go.Proofs.YtpbhepdgamoiaaaW.PrintMore Go.Proofs.Ytpbhepdgamoiaaa.Ml Go.Proofs.Ytpbhepdgamoiaaa.Mn Go.Proofs.Ytpbhepdgamoiaaa.Nd Go.Proofs.Ytpbhepdgamoiaaa.Z Go.Proofs.Ytpbhepdgamoiaaa.P Go.Proofs.Ytpbhepdgamoiaaa.Nc Go.Proofs.Ytpbhepdgamoiaaa.Nb Go.Proofs.Ytpbhepdgamoiaaa.Qa Go.Proofs.Ytpbhepdgamoiaaa.Ea Go.Proofs.Ytpbhepdgamoiaaa.Ra
set_option linter.unusedVariables false
set_option linter.unusedSimpArgs false
def qq (a b : Int) : Rat := Rat.divInt a b
theorem rat_low {a b : Int} (hb : b ≠ 0) : ratN a b = (qq a b).num ∧ ratD a b = ((qq a b).den : Int) := by
 unfold qq ratN ratD lowN lowD
 rw [Rat.num_divInt, Rat.den_divInt, if_neg hb]
 rcases Int.lt_or_le b 0 with h | h
 ·rw [if_pos h, if_pos h, Int.sign_eq_neg_one_of_neg h, Int.neg_gcd, Int.gcd_neg, Int.gcd_comm b a]
  refine ⟨by rw [Int.neg_one_mul], ?_⟩
  rw [Int.natCast_ediv, Int.ofNat_natAbs_of_nonpos (by omega)]
 ·rw [if_neg (by omega), if_neg (by omega), Int.sign_eq_one_of_pos (by omega), Int.gcd_comm b a]
  refine ⟨by rw [Int.one_mul], ?_⟩
  rw [Int.natCast_ediv, Int.natAbs_of_nonneg h]
structure RQ (w : World) (g : Nat) (q : Rat) (n : Nat) : Prop where
 num : IsN w g 0 q.num n
 den : IsN w g 2 (q.den : Int) n
theorem RQ.below {w w' : World} {g : Nat} {q : Rat} {n : Nat} (h : RQ w g q n) (hb : Below w.heap.size w w') : RQ w' g q n := ⟨h.num.below hb, h.den.below hb⟩
theorem RQ.mono {w : World} {g : Nat} {q : Rat} {n m : Nat} (h : RQ w g q n) (hm : n ≤ m) : RQ w g q m := ⟨h.num.mono hm, h.den.mono hm⟩
theorem RQ.lt {w : World} {g : Nat} {q : Rat} {n : Nat} (h : RQ w g q n) : g < w.heap.size := h.num.lt
theorem den0 (q : Rat) : ((q.den : Int)) ≠ 0 := by have := q.den_pos; omega
theorem qq_mul (p q : Rat) : qq (p.num * q.num) ((p.den : Int) * (q.den : Int)) = p * q := by
 unfold qq
 rw [← Rat.divInt_mul_divInt, Rat.num_divInt_den, Rat.num_divInt_den]
theorem qq_add (p q : Rat) : qq (p.num * (q.den : Int) + q.num * (p.den : Int)) ((p.den : Int) * (q.den : Int)) = p + q := by
 unfold qq
 rw [← Rat.divInt_add_divInt _ _ (den0 p) (den0 q), Rat.num_divInt_den, Rat.num_divInt_den]
theorem qq_sub (p q : Rat) : qq (p.num * (q.den : Int) - q.num * (p.den : Int)) ((p.den : Int) * (q.den : Int)) = p - q := by
 unfold qq
 rw [← Rat.divInt_sub_divInt _ _ (den0 p) (den0 q), Rat.num_divInt_den, Rat.num_divInt_den]
def cmpQ (p q : Rat) : Int := if p < q then -1 else if q < p then 1 else 0
theorem cmp_q (p q : Rat) : cmpI (p.num * (q.den : Int)) (q.num * (p.den : Int)) = cmpQ p q := by
 unfold cmpI cmpQ
 simp only [Rat.lt_iff]
def QP (w : World) (q : Rat) (n : Nat) (e : Ending) (w' : World) : Prop := ∃ g, w.heap.size ≤ g ∧ e = .returned (.pointer (some ⟨g, 0, none⟩)) ∧ Below w.heap.size w w' ∧ RQ w' g q n
def QS (w : World) (g : Nat) (q : Rat) (n B : Nat) (e : Ending) (w' : World) : Prop := e = .returned (.pointer (some ⟨g, 0, none⟩)) ∧ Below B w w' ∧ RQ w' g q n
theorem setQ_n (gx ga oa gb ob : Nat) (a b : Int) (n B : Nat) (w : World) (hx0 : Room w gx 0) (hx2 : Room w gx 2) (ha : IsN w ga oa a n) (hb : IsN w gb ob b n) (hbp : b ≠ 0) (hl : n ≤ 500) (hB1 : B ≤ gx) :
  Calls Try.prog 156 #[.pointer (some ⟨gx, 0, none⟩), .pointer (some ⟨ga, oa, none⟩), .pointer (some ⟨gb, ob, none⟩)] w (QS w gx (qq a b) n B) :=
 (setFrac_n gx ga oa gb ob a b n n B w hx0 hx2 ha hb hbp (by omega) hB1).mono fun e w' ⟨h1, h2, h3, h4⟩ => ⟨h1, h2, (rat_low hbp).1 ▸ h3, (rat_low hbp).2 ▸ h4⟩
theorem room_rat0 (w : World) : Room (w.alloc (.cells #[.bool false, .slice none 0 0, .bool false, .slice none 0 0] 138)) w.heap.size 0 :=
 ⟨false, .slice none 0 0, ⟨_, 138, blk_new w _, ⟨none, 0, 0, rfl⟩, rfl, rfl⟩⟩
theorem room_rat2 (w : World) : Room (w.alloc (.cells #[.bool false, .slice none 0 0, .bool false, .slice none 0 0] 138)) w.heap.size 2 :=
 ⟨false, .slice none 0 0, ⟨_, 138, blk_new w _, ⟨none, 0, 0, rfl⟩, rfl, rfl⟩⟩
set_option maxHeartbeats 2000000 in
theorem prod_n (ga oa gb ob : Nat) (a b : Int) (na nb : Nat) (w : World) (ha : IsN w ga oa a na) (hb : IsN w gb ob b nb) (hl : na + nb ≤ 1000) :
  Calls Try.prog 129 #[.pointer (some ⟨ga, oa, none⟩), .pointer (some ⟨gb, ob, none⟩)] w (NewP w (a * b) (na + nb)) := by
 have hb1 : Below w.heap.size w (w.alloc (.cells #[.bool false, .slice none 0 0] 86)) := below_alloc (Below.refl _ w) _
 have HM := Aside0.mk (mul_n w.heap.size 0 ga oa gb ob a b na nb _ (room_new w) (ha.below hb1) (hb.below hb1) hl)
 have HB := Aside0.mk hb1
 clear ha hb hb1
 go_enter Try.func129, Try.ntmps129
 go_wp2_with fail
 refine HM.out.mono ?_
 rintro e w2 ⟨rfl, hw, hN⟩
 have H := Aside0.mk (And.intro hw hN)
 clear hw hN
 go_wp2_with fail
 go_ret
 exact ⟨_, Nat.le_refl _, rfl, HB.out.trans (H.out.1.below (Nat.le_refl _) HB.out.size), H.out.2⟩
set_option maxHeartbeats 4000000 in
theorem newRat_n (a b : Int) (w : World) (a0 : -9223372036854775808 ≤ a) (a1 : a ≤ 9223372036854775807) (b0 : -9223372036854775808 ≤ b) (b1 : b ≤ 9223372036854775807) (hb : b ≠ 0) :
  Calls Try.prog 128 #[.int .i64 a, .int .i64 b] w (QP w (qq a b) 2) := by
 have hb1 : Below w.heap.size w (w.alloc (.cells #[.bool false, .slice none 0 0, .bool false, .slice none 0 0] 138)) := below_alloc (Below.refl _ w) _
 have HR := Aside0.mk (And.intro (room_rat0 w) (And.intro (room_rat2 w) hb1))
 have HA := Aside0.mk (And.intro (And.intro a0 a1) (And.intro (And.intro b0 b1) hb))
 clear a0 a1 b0 b1 hb hb1
 go_enter Try.func128, Try.ntmps128
 go_wp2_with fail
 generalize hW : w.alloc (.cells #[.bool false, .slice none 0 0, .bool false, .slice none 0 0] 138) = W at *
 refine (newInt_n a W HA.out.1.1 HA.out.1.2).mono ?_
 rintro e w2 ⟨g2, hg2, rfl, hb2, hN2⟩
 have H2 := Aside0.mk (And.intro hb2 hN2)
 clear hb2 hN2
 go_wp2_with fail
 refine (newInt_n b w2 HA.out.2.1.1 HA.out.2.1.2).mono ?_
 rintro e w3 ⟨g3, hg3, rfl, hb3, hN3⟩
 have H3 := Aside0.mk (And.intro hb3 hN3)
 clear hb3 hN3
 go_wp2_with fail
 refine (setQ_n w.heap.size g2 0 g3 0 a b 2 w.heap.size w3 ((HR.out.1.below H2.out.1).below H3.out.1) ((HR.out.2.1.below H2.out.1).below H3.out.1) (H2.out.2.below H3.out.1) H3.out.2 HA.out.2.2 (by omega) (Nat.le_refl _)).mono ?_
 rintro e w4 ⟨rfl, hb4, hQ⟩
 have H4 := Aside0.mk (And.intro hb4 hQ)
 clear hb4 hQ
 go_wp2_with fail
 go_ret
 have s1 := HR.out.2.2.size
 have s2 := H2.out.1.size
 exact ⟨_, Nat.le_refl _, rfl, HR.out.2.2.trans ((H2.out.1.mono s1).trans ((H3.out.1.mono (by omega)).trans H4.out.1)), H4.out.2⟩
set_option maxHeartbeats 4000000 in
set_option maxRecDepth 100000 in
theorem mulQ_n (gx gy gz : Nat) (p q : Rat) (n m B : Nat) (w : World) (hx0 : Room w gx 0) (hx2 : Room w gx 2) (hy : RQ w gy p n) (hz : RQ w gz q m) (hl : n + m ≤ 400) (hB : B ≤ gx) :
  Calls Try.prog 127 #[.pointer (some ⟨gx, 0, none⟩), .pointer (some ⟨gy, 0, none⟩), .pointer (some ⟨gz, 0, none⟩)] w (QS w gx (p * q) (n + m) B) := by
 have HX := Aside0.mk (And.intro (And.intro hx0 hx2) (And.intro hy hz))
 have hgx := hx0.lt
 clear hx0 hx2 hy hz
 go_enter Try.func127, Try.ntmps127
 go_wp2_with fail
 have hb0 : Below w.heap.size w w.drew := below_drew' (Below.refl _ _)
 refine start_ (n := 15) (S := fun w' => True) (ds := []) (bs 15 0) (by kernel_rfl) rfl rfl trivial (fun hHeld => ?_)
 refine zP 0 7 15 1 ?_
 refine zP 1 8 15 3 ?_
 refine zP 2 9 15 7 ?_
 refine zP 3 10 15 15 ?_
 refine zP 4 11 15 31 ?_
 refine zP 5 12 15 63 ?_
 refine zP 6 13 15 127 ?_
 refine zP 8 15 15 383 ?_
 refine zP 10 17 15 1407 ?_
 refine zN 7 (some 14) 15 1535 (fun K hK => ?_)
 refine zG Try.func129 #[.pointer (some ⟨gy, 0, none⟩), .pointer (some ⟨gz, 0, none⟩)] ?_
 with_reducible refine (prod_n gy 0 gz 0 p.num q.num n m w.drew (HX.out.2.1.num.below hb0) (HX.out.2.2.num.below hb0) (by omega)).mono ?_
 rintro e w4 ⟨g4, hg4, rfl, hb4, hN4⟩
 refine ⟨_, rfl, ?_⟩
 have hb4' := below_drew' hb4
 have H4 := Aside0.mk (And.intro hb4' hN4)
 clear hb4 hN4 hb4'
 refine hK.out _ _ trivial (fun hHeld => ?_)
 clear hK K
 refine zM 14 ?_
 refine zN 9 (some 16) 15 2047 (fun K hK => ?_)
 refine zG Try.func130 #[.pointer (some ⟨gy, 0, none⟩)] ?_
 with_reducible refine (down_n gy _ n w4 (HX.out.2.1.den.below H4.out.1) (den0 p)).mono ?_
 rintro e w5 ⟨rfl, rfl⟩
 refine ⟨_, rfl, ?_⟩
 refine hK.out _ _ trivial (fun hHeld => ?_)
 clear hK K
 refine zM 16 ?_
 refine zN 11 (some 18) 15 4095 (fun K hK => ?_)
 refine zG Try.func130 #[.pointer (some ⟨gz, 0, none⟩)] ?_
 with_reducible refine (down_n gz _ m w4 (HX.out.2.2.den.below H4.out.1) (den0 q)).mono ?_
 rintro e w5 ⟨rfl, rfl⟩
 refine ⟨_, rfl, ?_⟩
 refine hK.out _ _ trivial (fun hHeld => ?_)
 clear hK K
 refine zM 18 ?_
 refine zN 12 (some 19) 15 8191 (fun K hK => ?_)
 refine zG Try.func129 #[.pointer (some ⟨gy, 2, none⟩), .pointer (some ⟨gz, 2, none⟩)] ?_
 with_reducible refine (prod_n gy 2 gz 2 p.den q.den n m w4 (HX.out.2.1.den.below H4.out.1) (HX.out.2.2.den.below H4.out.1) (by omega)).mono ?_
 rintro e w5 ⟨g5, hg5, rfl, hb5, hN5⟩
 refine ⟨_, rfl, ?_⟩
 have H5 := Aside0.mk (And.intro (H4.out.1.trans (hb5.mono H4.out.1.size)) (And.intro (H4.out.2.below hb5) hN5))
 clear hb5 hN5
 refine hK.out _ _ trivial (fun hHeld => ?_)
 clear hK K
 refine zM 19 ?_
 refine zN 13 (some 20) 15 16383 (fun K hK => ?_)
 refine zG Try.func156 #[.pointer (some ⟨gx, 0, none⟩), .pointer (some ⟨g4, 0, none⟩), .pointer (some ⟨g5, 0, none⟩)] ?_
 with_reducible refine (setQ_n gx g4 0 g5 0 (p.num * q.num) ((p.den : Int) * (q.den : Int)) (n + m) B w5 (HX.out.1.1.below H5.out.1) (HX.out.1.2.below H5.out.1) H5.out.2.1 H5.out.2.2 (Int.mul_ne_zero (den0 p) (den0 q)) (by omega) hB).mono ?_
 rintro e w6 ⟨rfl, hb6, hQ6⟩
 refine ⟨_, rfl, ?_⟩
 rw [qq_mul] at hQ6
 have H6 := Aside0.mk (And.intro hb6 hQ6)
 clear hb6 hQ6
 refine hK.out _ _ trivial (fun hHeld => ?_)
 clear hK K
 refine zM 20 ?_
 refine zP 14 6 15 32767 ?_
 refine done_ (by kernel_rfl) ?_
 go_wp2_with fail
 go_ret
 exact ⟨rfl, (H5.out.1.mono (by omega)).trans H6.out.1, H6.out.2⟩
set_option maxHeartbeats 4000000 in
set_option maxRecDepth 100000 in
theorem addQ_n (gx gy gz : Nat) (p q : Rat) (n m B : Nat) (w : World) (hx0 : Room w gx 0) (hx2 : Room w gx 2) (hy : RQ w gy p n) (hz : RQ w gz q m) (hl : n + m ≤ 400) (hB : B ≤ gx) :
  Calls Try.prog 131 #[.pointer (some ⟨gx, 0, none⟩), .pointer (some ⟨gy, 0, none⟩), .pointer (some ⟨gz, 0, none⟩)] w (QS w gx (p + q) (n + m + 1) B) := by
 have HX := Aside0.mk (And.intro (And.intro hx0 hx2) (And.intro hy hz))
 have hgx := hx0.lt
 clear hx0 hx2 hy hz
 go_enter Try.func131, Try.ntmps131
 go_wp2_with fail
 have hb0 : Below w.heap.size w w.drew := below_drew' (Below.refl _ _)
 refine start_ (n := 7) (S := fun w' => True) (ds := []) (bs 7 0) (by kernel_rfl) rfl rfl trivial (fun hHeld => ?_)
 refine zP 0 8 7 1 ?_
 refine zP 1 9 7 3 ?_
 refine zP 2 10 7 7 ?_
 refine zP 3 11 7 15 ?_
 refine zN 4 (some 12) 7 31 (fun K hK => ?_)
 refine zG Try.func130 #[.pointer (some ⟨gz, 0, none⟩)] ?_
 with_reducible refine (down_n gz _ m w.drew (HX.out.2.2.den.below hb0) (den0 q)).mono ?_
 rintro e w4 ⟨rfl, rfl⟩
 refine ⟨_, rfl, ?_⟩
 refine hK.out _ _ trivial (fun hHeld => ?_)
 clear hK K
 refine zM 12 ?_
 refine zN 5 (some 13) 7 63 (fun K hK => ?_)
 refine zG Try.func129 #[.pointer (some ⟨gy, 0, none⟩), .pointer (some ⟨gz, 2, none⟩)] ?_
 with_reducible refine (prod_n gy 0 gz 2 p.num q.den n m w.drew (HX.out.2.1.num.below hb0) (HX.out.2.2.den.below hb0) (by omega)).mono ?_
 rintro e w4 ⟨g4, hg4, rfl, hb4, hN4⟩
 refine ⟨_, rfl, ?_⟩
 have hb4' := below_drew' hb4
 have H4 := Aside0.mk (And.intro hb4' hN4)
 have hg4' : w.heap.size ≤ g4 := hg4
 clear hb4 hN4 hb4' hg4
 refine hK.out _ _ trivial (fun hHeld => ?_)
 clear hK K
 refine zM 13 ?_
 refine zP 6 7 7 127 ?_
 refine done_ (by kernel_rfl) ?_
 go_wp2_with fail
 have hb1 : Below w4.heap.size w4 w4.drew := below_drew' (Below.refl _ _)
 have hbw := H4.out.1.trans (hb1.mono H4.out.1.size)
 have K4 := Aside0.mk (And.intro hbw (H4.out.2.below hb1))
 have hlt4 := H4.out.2.lt
 clear hb0 hb1 hbw
 refine start_ (n := 9) (S := fun w' => True) (ds := []) (bs 9 0) (by kernel_rfl) rfl rfl trivial (fun hHeld => ?_)
 refine zP 0 14 9 1 ?_
 refine zP 1 15 9 3 ?_
 refine zP 2 16 9 7 ?_
 refine zP 3 17 9 15 ?_
 refine zP 4 18 9 31 ?_
 refine zP 5 19 9 63 ?_
 refine zN 6 (some 20) 9 127 (fun K hK => ?_)
 refine zG Try.func130 #[.pointer (some ⟨gy, 0, none⟩)] ?_
 with_reducible refine (down_n gy _ n w4.drew (HX.out.2.1.den.below K4.out.1) (den0 p)).mono ?_
 rintro e w5 ⟨rfl, rfl⟩
 refine ⟨_, rfl, ?_⟩
 refine hK.out _ _ trivial (fun hHeld => ?_)
 clear hK K
 refine zM 20 ?_
 refine zN 7 (some 21) 9 255 (fun K hK => ?_)
 refine zG Try.func129 #[.pointer (some ⟨gz, 0, none⟩), .pointer (some ⟨gy, 2, none⟩)] ?_
 with_reducible refine (prod_n gz 0 gy 2 q.num p.den m n w4.drew (HX.out.2.2.num.below K4.out.1) (HX.out.2.1.den.below K4.out.1) (by omega)).mono ?_
 rintro e w5 ⟨g5, hg5, rfl, hb5, hN5⟩
 refine ⟨_, rfl, ?_⟩
 have H5 := Aside0.mk (And.intro (K4.out.1.trans (hb5.mono K4.out.1.size)) (And.intro (K4.out.2.below hb5) hN5))
 clear hb5 hN5
 refine hK.out _ _ trivial (fun hHeld => ?_)
 clear hK K
 refine zM 21 ?_
 refine zN 8 (some 22) 9 511 (fun K hK => ?_)
 refine zG Try.func63 #[.pointer (some ⟨g4, 0, none⟩), .pointer (some ⟨g4, 0, none⟩), .pointer (some ⟨g5, 0, none⟩)] ?_
 with_reducible refine (add_n g4 0 g4 0 g5 0 (p.num * (q.den : Int)) (q.num * (p.den : Int)) (n + m) (m + n) w5 H5.out.2.1.room H5.out.2.1 H5.out.2.2.w (by omega)).mono ?_
 rintro e w6 ⟨rfl, hw6, hN6⟩
 refine ⟨_, rfl, ?_⟩
 have H6 := Aside0.mk (And.intro (show Below w.heap.size w w6 from H5.out.1.trans (hw6.below hg4' H5.out.1.size)) (hN6.mono (m := n + m + 1) (by omega)))
 clear hw6 hN6
 refine hK.out _ _ trivial (fun hHeld => ?_)
 clear hK K
 refine zM 22 ?_
 refine done_ (by kernel_rfl) ?_
 go_wp2_with fail
 refine (down_n gy _ n w6 (HX.out.2.1.den.below H6.out.1) (den0 p)).mono ?_
 rintro e w7 ⟨rfl, rfl⟩
 go_wp2_with fail
 refine (down_n gz _ m w6 (HX.out.2.2.den.below H6.out.1) (den0 q)).mono ?_
 rintro e w7 ⟨rfl, rfl⟩
 go_wp2_with fail
 refine (prod_n gy 2 gz 2 p.den q.den n m w6 (HX.out.2.1.den.below H6.out.1) (HX.out.2.2.den.below H6.out.1) (by omega)).mono ?_
 rintro e w7 ⟨g7, hg7, rfl, hb7, hN7⟩
 have H7 := Aside0.mk (And.intro (H6.out.1.trans (hb7.mono H6.out.1.size)) (And.intro (H6.out.2.below hb7) hN7))
 clear hb7 hN7
 go_wp2_with fail
 refine (setQ_n gx g4 0 g7 0 (p.num * (q.den : Int) + q.num * (p.den : Int)) ((p.den : Int) * (q.den : Int)) (n + m + 1) B w7 (HX.out.1.1.below H7.out.1) (HX.out.1.2.below H7.out.1) H7.out.2.1 (H7.out.2.2.mono (by omega)) (Int.mul_ne_zero (den0 p) (den0 q)) (by omega) hB).mono ?_
 rintro e w8 ⟨rfl, hb8, hQ8⟩
 rw [qq_add] at hQ8
 have H8 := Aside0.mk (And.intro hb8 hQ8)
 clear hb8 hQ8
 go_wp2_with fail
 go_ret
 exact ⟨rfl, (H7.out.1.mono (by omega)).trans H8.out.1, H8.out.2⟩
set_option maxHeartbeats 4000000 in
set_option maxRecDepth 100000 in
theorem cmpQ_n (gy gz : Nat) (p q : Rat) (n m : Nat) (w : World) (hy : RQ w gy p n) (hz : RQ w gz q m) (hl : n + m ≤ 400) :
  Calls Try.prog 81 #[.pointer (some ⟨gy, 0, none⟩), .pointer (some ⟨gz, 0, none⟩)] w (ValP w (.int .i64 (cmpQ p q))) := by
 have HX := Aside0.mk (And.intro hy hz)
 have HV := Aside0.mk (cmp_q p q)
 generalize cmpQ p q = V at *
 clear hy hz
 go_enter Try.func81, Try.ntmps81
 go_wp2_with fail
 have hb0 : Below w.heap.size w w.drew := below_drew' (Below.refl _ _)
 refine start_ (n := 14) (S := fun w' => True) (ds := []) (bs 14 0) (by kernel_rfl) rfl rfl trivial (fun hHeld => ?_)
 refine zP 0 5 14 1 ?_
 refine zP 1 6 14 3 ?_
 refine zP 2 7 14 7 ?_
 refine zP 3 8 14 15 ?_
 refine zP 6 11 14 79 ?_
 refine zP 7 12 14 207 ?_
 refine zP 8 13 14 463 ?_
 refine zP 9 14 14 975 ?_
 refine zN 4 (some 9) 14 991 (fun K hK => ?_)
 refine zG Try.func130 #[.pointer (some ⟨gz, 0, none⟩)] ?_
 with_reducible refine (down_n gz _ m w.drew (HX.out.2.den.below hb0) (den0 q)).mono ?_
 rintro e w4 ⟨rfl, rfl⟩
 refine ⟨_, rfl, ?_⟩
 refine hK.out _ _ trivial (fun hHeld => ?_)
 clear hK K
 refine zM 9 ?_
 refine zN 5 (some 10) 14 1023 (fun K hK => ?_)
 refine zG Try.func129 #[.pointer (some ⟨gy, 0, none⟩), .pointer (some ⟨gz, 2, none⟩)] ?_
 with_reducible refine (prod_n gy 0 gz 2 p.num q.den n m w.drew (HX.out.1.num.below hb0) (HX.out.2.den.below hb0) (by omega)).mono ?_
 rintro e w4 ⟨g4, hg4, rfl, hb4, hN4⟩
 refine ⟨_, rfl, ?_⟩
 have hb4' := below_drew' hb4
 have H4 := Aside0.mk (And.intro hb4' hN4)
 clear hb4 hN4 hb4' hg4
 refine hK.out _ _ trivial (fun hHeld => ?_)
 clear hK K
 refine zM 10 ?_
 refine zN 10 (some 15) 14 2047 (fun K hK => ?_)
 refine zG Try.func130 #[.pointer (some ⟨gy, 0, none⟩)] ?_
 with_reducible refine (down_n gy _ n w4 (HX.out.1.den.below H4.out.1) (den0 p)).mono ?_
 rintro e w5 ⟨rfl, rfl⟩
 refine ⟨_, rfl, ?_⟩
 refine hK.out _ _ trivial (fun hHeld => ?_)
 clear hK K
 refine zM 15 ?_
 refine zN 11 (some 16) 14 4095 (fun K hK => ?_)
 refine zG Try.func129 #[.pointer (some ⟨gz, 0, none⟩), .pointer (some ⟨gy, 2, none⟩)] ?_
 with_reducible refine (prod_n gz 0 gy 2 q.num p.den m n w4 (HX.out.2.num.below H4.out.1) (HX.out.1.den.below H4.out.1) (by omega)).mono ?_
 rintro e w5 ⟨g5, hg5, rfl, hb5, hN5⟩
 refine ⟨_, rfl, ?_⟩
 have H5 := Aside0.mk (And.intro (H4.out.1.trans (hb5.mono H4.out.1.size)) (And.intro (H4.out.2.below hb5) hN5))
 clear hb5 hN5
 refine hK.out _ _ trivial (fun hHeld => ?_)
 clear hK K
 refine zM 16 ?_
 refine zN 12 (some 17) 14 8191 (fun K hK => ?_)
 refine zG Try.func66 #[.pointer (some ⟨g4, 0, none⟩), .pointer (some ⟨g5, 0, none⟩)] ?_
 with_reducible refine (cmp_n g4 0 g5 0 (p.num * (q.den : Int)) (q.num * (p.den : Int)) (n + m) (m + n) w5 H5.out.2.1 H5.out.2.2 (by omega)).mono ?_
 rintro e w6 ⟨rfl, hb6⟩
 refine ⟨_, rfl, ?_⟩
 rw [HV.out]
 have H6 := Aside0.mk (H5.out.1.trans (hb6.mono H5.out.1.size))
 clear hb6
 refine hK.out _ _ trivial (fun hHeld => ?_)
 clear hK K
 refine zM 17 ?_
 refine zP 13 4 14 16383 ?_
 refine done_ (by kernel_rfl) ?_
 go_wp2_with fail
 go_ret
 exact ⟨rfl, H6.out⟩
end Go.Proofs.Ytpbhepdgamoiaaa.Rf
namespace Go.Proofs.Ytpbhepdgamoiaaa.Er
open Go.RowKit Go Go.Proofs.YtpbhepdgamoiaaaW.PrintWords Go.Proofs.YtpbhepdgamoiaaaW.PrintLast Go.Proofs.YtpbhepdgamoiaaaW.PrintMore Go.Proofs.Ytpbhepdgamoiaaa.Ml Go.Proofs.Ytpbhepdgamoiaaa.Mn Go.Proofs.Ytpbhepdgamoiaaa.Nd Go.Proofs.Ytpbhepdgamoiaaa.Z Go.Proofs.Ytpbhepdgamoiaaa.P Go.Proofs.Ytpbhepdgamoiaaa.Nc Go.Proofs.Ytpbhepdgamoiaaa.Nb Go.Proofs.Ytpbhepdgamoiaaa.Qa Go.Proofs.Ytpbhepdgamoiaaa.Ea Go.Proofs.Ytpbhepdgamoiaaa.Ra Go.Proofs.Ytpbhepdgamoiaaa.Rf
set_option linter.unusedVariables false
set_option linter.unusedSimpArgs false
structure I64 (x : Int) : Prop where
 lo : -9223372036854775808 ≤ x
 hi : x ≤ 9223372036854775807
def edO (d m n e : Int) : Obj := .cells #[.int .i64 d, .int .i64 m, .int .i64 n, .int .i64 e] 77 (0, 0)
def clO (ms ts : Int) : Obj := .cells #[.int .i64 ms, .int .i64 ts] 79 (0, 0)
theorem ed_cells {w : World} {g : Nat} {d m n e : Int} (h : w.heap[g]? = some (edO d m n e)) : w.cell? ⟨g, 0, none⟩ = some (.int .i64 d) ∧ w.cell? ⟨g, 1, none⟩ = some (.int .i64 m) ∧ w.cell? ⟨g, 2, none⟩ = some (.int .i64 n) ∧ w.cell? ⟨g, 3, none⟩ = some (.int .i64 e) :=
 ⟨(blk_cell h 0).trans rfl, (blk_cell h 1).trans rfl, (blk_cell h 2).trans rfl, (blk_cell h 3).trans rfl⟩
theorem ed_free {w : World} {g : Nat} {d m n e : Int} (h : w.heap[g]? = some (edO d m n e)) : w.frozen? ⟨g, 0, none⟩ = false ∧ w.frozen? ⟨g, 1, none⟩ = false ∧ w.frozen? ⟨g, 2, none⟩ = false ∧ w.frozen? ⟨g, 3, none⟩ = false :=
 ⟨blk_frozen h 0, blk_frozen h 1, blk_frozen h 2, blk_frozen h 3⟩
theorem cl_cells {w : World} {g : Nat} {ms ts : Int} (h : w.heap[g]? = some (clO ms ts)) : w.cell? ⟨g, 0, none⟩ = some (.int .i64 ms) ∧ w.cell? ⟨g, 1, none⟩ = some (.int .i64 ts) :=
 ⟨(blk_cell h 0).trans rfl, (blk_cell h 1).trans rfl⟩
set_option maxHeartbeats 2000000 in
theorem ratioE_n (a b : Int) (w : World) (ha : I64 a) (hb : I64 b) (hz : b ≠ 0) :
  Calls Try.prog 78 #[.int .i64 a, .int .i64 b] w (QP w (qq a b) 2) := by
 have HC := Aside0.mk (newRat_n a b w ha.lo ha.hi hb.lo hb.hi hz)
 clear hz
 go_enter Try.func78, Try.ntmps78
 go_wp2_with fail
 refine HC.out.mono ?_
 rintro e w2 ⟨g, hg, rfl, hb2, hN⟩
 have H := Aside0.mk (And.intro hg (And.intro hb2 hN))
 clear hg hb2 hN
 go_wp2_with fail
 go_ret
 exact ⟨g, H.out.1, rfl, H.out.2.1, H.out.2.2⟩
set_option maxHeartbeats 2000000 in
theorem mulE_n (gy gz : Nat) (p q : Rat) (n m : Nat) (w : World) (hy : RQ w gy p n) (hz : RQ w gz q m) (hl : n + m ≤ 400) :
  Calls Try.prog 77 #[.pointer (some ⟨gy, 0, none⟩), .pointer (some ⟨gz, 0, none⟩)] w (QP w (p * q) (n + m)) := by
 have hb1 : Below w.heap.size w (w.alloc (.cells #[.bool false, .slice none 0 0, .bool false, .slice none 0 0] 138)) := below_alloc (Below.refl _ w) _
 have HC := Aside0.mk (mulQ_n w.heap.size gy gz p q n m w.heap.size _ (room_rat0 w) (room_rat2 w) (hy.below hb1) (hz.below hb1) hl (Nat.le_refl _))
 have HB := Aside0.mk hb1
 clear hb1 hy hz
 go_enter Try.func77, Try.ntmps77
 go_wp2_with fail
 refine HC.out.mono ?_
 rintro e w2 ⟨rfl, hb2, hN⟩
 have H := Aside0.mk (And.intro hb2 hN)
 clear hb2 hN
 go_wp2_with fail
 go_ret
 exact ⟨_, Nat.le_refl _, rfl, HB.out.trans H.out.1, H.out.2⟩
set_option maxHeartbeats 2000000 in
theorem addE_n (gy gz : Nat) (p q : Rat) (n m : Nat) (w : World) (hy : RQ w gy p n) (hz : RQ w gz q m) (hl : n + m ≤ 400) :
  Calls Try.prog 83 #[.pointer (some ⟨gy, 0, none⟩), .pointer (some ⟨gz, 0, none⟩)] w (QP w (p + q) (n + m + 1)) := by
 have hb1 : Below w.heap.size w (w.alloc (.cells #[.bool false, .slice none 0 0, .bool false, .slice none 0 0] 138)) := below_alloc (Below.refl _ w) _
 have HC := Aside0.mk (addQ_n w.heap.size gy gz p q n m w.heap.size _ (room_rat0 w) (room_rat2 w) (hy.below hb1) (hz.below hb1) hl (Nat.le_refl _))
 have HB := Aside0.mk hb1
 clear hb1 hy hz
 go_enter Try.func83, Try.ntmps83
 go_wp2_with fail
 refine HC.out.mono ?_
 rintro e w2 ⟨rfl, hb2, hN⟩
 have H := Aside0.mk (And.intro hb2 hN)
 clear hb2 hN
 go_wp2_with fail
 go_ret
 exact ⟨_, Nat.le_refl _, rfl, HB.out.trans H.out.1, H.out.2⟩
structure Bx (w W : World) (ms ts d m n e : Int) : Prop where
 c : W.heap[w.heap.size]? = some (clO ms ts)
 e : W.heap[w.heap.size + 1]? = some (edO d m n e)
 below : Below w.heap.size w W
theorem Bx.start (w : World) (ms ts d m n e : Int) : Bx w ((w.alloc (clO ms ts)).alloc (edO d m n e)) ms ts d m n e := by
 have e1 : (w.alloc (clO ms ts)).heap.size = w.heap.size + 1 := by simp
 have k2 := blk_new (w.alloc (clO ms ts)) (edO d m n e)
 rw [e1] at k2
 exact ⟨blk_alloc (blk_new w _) _, k2, below_alloc (below_alloc (Below.refl _ w) _) _⟩
theorem Bx.step {w W W2 : World} {ms ts d m n e : Int} (h : Bx w W ms ts d m n e) (hb : Below W.heap.size W W2) : Bx w W2 ms ts d m n e :=
 ⟨blk_below h.c hb, blk_below h.e hb, h.below.trans (hb.mono h.below.size)⟩
theorem Bx.cells {w W : World} {ms ts d m n e : Int} (h : Bx w W ms ts d m n e) : W.cell? ⟨w.heap.size, 0, none⟩ = some (.int .i64 ms) ∧ W.cell? ⟨w.heap.size, 1, none⟩ = some (.int .i64 ts) ∧ W.cell? ⟨w.heap.size + 1, 1, none⟩ = some (.int .i64 m) ∧ W.cell? ⟨w.heap.size + 1, 2, none⟩ = some (.int .i64 n) ∧ W.cell? ⟨w.heap.size + 1, 3, none⟩ = some (.int .i64 e) := by
 obtain ⟨c0, c1⟩ := cl_cells h.c
 obtain ⟨e0, e1, e2, e3⟩ := ed_cells h.e
 exact ⟨c0, c1, e1, e2, e3⟩
def afterQ (ms ts m n e k : Int) : Rat := qq k ms * qq n e * qq ts 1 + qq m 1
theorem i1 : I64 1 := ⟨by decide, by decide⟩
set_option maxHeartbeats 4000000 in
set_option maxRecDepth 100000 in
theorem after_n (ms ts d m n e k : Int) (w : World) (h1 : I64 ms ∧ ms ≠ 0) (h2 : I64 ts) (h3 : I64 m) (h4 : I64 n) (h5 : I64 e ∧ e ≠ 0) (h6 : I64 k) :
  Calls Try.prog 135 #[.agg #[.int .i64 ms, .int .i64 ts], .agg #[.int .i64 d, .int .i64 m, .int .i64 n, .int .i64 e], .int .i64 k] w (QP w (afterQ ms ts m n e k) 9) := by
 have hu := Try.underlying77
 have hu2 := Try.underlying79
 have HH := Aside0.mk (And.intro (And.intro h1 h2) (And.intro (And.intro h3 h4) (And.intro h5 h6)))
 have hQ := Aside0.mk (Bx.start w ms ts d m n e)
 clear h1 h2 h3 h4 h5 h6
 go_enter Try.func135, Try.ntmps135
 go_wp2_with fail
 generalize hW : World.alloc (World.alloc _ _) _ = W
 have HQ := Aside0.mk (show Bx w W ms ts d m n e by rw [← hW]; exact hQ.out)
 clear hW hQ
 have hb0 : Below W.heap.size W W.drew := below_drew' (Below.refl _ _)
 refine start_ (n := 15) (S := fun w' => w'.cell? ⟨w.heap.size, 0, none⟩ = some (.int .i64 ms) ∧ w'.cell? ⟨w.heap.size, 1, none⟩ = some (.int .i64 ts) ∧ w'.cell? ⟨w.heap.size + 1, 1, none⟩ = some (.int .i64 m) ∧ w'.cell? ⟨w.heap.size + 1, 2, none⟩ = some (.int .i64 n) ∧ w'.cell? ⟨w.heap.size + 1, 3, none⟩ = some (.int .i64 e)) (ds := []) (bs 15 0) (by kernel_rfl) rfl rfl (HQ.out.step hb0).cells (fun hHeld => ?_)
 refine zP 0 8 15 1 ?_
 refine zP 1 9 15 3 ?_
 refine zP 4 12 15 19 ?_
 refine zP 6 14 15 83 ?_
 refine zP 10 18 15 1107 ?_
 refine zT 2 10 15 1111 hHeld ?_
 refine zT 5 13 15 1143 hHeld ?_
 refine zT 7 15 15 1271 hHeld ?_
 refine zT 11 19 15 3319 hHeld ?_
 refine zN 3 (some 11) 15 3327 (fun K hK => ?_)
 refine zG Try.func78 #[.int .i64 k, .int .i64 ms] ?_
 with_reducible refine (ratioE_n k ms W.drew HH.out.2.2.2 HH.out.1.1.1 HH.out.1.1.2).mono ?_
 rintro e w3 ⟨g3, hg3, rfl, hb3, hN3⟩
 refine ⟨_, rfl, ?_⟩
 have hb3' := below_drew' hb3
 have H3 := Aside0.mk (And.intro hN3 (HQ.out.step hb3'))
 clear hb3 hN3 hb3' hg3
 refine hK.out _ _ H3.out.2.cells (fun hHeld => ?_)
 clear hK K
 refine zM 11 ?_
 refine zN 8 (some 16) 15 3583 (fun K hK => ?_)
 refine zG Try.func78 #[.int .i64 n, .int .i64 e] ?_
 with_reducible refine (ratioE_n n e w3 HH.out.2.1.2 HH.out.2.2.1.1 HH.out.2.2.1.2).mono ?_
 rintro e w4 ⟨g4, hg4, rfl, hb4, hN4⟩
 refine ⟨_, rfl, ?_⟩
 have H4 := Aside0.mk (And.intro (H3.out.1.below hb4) (And.intro hN4 (H3.out.2.step hb4)))
 clear hb4 hN4 hg4
 refine hK.out _ _ H4.out.2.2.cells (fun hHeld => ?_)
 clear hK K
 refine zM 16 ?_
 refine zN 9 (some 17) 15 4095 (fun K hK => ?_)
 refine zG Try.func77 #[.pointer (some ⟨g3, 0, none⟩), .pointer (some ⟨g4, 0, none⟩)] ?_
 with_reducible refine (mulE_n g3 g4 _ _ 2 2 w4 H4.out.1 H4.out.2.1 (by decide)).mono ?_
 rintro e w5 ⟨g5, hg5, rfl, hb5, hN5⟩
 refine ⟨_, rfl, ?_⟩
 have H5 := Aside0.mk (And.intro hN5 (H4.out.2.2.step hb5))
 clear hb5 hN5 hg5
 refine hK.out _ _ H5.out.2.cells (fun hHeld => ?_)
 clear hK K
 refine zM 17 ?_
 refine zN 12 (some 20) 15 8191 (fun K hK => ?_)
 refine zG Try.func78 #[.int .i64 ts, .int .i64 1] ?_
 with_reducible refine (ratioE_n ts 1 w5 HH.out.1.2 i1 (by decide)).mono ?_
 rintro e w6 ⟨g6, hg6, rfl, hb6, hN6⟩
 refine ⟨_, rfl, ?_⟩
 have H6 := Aside0.mk (And.intro (H5.out.1.below hb6) (And.intro hN6 (H5.out.2.step hb6)))
 clear hb6 hN6 hg6
 refine hK.out _ _ H6.out.2.2.cells (fun hHeld => ?_)
 clear hK K
 refine zM 20 ?_
 refine zN 13 (some 21) 15 16383 (fun K hK => ?_)
 refine zG Try.func77 #[.pointer (some ⟨g5, 0, none⟩), .pointer (some ⟨g6, 0, none⟩)] ?_
 with_reducible refine (mulE_n g5 g6 _ _ 4 2 w6 H6.out.1 H6.out.2.1 (by decide)).mono ?_
 rintro e w7 ⟨g7, hg7, rfl, hb7, hN7⟩
 refine ⟨_, rfl, ?_⟩
 have H7 := Aside0.mk (And.intro hN7 (H6.out.2.2.step hb7))
 clear hb7 hN7 hg7
 refine hK.out _ _ H7.out.2.cells (fun hHeld => ?_)
 clear hK K
 refine zM 21 ?_
 refine zP 14 7 15 32767 ?_
 refine done_ (by kernel_rfl) ?_
 obtain ⟨c0, c1, e1, e2, e3⟩ := H7.out.2.cells
 clear hb0
 go_wp2_with fail
 refine (ratioE_n m 1 w7 HH.out.2.1.1 i1 (by decide)).mono ?_
 rintro e w8 ⟨g8, hg8, rfl, hb8, hN8⟩
 have H8 := Aside0.mk (And.intro (H7.out.1.below hb8) (And.intro hN8 (H7.out.2.step hb8)))
 clear hb8 hN8 hg8 c0 c1 e1 e2 e3
 go_wp2_with fail
 refine (addE_n g7 g8 _ _ 6 2 w8 H8.out.1 H8.out.2.1 (by decide)).mono ?_
 rintro e w9 ⟨g9, hg9, rfl, hb9, hN9⟩
 have H9 := Aside0.mk (And.intro hN9 (H8.out.2.2.step hb9))
 have HG := Aside0.mk hg9
 have HL := Aside0.mk H8.out.2.2.below.size
 clear hb9 hN9 hg9
 go_wp2_with fail
 go_ret
 exact ⟨g9, Nat.le_trans HL.out HG.out, rfl, H9.out.2.below, H9.out.1⟩
end Go.Proofs.Ytpbhepdgamoiaaa.Er
namespace Go.Proofs.Ytpbhepdgamoiaaa.Ek
open Go.RowKit Go Go.Proofs.YtpbhepdgamoiaaaW.PrintWords Go.Proofs.YtpbhepdgamoiaaaW.PrintLast Go.Proofs.YtpbhepdgamoiaaaW.PrintMore Go.Proofs.Ytpbhepdgamoiaaa.Ml Go.Proofs.Ytpbhepdgamoiaaa.Mn Go.Proofs.Ytpbhepdgamoiaaa.Nd Go.Proofs.Ytpbhepdgamoiaaa.Z Go.Proofs.Ytpbhepdgamoiaaa.P Go.Proofs.Ytpbhepdgamoiaaa.Nc Go.Proofs.Ytpbhepdgamoiaaa.Nb Go.Proofs.Ytpbhepdgamoiaaa.Qa Go.Proofs.Ytpbhepdgamoiaaa.Ea Go.Proofs.Ytpbhepdgamoiaaa.Ra Go.Proofs.Ytpbhepdgamoiaaa.Rf Go.Proofs.Ytpbhepdgamoiaaa.Er
set_option linter.unusedVariables false
set_option linter.unusedSimpArgs false
theorem qq_low {n e : Int} (h0 : 0 ≤ n) (he : 1 ≤ e) : 0 ≤ (qq n e).num ∧ (qq n e).num ≤ n ∧ 1 ≤ ((qq n e).den : Int) ∧ ((qq n e).den : Int) ≤ e := by
 obtain ⟨h1, h2⟩ := rat_low (a := n) (b := e) (by omega)
 rw [← h1, ← h2]
 unfold ratN ratD lowN lowD
 rw [if_neg (by omega), if_neg (by omega)]
 have hg : 0 < ((Int.gcd n e : Nat) : Int) := by
  have := Int.gcd_pos_of_ne_zero_right n (show e ≠ 0 by omega)
  omega
 refine ⟨Int.ediv_nonneg h0 (by omega), Int.ediv_le_self _ h0, ?_, Int.ediv_le_self _ (by omega)⟩
 have h3 := Int.ediv_mul_cancel (Int.gcd_dvd_right n e)
 refine Int.le_of_not_gt fun h => ?_
 have : e / (Int.gcd n e : Int) * (Int.gcd n e : Int) ≤ 0 * (Int.gcd n e : Int) := Int.mul_le_mul_of_nonneg_right (by omega) (by omega)
 omega
theorem blk_four {w : World} {g : Nat} {t : TypeId} {a b c d x y z u : Value} (h : w.heap[g]? = some (.cells #[a, b, c, d] t (0, 0))) : ((((w.setCell ⟨g, 0, none⟩ x).setCell ⟨g, 1, none⟩ y).setCell ⟨g, 2, none⟩ z).setCell ⟨g, 3, none⟩ u).heap[g]? = some (.cells #[x, y, z, u] t (0, 0)) :=
 blk_put (cs := #[x, y, z, d]) (blk_put (cs := #[x, y, c, d]) (blk_put (cs := #[x, b, c, d]) (blk_put (cs := #[a, b, c, d]) h 0 x rfl) 1 y rfl) 2 z rfl) 3 u rfl
structure Lx (w W : World) (d m n e : Int) (o : Obj) : Prop where
 e : W.heap[w.heap.size]? = some (edO d m n e)
 r : W.heap[w.heap.size + 1]? = some o
 below : Below w.heap.size w W
theorem Lx.start (w : World) (d m n e : Int) (o : Obj) : Lx w ((w.alloc (edO d m n e)).alloc o) d m n e o := by
 have e1 : (w.alloc (edO d m n e)).heap.size = w.heap.size + 1 := by simp
 have k2 := blk_new (w.alloc (edO d m n e)) o
 rw [e1] at k2
 exact ⟨blk_alloc (blk_new w _) _, k2, below_alloc (below_alloc (Below.refl _ w) _) _⟩
theorem Lx.step {w W W2 : World} {d m n e : Int} {o : Obj} (h : Lx w W d m n e o) (hb : Below W.heap.size W W2) : Lx w W2 d m n e o :=
 ⟨blk_below h.e hb, blk_below h.r hb, h.below.trans (hb.mono h.below.size)⟩
theorem set_other {w : World} {g g' o : Nat} {v : Value} {x : Obj} (h : w.heap[g]? = some x) (hne : g ≠ g') : (w.setCell ⟨g', o, none⟩ v).heap[g]? = some x := by
 rw [Below.heap_setCell _ _ _ _ hne]; exact h
set_option maxHeartbeats 4000000 in
set_option maxRecDepth 100000 in
theorem lowest_n (d m n e : Int) (w : World) (h0 : 0 ≤ n) (h1 : n ≤ 1000000) (h2 : 1 ≤ e) (h3 : e ≤ 1000000) :
  Calls Try.prog 71 #[.agg #[.int .i64 d, .int .i64 m, .int .i64 n, .int .i64 e]] w (fun e' w' => e' = .returned (.agg #[.int .i64 d, .int .i64 m, .int .i64 (qq n e).num, .int .i64 ((qq n e).den : Int)]) ∧ Below w.heap.size w w') := by
 have hu := Try.underlying77
 have hq := qq_low h0 h2
 have HC := Aside0.mk (fun W => ratioE_n n e W ⟨by omega, by omega⟩ ⟨by omega, by omega⟩ (by omega))
 have HQ := Aside0.mk (And.intro (And.intro (show -9223372036854775807 ≤ (qq n e).num by omega) (show (qq n e).num ≤ 9223372036854775807 by omega)) (And.intro (show -9223372036854775807 ≤ ((qq n e).den : Int) by omega) (show ((qq n e).den : Int) ≤ 9223372036854775807 by omega)))
 have hL := Aside0.mk (Lx.start w d m n e (edO 0 0 0 0))
 clear hq h0 h1 h2 h3
 generalize qq n e = Q at *
 go_enter Try.func71, Try.ntmps71
 go_wp2_with fail
 generalize hW : World.alloc (World.alloc _ _) _ = W
 have HL := Aside0.mk (show Lx w W d m n e (edO 0 0 0 0) by rw [← hW]; exact hL.out)
 clear hW hL
 refine (HC.out W).mono ?_
 rintro e3 w3 ⟨g3, hg3, rfl, hb3, hN3⟩
 have H3 := Aside0.mk (And.intro hN3 (HL.out.step hb3))
 clear hb3 hN3 hg3 HC
 go_wp2_with fail
 refine (num_n g3 w3).mono ?_
 rintro e4 w4 ⟨rfl, rfl⟩
 go_wp2_with fail
 refine (int64_n g3 0 Q.num 2 w3 H3.out.1.num HQ.out.1.1 HQ.out.1.2 (by decide)).mono ?_
 rintro e4 w4 ⟨rfl, hb4⟩
 have H4 := Aside0.mk (And.intro (H3.out.1.below hb4) (H3.out.2.step hb4))
 clear hb4
 go_wp2_with fail
 refine (denom_n g3 _ 2 w4 H4.out.1.den (den0 Q)).mono ?_
 rintro e5 w5 ⟨rfl, rfl⟩
 go_wp2_with fail
 refine (int64_n g3 2 Q.den 2 w4 H4.out.1.den HQ.out.2.1 HQ.out.2.2 (by decide)).mono ?_
 rintro e5 w5 ⟨rfl, hb5⟩
 have H5 := Aside0.mk (H4.out.2.step hb5)
 clear hb5
 obtain ⟨c0, c1, c2, c3⟩ := ed_cells H5.out.e
 obtain ⟨f0, f1, f2, f3⟩ := ed_free H5.out.e
 obtain ⟨r0, r1, r2, r3⟩ := ed_cells (d := 0) (m := 0) (n := 0) (e := 0) H5.out.r
 obtain ⟨s0, s1, s2, s3⟩ := ed_free (d := 0) (m := 0) (n := 0) (e := 0) H5.out.r
 go_wp2_with fail
 have hr : ((w5.setCell ⟨w.heap.size, 2, none⟩ (.int .i64 Q.num)).setCell ⟨w.heap.size, 3, none⟩ (.int .i64 (Q.den : Int))).heap[w.heap.size + 1]? = some (edO 0 0 0 0) :=
  set_other (set_other H5.out.r (by omega)) (by omega)
 refine bodyPost_ret (results_single rfl (.cell (w.heap.size + 1) 77 #[.int .i64 d, .int .i64 m, .int .i64 Q.num, .int .i64 (Q.den : Int)] (0, 0) _ rfl (blk_four hr) Try.underlying77 rfl (by kernel_rfl) .nil)) rfl ?_
 have hB := H5.out.below
 exact ⟨rfl, (((((hB.setCell (Nat.le_refl _) _).setCell (Nat.le_refl _) _).setCell (Nat.le_succ _) _).setCell (Nat.le_succ _) _).setCell (Nat.le_succ _) _).setCell (Nat.le_succ _) _⟩
def kdO (b : Bool) (s n e : Int) : Obj := .cells #[.bool b, .int .i64 s, .int .i64 n, .int .i64 e] 155 (0, 0)
def kB (m n e : Int) : Bool := decide (m < 0)
def kS (m n e : Int) : Int := if m < 0 then 0 else if n = 0 then m else 0
def kN (m n e : Int) : Int := if m < 0 then 0 else if n = 0 then 0 else n
def kE (m n e : Int) : Int := if m < 0 then 0 else if n = 0 then 0 else e
set_option maxHeartbeats 4000000 in
set_option maxRecDepth 100000 in
theorem kindOf_n (d m n e : Int) (w : World) :
  Calls Try.prog 150 #[.agg #[.int .i64 d, .int .i64 m, .int .i64 n, .int .i64 e]] w (fun e' w' => e' = .returned (.agg #[.bool (kB m n e), .int .i64 (kS m n e), .int .i64 (kN m n e), .int .i64 (kE m n e)]) ∧ Below w.heap.size w w') := by
 have hu := Try.underlying77
 have hu2 := Try.underlying155
 go_enter Try.func150, Try.ntmps150
 go_wp2
 ·refine bodyPost_ret (results_single rfl (.cell (w.heap.size + 1) 155 #[.bool true, .int .i64 0, .int .i64 0, .int .i64 0] (0, 0) _ rfl (Lx.start w d m n e (kdO true 0 0 0)).r Try.underlying155 rfl (by kernel_rfl) .nil)) rfl ?_
  refine ⟨?_, (Lx.start w d m n e (kdO true 0 0 0)).below⟩
  unfold kB kS kN kE
  simp_all
 ·refine bodyPost_ret (results_single rfl (.cell (w.heap.size + 1) 155 #[.bool false, .int .i64 m, .int .i64 0, .int .i64 0] (0, 0) _ rfl (Lx.start w d m n e (kdO false m 0 0)).r Try.underlying155 rfl (by kernel_rfl) .nil)) rfl ?_
  refine ⟨?_, (Lx.start w d m n e (kdO false m 0 0)).below⟩
  have h0 : ¬ m < 0 := by omega
  have hn : n = 0 := by simp_all
  unfold kB kS kN kE
  simp [h0, hn]
 ·refine bodyPost_ret (results_single rfl (.cell (w.heap.size + 1) 155 #[.bool false, .int .i64 0, .int .i64 n, .int .i64 e] (0, 0) _ rfl (Lx.start w d m n e (kdO false 0 n e)).r Try.underlying155 rfl (by kernel_rfl) .nil)) rfl ?_
  refine ⟨?_, (Lx.start w d m n e (kdO false 0 n e)).below⟩
  have h0 : ¬ m < 0 := by omega
  have hn : n ≠ 0 := by simp_all
  unfold kB kS kN kE
  simp [h0, hn]
theorem eqA155 (d : Nat) (w : World) (x0 y0 : Bool) (x1 y1 : Int) (x2 y2 : Int) (x3 y3 : Int) :
  (Op.equalIn (d + 2) 155 (.agg #[.bool x0, .int .i64 x1, .int .i64 x2, .int .i64 x3]) (.agg #[.bool y0, .int .i64 y1, .int .i64 y2, .int .i64 y3])).run Try.prog w = .ok (x0 == y0 && (x1 == y1 && (x2 == y2 && (x3 == y3)))) w := by
 refine eqA_of Try.underlying155 (by kernel_rfl) ?_
 refine eqf_cons (by rfl) (by go_simp; rfl) (by go_simp; rfl) (by go_simp) ?_
 refine eqf_cons (by rfl) (by go_simp; rfl) (by go_simp; rfl) (by go_simp) ?_
 refine eqf_cons (by rfl) (by go_simp; rfl) (by go_simp; rfl) (by go_simp) ?_
 exact eqf_last (by rfl) (by go_simp; rfl) (by go_simp; rfl) (by go_simp)
attribute [local go_sem high] eqA155
structure Ox (w W : World) (ms ts d m n e d' m' n' e' : Int) : Prop where
 c : W.heap[w.heap.size]? = some (clO ms ts)
 a : W.heap[w.heap.size + 1]? = some (edO d m n e)
 b : W.heap[w.heap.size + 1 + 1]? = some (edO d' m' n' e')
 below : Below w.heap.size w W
theorem Ox.start (w : World) (ms ts d m n e d' m' n' e' : Int) : Ox w (((w.alloc (clO ms ts)).alloc (edO d m n e)).alloc (edO d' m' n' e')) ms ts d m n e d' m' n' e' := by
 have e1 : (w.alloc (clO ms ts)).heap.size = w.heap.size + 1 := by simp
 have e2 : ((w.alloc (clO ms ts)).alloc (edO d m n e)).heap.size = w.heap.size + 1 + 1 := by simp
 have k2 := blk_new (w.alloc (clO ms ts)) (edO d m n e)
 have k3 := blk_new ((w.alloc (clO ms ts)).alloc (edO d m n e)) (edO d' m' n' e')
 rw [e1] at k2
 rw [e2] at k3
 exact ⟨blk_alloc (blk_alloc (blk_new w _) _) _, blk_alloc k2 _, k3, below_alloc (below_alloc (below_alloc (Below.refl _ w) _) _) _⟩
theorem Ox.step {w W W2 : World} {ms ts d m n e d' m' n' e' : Int} (h : Ox w W ms ts d m n e d' m' n' e') (hb : Below W.heap.size W W2) : Ox w W2 ms ts d m n e d' m' n' e' :=
 ⟨blk_below h.c hb, blk_below h.a hb, blk_below h.b hb, h.below.trans (hb.mono h.below.size)⟩
theorem Ox.cells {w W : World} {ms ts d m n e d' m' n' e' : Int} (h : Ox w W ms ts d m n e d' m' n' e') : W.cell? ⟨w.heap.size, 0, none⟩ = some (.int .i64 ms) ∧ W.cell? ⟨w.heap.size, 1, none⟩ = some (.int .i64 ts) ∧ W.cell? ⟨w.heap.size + 1, 0, none⟩ = some (.int .i64 d) ∧ W.cell? ⟨w.heap.size + 1, 1, none⟩ = some (.int .i64 m) ∧ W.cell? ⟨w.heap.size + 1, 2, none⟩ = some (.int .i64 n) ∧ W.cell? ⟨w.heap.size + 1, 3, none⟩ = some (.int .i64 e) ∧ W.cell? ⟨w.heap.size + 1 + 1, 0, none⟩ = some (.int .i64 d') ∧ W.cell? ⟨w.heap.size + 1 + 1, 1, none⟩ = some (.int .i64 m') ∧ W.cell? ⟨w.heap.size + 1 + 1, 2, none⟩ = some (.int .i64 n') ∧ W.cell? ⟨w.heap.size + 1 + 1, 3, none⟩ = some (.int .i64 e') := by
 obtain ⟨c0, c1⟩ := cl_cells h.c
 obtain ⟨e0, e1, e2, e3⟩ := ed_cells h.a
 obtain ⟨f0, f1, f2, f3⟩ := ed_cells h.b
 exact ⟨c0, c1, e0, e1, e2, e3, f0, f1, f2, f3⟩
def kinB (m n e m' n' e' : Int) : Bool := (kB m n e == kB m' n' e') && ((kS m n e == kS m' n' e') && ((kN m n e == kN m' n' e') && (kE m n e == kE m' n' e')))
def overB (ms ts d m n e m' n' e' : Int) : Bool := kinB m n e m' n' e' && (decide (m < 0) || (n == 0) || (cmpQ (afterQ ms ts m n e d) (qq m' 1) == 0))
set_option maxHeartbeats 8000000 in
set_option maxRecDepth 100000 in
theorem over_n (ms ts d m n e d' m' n' e' : Int) (w : World) (h1 : I64 ms ∧ ms ≠ 0) (h2 : I64 ts) (h3 : I64 m) (h4 : I64 n) (h5 : I64 e ∧ e ≠ 0) (h6 : I64 d) (h7 : I64 m') :
  Calls Try.prog 113 #[.agg #[.int .i64 ms, .int .i64 ts], .agg #[.int .i64 d, .int .i64 m, .int .i64 n, .int .i64 e], .agg #[.int .i64 d', .int .i64 m', .int .i64 n', .int .i64 e']] w (ValP w (.bool (overB ms ts d m n e m' n' e'))) := by
 have hu := Try.underlying77
 have hu2 := Try.underlying155
 have hu3 := Try.underlying79
 have HH := Aside0.mk (And.intro h1 (And.intro h2 (And.intro h3 (And.intro h4 (And.intro h5 (And.intro h6 h7))))))
 have hQ := Aside0.mk (Ox.start w ms ts d m n e d' m' n' e')
 have HV := Aside0.mk (show overB ms ts d m n e m' n' e' = (kinB m n e m' n' e' && (decide (m < 0) || (n == 0) || (cmpQ (afterQ ms ts m n e d) (qq m' 1) == 0))) from rfl)
 generalize overB ms ts d m n e m' n' e' = V at *
 have hk := Aside0.mk (show kinB m n e m' n' e' = ((kB m n e == kB m' n' e') && ((kS m n e == kS m' n' e') && ((kN m n e == kN m' n' e') && (kE m n e == kE m' n' e')))) from rfl)
 clear h1 h2 h3 h4 h5 h6 h7
 go_enter Try.func113, Try.ntmps113
 go_wp2_with fail
 generalize hW : World.alloc (World.alloc (World.alloc _ _) _) _ = W
 have HQ := Aside0.mk (show Ox w W ms ts d m n e d' m' n' e' by rw [← hW]; exact hQ.out)
 clear hW hQ
 have hb0 : Below W.heap.size W W.drew := below_drew' (Below.refl _ _)
 refine start_ (n := 5) (S := fun w' => w'.cell? ⟨w.heap.size + 1, 0, none⟩ = some (.int .i64 d) ∧ w'.cell? ⟨w.heap.size + 1, 1, none⟩ = some (.int .i64 m) ∧ w'.cell? ⟨w.heap.size + 1, 2, none⟩ = some (.int .i64 n) ∧ w'.cell? ⟨w.heap.size + 1, 3, none⟩ = some (.int .i64 e) ∧ w'.cell? ⟨w.heap.size + 1 + 1, 0, none⟩ = some (.int .i64 d') ∧ w'.cell? ⟨w.heap.size + 1 + 1, 1, none⟩ = some (.int .i64 m') ∧ w'.cell? ⟨w.heap.size + 1 + 1, 2, none⟩ = some (.int .i64 n') ∧ w'.cell? ⟨w.heap.size + 1 + 1, 3, none⟩ = some (.int .i64 e')) (ds := []) (bs 5 0) (by kernel_rfl) rfl rfl (HQ.out.step hb0).cells.2.2 (fun hHeld => ?_)
 refine zT 0 7 5 1 hHeld ?_
 refine zT 2 9 5 5 hHeld ?_
 refine zN 1 (some 8) 5 7 (fun K hK => ?_)
 refine zG Try.func150 #[.agg #[.int .i64 d, .int .i64 m, .int .i64 n, .int .i64 e]] ?_
 with_reducible refine (kindOf_n d m n e W.drew).mono ?_
 rintro e3 w3 ⟨rfl, hb3⟩
 refine ⟨_, rfl, ?_⟩
 have hb3' := below_drew' hb3
 have H3 := Aside0.mk (HQ.out.step hb3')
 clear hb3 hb3'
 refine hK.out _ _ H3.out.cells.2.2 (fun hHeld => ?_)
 clear hK K
 refine zM 8 ?_
 refine zN 3 (some 10) 5 15 (fun K hK => ?_)
 refine zG Try.func150 #[.agg #[.int .i64 d', .int .i64 m', .int .i64 n', .int .i64 e']] ?_
 with_reducible refine (kindOf_n d' m' n' e' w3).mono ?_
 rintro e4 w4 ⟨rfl, hb4⟩
 refine ⟨_, rfl, ?_⟩
 have H4 := Aside0.mk (H3.out.step hb4)
 clear hb4
 refine hK.out _ _ H4.out.cells.2.2 (fun hHeld => ?_)
 clear hK K
 refine zM 10 ?_
 refine zP 4 11 5 31 ?_
 refine done_ (by kernel_rfl) ?_
 have hn : (!kB m n e == kB m' n' e' || (!kS m n e == kS m' n' e' || (!kN m n e == kN m' n' e' || !kE m n e == kE m' n' e'))) = !kinB m n e m' n' e' := by rw [hk.out]; simp only [Bool.not_and]
 rw [hn]
 clear hn hk hHeld hb0
 cases hK : kinB m n e m' n' e' with
 | false =>
  have HV2 := Aside0.mk (show V = false by rw [HV.out, hK]; rfl)
  clear HV hK
  simp only [Bool.not_false]
  go_wp2_with fail
  go_ret
  exact ⟨ret_b HV2.out.symm, H4.out.below⟩
 | true =>
  have HV2 := Aside0.mk (show V = (decide (m < 0) || (n == 0) || (cmpQ (afterQ ms ts m n e d) (qq m' 1) == 0)) by rw [HV.out, hK]; rfl)
  clear HV hK H3
  simp only [Bool.not_true]
  by_cases hm : m < 0
  ·have hm1 : decide (m < 0) = true := decide_eq_true hm
   have HV3 := Aside0.mk (show V = true by rw [HV2.out, hm1]; rfl)
   clear HV2 hm
   go_wp2_with fail
   refine start_ (n := 21) (S := fun w' => w'.cell? ⟨w.heap.size, 0, none⟩ = some (.int .i64 ms) ∧ w'.cell? ⟨w.heap.size, 1, none⟩ = some (.int .i64 ts) ∧ w'.cell? ⟨w.heap.size + 1, 0, none⟩ = some (.int .i64 d) ∧ w'.cell? ⟨w.heap.size + 1, 1, none⟩ = some (.int .i64 m) ∧ w'.cell? ⟨w.heap.size + 1, 2, none⟩ = some (.int .i64 n) ∧ w'.cell? ⟨w.heap.size + 1, 3, none⟩ = some (.int .i64 e) ∧ w'.cell? ⟨w.heap.size + 1 + 1, 0, none⟩ = some (.int .i64 d') ∧ w'.cell? ⟨w.heap.size + 1 + 1, 1, none⟩ = some (.int .i64 m') ∧ w'.cell? ⟨w.heap.size + 1 + 1, 2, none⟩ = some (.int .i64 n') ∧ w'.cell? ⟨w.heap.size + 1 + 1, 3, none⟩ = some (.int .i64 e')) (ds := []) (bs 21 0) (by kernel_rfl) rfl rfl (H4.out.step (below_drew' (Below.refl _ _))).cells (fun hHeld => ?_)
   refine zP 0 12 21 1 ?_
   refine zT 1 13 21 3 hHeld ?_
   refine zP 2 14 21 7 ?_
   refine zP 3 15 21 15 ?_
   refine zO 4 16 21 31 ?_
   refine zO 5 17 21 63 ?_
   refine zO 6 18 21 127 ?_
   refine zP 7 19 21 255 ?_
   refine zP 8 20 21 511 ?_
   refine zO 9 21 21 1023 ?_
   refine zO 10 22 21 2047 ?_
   refine zO 11 23 21 4095 ?_
   refine zO 12 24 21 8191 ?_
   refine zO 13 25 21 16383 ?_
   refine zO 14 26 21 32767 ?_
   refine zO 15 27 21 65535 ?_
   refine zO 16 28 21 131071 ?_
   refine zO 17 29 21 262143 ?_
   refine zO 18 30 21 524287 ?_
   refine zP 19 31 21 1048575 ?_
   refine zP 20 6 21 2097151 ?_
   refine done_ (by kernel_rfl) ?_
   go_wp2_with fail
   go_ret
   exact ⟨ret_b HV3.out.symm, (H4.out.step (below_drew' (Below.refl _ _))).below⟩
  ·have hm1 : decide (m < 0) = false := decide_eq_false hm
   clear hm
   by_cases hz : n = 0
   ·have hz1 : (n == 0) = true := by simpa using hz
    have HV3 := Aside0.mk (show V = true by rw [HV2.out, hz1]; simp)
    clear HV2 hz
    go_wp2_with fail
    refine start_ (n := 21) (S := fun w' => w'.cell? ⟨w.heap.size, 0, none⟩ = some (.int .i64 ms) ∧ w'.cell? ⟨w.heap.size, 1, none⟩ = some (.int .i64 ts) ∧ w'.cell? ⟨w.heap.size + 1, 0, none⟩ = some (.int .i64 d) ∧ w'.cell? ⟨w.heap.size + 1, 1, none⟩ = some (.int .i64 m) ∧ w'.cell? ⟨w.heap.size + 1, 2, none⟩ = some (.int .i64 n) ∧ w'.cell? ⟨w.heap.size + 1, 3, none⟩ = some (.int .i64 e) ∧ w'.cell? ⟨w.heap.size + 1 + 1, 0, none⟩ = some (.int .i64 d') ∧ w'.cell? ⟨w.heap.size + 1 + 1, 1, none⟩ = some (.int .i64 m') ∧ w'.cell? ⟨w.heap.size + 1 + 1, 2, none⟩ = some (.int .i64 n') ∧ w'.cell? ⟨w.heap.size + 1 + 1, 3, none⟩ = some (.int .i64 e')) (ds := []) (bs 21 0) (by kernel_rfl) rfl rfl (H4.out.step (below_drew' (Below.refl _ _))).cells (fun hHeld => ?_)
    refine zP 0 12 21 1 ?_
    refine zT 1 13 21 3 hHeld ?_
    refine zP 2 14 21 7 ?_
    refine zP 3 15 21 15 ?_
    refine zP 4 16 21 31 ?_
    refine zT 5 17 21 63 hHeld ?_
    refine zP 6 18 21 127 ?_
    refine zP 7 19 21 255 ?_
    refine zP 8 20 21 511 ?_
    refine zO 9 21 21 1023 ?_
    refine zO 10 22 21 2047 ?_
    refine zO 11 23 21 4095 ?_
    refine zO 12 24 21 8191 ?_
    refine zO 13 25 21 16383 ?_
    refine zO 14 26 21 32767 ?_
    refine zO 15 27 21 65535 ?_
    refine zO 16 28 21 131071 ?_
    refine zO 17 29 21 262143 ?_
    refine zO 18 30 21 524287 ?_
    refine zP 19 31 21 1048575 ?_
    refine zP 20 6 21 2097151 ?_
    refine done_ (by kernel_rfl) ?_
    go_wp2_with fail
    go_ret
    exact ⟨ret_b HV3.out.symm, (H4.out.step (below_drew' (Below.refl _ _))).below⟩
   ·have hz1 : (n == 0) = false := by simpa using hz
    have HV3 := Aside0.mk (show V = (cmpQ (afterQ ms ts m n e d) (qq m' 1) == 0) by rw [HV2.out, hm1, hz1]; rfl)
    clear HV2 hz
    go_wp2_with fail
    refine start_ (n := 21) (S := fun w' => w'.cell? ⟨w.heap.size, 0, none⟩ = some (.int .i64 ms) ∧ w'.cell? ⟨w.heap.size, 1, none⟩ = some (.int .i64 ts) ∧ w'.cell? ⟨w.heap.size + 1, 0, none⟩ = some (.int .i64 d) ∧ w'.cell? ⟨w.heap.size + 1, 1, none⟩ = some (.int .i64 m) ∧ w'.cell? ⟨w.heap.size + 1, 2, none⟩ = some (.int .i64 n) ∧ w'.cell? ⟨w.heap.size + 1, 3, none⟩ = some (.int .i64 e) ∧ w'.cell? ⟨w.heap.size + 1 + 1, 0, none⟩ = some (.int .i64 d') ∧ w'.cell? ⟨w.heap.size + 1 + 1, 1, none⟩ = some (.int .i64 m') ∧ w'.cell? ⟨w.heap.size + 1 + 1, 2, none⟩ = some (.int .i64 n') ∧ w'.cell? ⟨w.heap.size + 1 + 1, 3, none⟩ = some (.int .i64 e')) (ds := []) (bs 21 0) (by kernel_rfl) rfl rfl (H4.out.step (below_drew' (Below.refl _ _))).cells (fun hHeld => ?_)
    refine zP 0 12 21 1 ?_
    refine zT 1 13 21 3 hHeld ?_
    refine zP 2 14 21 7 ?_
    refine zP 3 15 21 15 ?_
    refine zP 4 16 21 31 ?_
    refine zT 5 17 21 63 hHeld ?_
    refine zP 6 18 21 127 ?_
    refine zP 7 19 21 255 ?_
    refine zP 8 20 21 511 ?_
    refine zP 11 23 21 2559 ?_
    refine zP 14 26 21 18943 ?_
    refine zT 9 21 21 19455 hHeld ?_
    refine zT 10 22 21 20479 hHeld ?_
    refine zT 12 24 21 24575 hHeld ?_
    refine zT 15 27 21 57343 hHeld ?_
    refine zN 13 (some 25) 21 65535 (fun K hK => ?_)
    refine zG Try.func135 #[.agg #[.int .i64 ms, .int .i64 ts], .agg #[.int .i64 d, .int .i64 m, .int .i64 n, .int .i64 e], .int .i64 d] ?_
    with_reducible refine (after_n ms ts d m n e d w4.drew HH.out.1 HH.out.2.1 HH.out.2.2.1 HH.out.2.2.2.1 HH.out.2.2.2.2.1 HH.out.2.2.2.2.2.1).mono ?_
    rintro e5 w5 ⟨g5, hg5, rfl, hb5, hN5⟩
    refine ⟨_, rfl, ?_⟩
    have hb5' := below_drew' hb5
    have H5 := Aside0.mk (And.intro hN5 (H4.out.step hb5'))
    clear hb5 hb5' hN5 hg5
    refine hK.out _ _ H5.out.2.cells (fun hHeld => ?_)
    clear hK K
    refine zM 25 ?_
    refine zN 16 (some 28) 21 131071 (fun K hK => ?_)
    refine zG Try.func78 #[.int .i64 m', .int .i64 1] ?_
    with_reducible refine (ratioE_n m' 1 w5 HH.out.2.2.2.2.2.2 i1 (by decide)).mono ?_
    rintro e6 w6 ⟨g6, hg6, rfl, hb6, hN6⟩
    refine ⟨_, rfl, ?_⟩
    have H6 := Aside0.mk (And.intro (H5.out.1.below hb6) (And.intro hN6 (H5.out.2.step hb6)))
    clear hb6 hN6 hg6
    refine hK.out _ _ H6.out.2.2.cells (fun hHeld => ?_)
    clear hK K
    refine zM 28 ?_
    refine zN 17 (some 29) 21 262143 (fun K hK => ?_)
    refine zG Try.func81 #[.pointer (some ⟨g5, 0, none⟩), .pointer (some ⟨g6, 0, none⟩)] ?_
    with_reducible refine (cmpQ_n g5 g6 _ _ 9 2 w6 H6.out.1 H6.out.2.1 (by decide)).mono ?_
    rintro e7 w7 ⟨rfl, hb7⟩
    refine ⟨_, rfl, ?_⟩
    have H7 := Aside0.mk (H6.out.2.2.step hb7)
    clear hb7
    refine hK.out _ _ H7.out.cells (fun hHeld => ?_)
    clear hK K
    refine zM 29 ?_
    refine zP 18 30 21 524287 ?_
    refine zP 19 31 21 1048575 ?_
    refine zP 20 6 21 2097151 ?_
    refine done_ (by kernel_rfl) ?_
    go_wp2_with fail
    go_ret
    exact ⟨ret_b HV3.out.symm, H7.out.below⟩
end Go.Proofs.Ytpbhepdgamoiaaa.Ek
namespace Go.Proofs.Ytpbhepdgamoiaaa.Pe
open Go.RowKit Go Go.Proofs.YtpbhepdgamoiaaaW.PrintWords Go.Proofs.YtpbhepdgamoiaaaW.PrintLast Go.Proofs.YtpbhepdgamoiaaaW.PrintMore Go.Proofs.Ytpbhepdgamoiaaa.Mn Go.Proofs.Ytpbhepdgamoiaaa.Rf Go.Proofs.Ytpbhepdgamoiaaa.Er Go.Proofs.Ytpbhepdgamoiaaa.Ek Go.Proofs.Ytpbhepdgamoiaaa.E
set_option linter.unusedVariables false
set_option linter.unusedSimpArgs false
abbrev Ed := S77
def sumD : List S77 → Int
 | [] => 0
 | x :: t => x.f0 + sumD t
theorem sumD_app (a b : List S77) : sumD (a ++ b) = sumD a + sumD b := by
 induction a with
 | nil => simp [sumD]
 | cons x t ih => simp only [List.cons_append, sumD, ih]; omega
theorem sumD_take (l : List S77) (i : Nat) (hi : i < l.length) : sumD (l.take (i + 1)) = sumD (l.take i) + (l.getD i z77).f0 := by
 rw [List.take_add_one, sumD_app]
 have : l[i]?.toList = [l.getD i z77] := by
  rw [List.getElem?_eq_getElem hi, List.getD_eq_getElem?_getD, List.getElem?_eq_getElem hi]
  rfl
 rw [this]
 simp [sumD]
structure Vd (x : Ed) : Prop where
 d0 : 1 ≤ x.f0
 d1 : x.f0 ≤ 1099511627776
 m0 : -1 ≤ x.f1
 m1 : x.f1 ≤ 1099511627776
 n0 : 0 ≤ x.f2
 n1 : x.f2 ≤ 1000
 e0 : 1 ≤ x.f3
 e1 : x.f3 ≤ 1000
 em : x.f1 < 0 → x.f2 = 1 ∧ x.f3 = 1
instance (x : Ed) : Decidable (Vd x) :=
 decidable_of_iff (1 ≤ x.f0 ∧ x.f0 ≤ 1099511627776 ∧ -1 ≤ x.f1 ∧ x.f1 ≤ 1099511627776 ∧ 0 ≤ x.f2 ∧ x.f2 ≤ 1000 ∧ 1 ≤ x.f3 ∧ x.f3 ≤ 1000 ∧ (x.f1 < 0 → x.f2 = 1 ∧ x.f3 = 1))
  ⟨fun ⟨a, b, c, d, e, f, g, h, i⟩ => ⟨a, b, c, d, e, f, g, h, i⟩, fun h => ⟨h.d0, h.d1, h.m0, h.m1, h.n0, h.n1, h.e0, h.e1, h.em⟩⟩
structure Ck (ms ts : Int) : Prop where
 m0 : 1 ≤ ms
 m1 : ms ≤ 1000000
 t0 : 1 ≤ ts
 t1 : ts ≤ 1000000
instance (ms ts : Int) : Decidable (Ck ms ts) :=
 decidable_of_iff (1 ≤ ms ∧ ms ≤ 1000000 ∧ 1 ≤ ts ∧ ts ≤ 1000000) ⟨fun ⟨a, b, c, d⟩ => ⟨a, b, c, d⟩, fun h => ⟨h.m0, h.m1, h.t0, h.t1⟩⟩
theorem valid_f (x : Ed) : edit_valid.f x.f0 x.f1 x.f2 x.f3 = some true ∧ Vd x ∨ edit_valid.f x.f0 x.f1 x.f2 x.f3 = some false ∧ ¬ Vd x := by
 unfold edit_valid.f
 by_cases h1 : x.f0 < 1
 ·rw [if_pos h1]; exact .inr ⟨rfl, fun h => by have := h.d0; omega⟩
 rw [if_neg h1]
 by_cases h2 : x.f0 > 1099511627776
 ·rw [if_pos h2]; exact .inr ⟨rfl, fun h => by have := h.d1; omega⟩
 rw [if_neg h2]
 by_cases h3 : x.f1 < -1
 ·rw [if_pos h3]; exact .inr ⟨rfl, fun h => by have := h.m0; omega⟩
 rw [if_neg h3]
 by_cases h4 : x.f1 > 1099511627776
 ·rw [if_pos h4]; exact .inr ⟨rfl, fun h => by have := h.m1; omega⟩
 rw [if_neg h4]
 by_cases h5 : x.f2 < 0
 ·rw [if_pos h5]; exact .inr ⟨rfl, fun h => by have := h.n0; omega⟩
 rw [if_neg h5]
 by_cases h6 : x.f2 > 1000
 ·rw [if_pos h6]; exact .inr ⟨rfl, fun h => by have := h.n1; omega⟩
 rw [if_neg h6]
 by_cases h7 : x.f3 < 1
 ·rw [if_pos h7]; exact .inr ⟨rfl, fun h => by have := h.e0; omega⟩
 rw [if_neg h7]
 by_cases h8 : x.f3 > 1000
 ·rw [if_pos h8]; exact .inr ⟨rfl, fun h => by have := h.e1; omega⟩
 rw [if_neg h8]
 by_cases h9 : x.f1 ≥ 0
 ·rw [if_pos h9]; exact .inl ⟨rfl, ⟨by omega, by omega, by omega, by omega, by omega, by omega, by omega, by omega, fun h => by omega⟩⟩
 rw [if_neg h9]
 by_cases h10 : x.f2 = 1
 ·rw [if_pos h10]
  by_cases h11 : x.f3 = 1
  ·rw [h11]; exact .inl ⟨rfl, ⟨by omega, by omega, by omega, by omega, by omega, by omega, by omega, by omega, fun h => by omega⟩⟩
  ·exact .inr ⟨by simp [h11], fun h => by have := h.em (by omega); omega⟩
 ·rw [if_neg h10]; exact .inr ⟨rfl, fun h => by have := h.em (by omega); omega⟩
def chk (l : List Ed) (ms ts : Int) : Int := if ¬ Ck ms ts then 1 else if 20 < l.length then 2 else if (∀ x ∈ l, Vd x) ∧ sumD l ≤ 1099511627776 then 0 else 33
theorem chk_ok {l : List Ed} {ms ts : Int} : chk l ms ts = 0 ↔ Ck ms ts ∧ l.length ≤ 20 ∧ (∀ x ∈ l, Vd x) ∧ sumD l ≤ 1099511627776 := by
 unfold chk
 constructor
 ·intro h
  by_cases h1 : Ck ms ts
  ·rw [if_neg (not_not_intro h1)] at h
   by_cases h2 : 20 < l.length
   ·rw [if_pos h2] at h; cases h
   ·rw [if_neg h2] at h
    by_cases h3 : (∀ x ∈ l, Vd x) ∧ sumD l ≤ 1099511627776
    ·exact ⟨h1, by omega, h3.1, h3.2⟩
    ·rw [if_neg h3] at h; cases h
  ·rw [if_pos h1] at h; cases h
 ·rintro ⟨h1, h2, h3, h4⟩
  rw [if_neg (not_not_intro h1), if_neg (by omega), if_pos ⟨h3, h4⟩]
theorem rd_at (pre : List Ed) (x : Ed) (rest : List Ed) : rd_T77 (pre ++ x :: rest) (pre.length : Int) = x := by
 unfold rd_T77
 simp [List.getD_eq_getElem?_getD]
theorem sumD_nonneg {l : List Ed} (h : ∀ x ∈ l, Vd x) : 0 ≤ sumD l := by
 induction l with
 | nil => simp [sumD]
 | cons x t ih =>
  have h1 := (h x (by simp)).d0
  have h2 := ih (fun y hy => h y (by simp [hy]))
  simp only [sumD]
  omega
theorem sumD_le {l : List Ed} (h : ∀ x ∈ l, Vd x) : sumD l ≤ 1099511627776 * l.length := by
 induction l with
 | nil => simp [sumD]
 | cons x t ih =>
  have h1 := (h x (by simp)).d1
  have h2 := ih (fun y hy => h y (by simp [hy]))
  simp only [sumD, List.length_cons]
  omega
theorem check_l (l : List Ed) (hl : l.length ≤ 20) (rest : List Ed) : ∀ pre, l = pre ++ rest → (∀ x ∈ pre, Vd x) → Ev (fun k => edit_Check.l0 k (sumD pre) l (l.length : Int) (pre.length : Int)) (if (∀ x ∈ rest, Vd x) ∧ sumD l ≤ 1099511627776 then 0 else 33) := by
 induction rest with
 | nil =>
  intro pre he hp
  subst he
  refine Ev.step (f := fun _ => some (if (∀ x ∈ ([] : List Ed), Vd x) ∧ sumD (pre ++ []) ≤ 1099511627776 then 0 else 33)) (fun k => ?_) (Ev.now _)
  simp only [edit_Check.l0, List.append_nil]
  rw [if_neg (by omega)]
  by_cases h : sumD pre > 1099511627776
  ·rw [if_pos h, if_neg (by intro hh; omega)]
  ·rw [if_neg h, if_pos ⟨by simp, by omega⟩]
 | cons x t ih =>
  intro pre he hp
  have hlen : l.length = pre.length + (t.length + 1) := by rw [he]; simp
  have hx : rd_T77 l (pre.length : Int) = x := by rw [he]; exact rd_at pre x t
  rcases valid_f x with ⟨hv, hV⟩ | ⟨hv, hV⟩
  ·have hs : sumD (pre ++ [x]) = sumD pre + x.f0 := by rw [sumD_app]; simp [sumD]
   have hb := sumD_le hp
   have h0 := sumD_nonneg hp
   have hr := ih (pre ++ [x]) (by rw [he]; simp) (by intro y hy; simp only [List.mem_append, List.mem_singleton] at hy; rcases hy with hy | rfl; exact hp y hy; exact hV)
   refine Ev.step (fun k => ?_) (Ev.congr (f := fun k => edit_Check.l0 k (sumD (pre ++ [x])) l (l.length : Int) ((pre ++ [x]).length : Int)) (fun k => rfl) ?_)
   ·simp only [edit_Check.l0]
    rw [if_pos (by omega), if_pos (by omega), if_pos (by omega), hx, hv]
    simp only [Option.bind_some, if_true]
    rw [w64 (by have := hV.d0; omega) (by have := hV.d1; omega), w64 (by omega) (by omega), hs]
    simp
   ·have e : ((∀ y ∈ x :: t, Vd y) ∧ sumD l ≤ 1099511627776) = ((∀ y ∈ t, Vd y) ∧ sumD l ≤ 1099511627776) := by
     apply propext
     constructor
     ·rintro ⟨h1, h2⟩; exact ⟨fun y hy => h1 y (by simp [hy]), h2⟩
     ·rintro ⟨h1, h2⟩; exact ⟨fun y hy => by simp only [List.mem_cons] at hy; rcases hy with rfl | hy; exact hV; exact h1 y hy, h2⟩
    simp only [e]
    exact hr
  ·refine Ev.step (f := fun _ => some 33) (fun k => ?_) ?_
   ·simp only [edit_Check.l0]
    rw [if_pos (by omega), if_pos (by omega), if_pos (by omega), hx, hv]
    simp
   ·rw [if_neg (fun h => hV (h.1 x (by simp)))]
    exact Ev.now _
theorem scale_f (n : Int) : edit_isScale.f n = some (decide (1 ≤ n ∧ n ≤ 1000000)) := by
 unfold edit_isScale.f
 by_cases h : n ≥ 1
 ·rw [if_pos h]; simp; omega
 ·rw [if_neg h]; simp; omega
theorem check_f (l : List Ed) (ms ts : Int) : Ev (fun k => edit_Check.f k l ms ts) (chk l ms ts) := by
 have h0 : ∀ b, Ev (fun k => edit_Check.j0 k l b) (if b = true then 1 else if 20 < l.length then 2 else if (∀ x ∈ l, Vd x) ∧ sumD l ≤ 1099511627776 then 0 else 33) := by
  intro b
  by_cases hb : b = true
  ·rw [if_pos hb]
   refine Ev.step (f := fun _ => some 1) (fun k => ?_) (Ev.now _)
   simp only [edit_Check.j0]
   rw [if_pos hb]
  ·rw [if_neg hb]
   by_cases hl : 20 < l.length
   ·rw [if_pos hl]
    refine Ev.step (f := fun _ => some 2) (fun k => ?_) (Ev.now _)
    simp only [edit_Check.j0]
    rw [if_neg hb, if_pos (by omega)]
   ·rw [if_neg hl]
    refine Ev.step (fun k => ?_) (check_l l (by omega) l [] rfl (by simp))
    simp only [edit_Check.j0]
    rw [if_neg hb, if_neg (by omega)]
    rfl
 unfold chk
 by_cases h1 : 1 ≤ ms ∧ ms ≤ 1000000
 ·by_cases h2 : 1 ≤ ts ∧ ts ≤ 1000000
  ·rw [if_neg (not_not_intro ⟨h1.1, h1.2, h2.1, h2.2⟩)]
   refine Ev.congr (fun k => ?_) (h0 false)
   unfold edit_Check.f
   rw [scale_f, scale_f, decide_eq_true h1, decide_eq_true h2]
   rfl
  ·rw [if_pos (fun h => h2 ⟨h.t0, h.t1⟩)]
   refine Ev.congr (fun k => ?_) (h0 true)
   unfold edit_Check.f
   rw [scale_f, scale_f, decide_eq_true h1, decide_eq_false h2]
   rfl
 ·rw [if_pos (fun h => h1 ⟨h.m0, h.m1⟩)]
  refine Ev.congr (fun k => ?_) (h0 true)
  unfold edit_Check.f
  rw [scale_f, decide_eq_false h1]
  rfl
end Go.Proofs.Ytpbhepdgamoiaaa.Pe
namespace Go.Proofs.Ytpbhepdgamoiaaa.Rg
open Go.RowKit Go Go.Proofs.YtpbhepdgamoiaaaW.PrintWords Go.Proofs.YtpbhepdgamoiaaaW.PrintLast Go.Proofs.YtpbhepdgamoiaaaW.PrintMore Go.Proofs.Ytpbhepdgamoiaaa.Ml Go.Proofs.Ytpbhepdgamoiaaa.Mn Go.Proofs.Ytpbhepdgamoiaaa.Nd Go.Proofs.Ytpbhepdgamoiaaa.Z Go.Proofs.Ytpbhepdgamoiaaa.P Go.Proofs.Ytpbhepdgamoiaaa.Nc Go.Proofs.Ytpbhepdgamoiaaa.Nb Go.Proofs.Ytpbhepdgamoiaaa.Qa Go.Proofs.Ytpbhepdgamoiaaa.Ea Go.Proofs.Ytpbhepdgamoiaaa.Ra Go.Proofs.Ytpbhepdgamoiaaa.Rf
set_option linter.unusedVariables false
set_option linter.unusedSimpArgs false
set_option maxHeartbeats 4000000 in
set_option maxRecDepth 100000 in
theorem subQ_n (gx gy gz : Nat) (p q : Rat) (n m B : Nat) (w : World) (hx0 : Room w gx 0) (hx2 : Room w gx 2) (hy : RQ w gy p n) (hz : RQ w gz q m) (hl : n + m ≤ 400) (hB : B ≤ gx) :
  Calls Try.prog 132 #[.pointer (some ⟨gx, 0, none⟩), .pointer (some ⟨gy, 0, none⟩), .pointer (some ⟨gz, 0, none⟩)] w (QS w gx (p - q) (n + m + 1) B) := by
 have HX := Aside0.mk (And.intro (And.intro hx0 hx2) (And.intro hy hz))
 have hgx := hx0.lt
 clear hx0 hx2 hy hz
 go_enter Try.func132, Try.ntmps132
 go_wp2_with fail
 have hb0 : Below w.heap.size w w.drew := below_drew' (Below.refl _ _)
 refine start_ (n := 7) (S := fun w' => True) (ds := []) (bs 7 0) (by kernel_rfl) rfl rfl trivial (fun hHeld => ?_)
 refine zP 0 8 7 1 ?_
 refine zP 1 9 7 3 ?_
 refine zP 2 10 7 7 ?_
 refine zP 3 11 7 15 ?_
 refine zN 4 (some 12) 7 31 (fun K hK => ?_)
 refine zG Try.func130 #[.pointer (some ⟨gz, 0, none⟩)] ?_
 with_reducible refine (down_n gz _ m w.drew (HX.out.2.2.den.below hb0) (den0 q)).mono ?_
 rintro e w4 ⟨rfl, rfl⟩
 refine ⟨_, rfl, ?_⟩
 refine hK.out _ _ trivial (fun hHeld => ?_)
 clear hK K
 refine zM 12 ?_
 refine zN 5 (some 13) 7 63 (fun K hK => ?_)
 refine zG Try.func129 #[.pointer (some ⟨gy, 0, none⟩), .pointer (some ⟨gz, 2, none⟩)] ?_
 with_reducible refine (prod_n gy 0 gz 2 p.num q.den n m w.drew (HX.out.2.1.num.below hb0) (HX.out.2.2.den.below hb0) (by omega)).mono ?_
 rintro e w4 ⟨g4, hg4, rfl, hb4, hN4⟩
 refine ⟨_, rfl, ?_⟩
 have hb4' := below_drew' hb4
 have H4 := Aside0.mk (And.intro hb4' hN4)
 have hg4' : w.heap.size ≤ g4 := hg4
 clear hb4 hN4 hb4' hg4
 refine hK.out _ _ trivial (fun hHeld => ?_)
 clear hK K
 refine zM 13 ?_
 refine zP 6 7 7 127 ?_
 refine done_ (by kernel_rfl) ?_
 go_wp2_with fail
 have hb1 : Below w4.heap.size w4 w4.drew := below_drew' (Below.refl _ _)
 have hbw := H4.out.1.trans (hb1.mono H4.out.1.size)
 have K4 := Aside0.mk (And.intro hbw (H4.out.2.below hb1))
 have hlt4 := H4.out.2.lt
 clear hb0 hb1 hbw
 refine start_ (n := 9) (S := fun w' => True) (ds := []) (bs 9 0) (by kernel_rfl) rfl rfl trivial (fun hHeld => ?_)
 refine zP 0 14 9 1 ?_
 refine zP 1 15 9 3 ?_
 refine zP 2 16 9 7 ?_
 refine zP 3 17 9 15 ?_
 refine zP 4 18 9 31 ?_
 refine zP 5 19 9 63 ?_
 refine zN 6 (some 20) 9 127 (fun K hK => ?_)
 refine zG Try.func130 #[.pointer (some ⟨gy, 0, none⟩)] ?_
 with_reducible refine (down_n gy _ n w4.drew (HX.out.2.1.den.below K4.out.1) (den0 p)).mono ?_
 rintro e w5 ⟨rfl, rfl⟩
 refine ⟨_, rfl, ?_⟩
 refine hK.out _ _ trivial (fun hHeld => ?_)
 clear hK K
 refine zM 20 ?_
 refine zN 7 (some 21) 9 255 (fun K hK => ?_)
 refine zG Try.func129 #[.pointer (some ⟨gz, 0, none⟩), .pointer (some ⟨gy, 2, none⟩)] ?_
 with_reducible refine (prod_n gz 0 gy 2 q.num p.den m n w4.drew (HX.out.2.2.num.below K4.out.1) (HX.out.2.1.den.below K4.out.1) (by omega)).mono ?_
 rintro e w5 ⟨g5, hg5, rfl, hb5, hN5⟩
 refine ⟨_, rfl, ?_⟩
 have H5 := Aside0.mk (And.intro (K4.out.1.trans (hb5.mono K4.out.1.size)) (And.intro (K4.out.2.below hb5) hN5))
 clear hb5 hN5
 refine hK.out _ _ trivial (fun hHeld => ?_)
 clear hK K
 refine zM 21 ?_
 refine zN 8 (some 22) 9 511 (fun K hK => ?_)
 refine zG Try.func107 #[.pointer (some ⟨g4, 0, none⟩), .pointer (some ⟨g4, 0, none⟩), .pointer (some ⟨g5, 0, none⟩)] ?_
 with_reducible refine (subI_n g4 0 g4 0 g5 0 (p.num * (q.den : Int)) (q.num * (p.den : Int)) (n + m) (m + n) w5 H5.out.2.1.room H5.out.2.1 H5.out.2.2 (by omega)).mono ?_
 rintro e w6 ⟨rfl, hw6, hN6⟩
 refine ⟨_, rfl, ?_⟩
 have H6 := Aside0.mk (And.intro (show Below w.heap.size w w6 from H5.out.1.trans (hw6.below hg4' H5.out.1.size)) (hN6.mono (m := n + m + 1) (by omega)))
 clear hw6 hN6
 refine hK.out _ _ trivial (fun hHeld => ?_)
 clear hK K
 refine zM 22 ?_
 refine done_ (by kernel_rfl) ?_
 go_wp2_with fail
 refine (down_n gy _ n w6 (HX.out.2.1.den.below H6.out.1) (den0 p)).mono ?_
 rintro e w7 ⟨rfl, rfl⟩
 go_wp2_with fail
 refine (down_n gz _ m w6 (HX.out.2.2.den.below H6.out.1) (den0 q)).mono ?_
 rintro e w7 ⟨rfl, rfl⟩
 go_wp2_with fail
 refine (prod_n gy 2 gz 2 p.den q.den n m w6 (HX.out.2.1.den.below H6.out.1) (HX.out.2.2.den.below H6.out.1) (by omega)).mono ?_
 rintro e w7 ⟨g7, hg7, rfl, hb7, hN7⟩
 have H7 := Aside0.mk (And.intro (H6.out.1.trans (hb7.mono H6.out.1.size)) (And.intro (H6.out.2.below hb7) hN7))
 clear hb7 hN7
 go_wp2_with fail
 refine (setQ_n gx g4 0 g7 0 (p.num * (q.den : Int) - q.num * (p.den : Int)) ((p.den : Int) * (q.den : Int)) (n + m + 1) B w7 (HX.out.1.1.below H7.out.1) (HX.out.1.2.below H7.out.1) H7.out.2.1 (H7.out.2.2.mono (by omega)) (Int.mul_ne_zero (den0 p) (den0 q)) (by omega) hB).mono ?_
 rintro e w8 ⟨rfl, hb8, hQ8⟩
 rw [qq_sub] at hQ8
 have H8 := Aside0.mk (And.intro hb8 hQ8)
 clear hb8 hQ8
 go_wp2_with fail
 go_ret
 exact ⟨rfl, (H7.out.1.mono (by omega)).trans H8.out.1, H8.out.2⟩
end Go.Proofs.Ytpbhepdgamoiaaa.Rg
namespace Go.Proofs.Ytpbhepdgamoiaaa.Et
open Go.RowKit Go Go.Proofs.YtpbhepdgamoiaaaW.PrintWords Go.Proofs.YtpbhepdgamoiaaaW.PrintLast Go.Proofs.YtpbhepdgamoiaaaW.PrintMore Go.Proofs.Ytpbhepdgamoiaaa.Ml Go.Proofs.Ytpbhepdgamoiaaa.Mn Go.Proofs.Ytpbhepdgamoiaaa.Nd Go.Proofs.Ytpbhepdgamoiaaa.Z Go.Proofs.Ytpbhepdgamoiaaa.Nc Go.Proofs.Ytpbhepdgamoiaaa.Nb Go.Proofs.Ytpbhepdgamoiaaa.Qa Go.Proofs.Ytpbhepdgamoiaaa.Ea Go.Proofs.Ytpbhepdgamoiaaa.Ra Go.Proofs.Ytpbhepdgamoiaaa.Rf Go.Proofs.Ytpbhepdgamoiaaa.Rg Go.Proofs.Ytpbhepdgamoiaaa.Er
set_option linter.unusedVariables false
set_option linter.unusedSimpArgs false
def timeObj (n d : Int) : Obj := .cells #[.int .i64 n, .int .i64 d] 37 (0, 0)
theorem time_cells {w : World} {g : Nat} {n d : Int} (h : w.heap[g]? = some (timeObj n d)) : w.cell? ⟨g, 0, none⟩ = some (.int .i64 n) ∧ w.cell? ⟨g, 1, none⟩ = some (.int .i64 d) ∧ w.frozen? ⟨g, 0, none⟩ = false ∧ w.frozen? ⟨g, 1, none⟩ = false :=
 ⟨(blk_cell h 0).trans rfl, (blk_cell h 1).trans rfl, blk_frozen h 0, blk_frozen h 1⟩
theorem blk_two {w : World} {g : Nat} {t : TypeId} {a b x y : Value} (h : w.heap[g]? = some (.cells #[a, b] t (0, 0))) : ((w.setCell ⟨g, 0, none⟩ x).setCell ⟨g, 1, none⟩ y).heap[g]? = some (.cells #[x, y] t (0, 0)) :=
 blk_put (cs := #[x, b]) (blk_put (cs := #[a, b]) h 0 x rfl) 1 y rfl
theorem cmp_gt {q m : Int} (h : m < q) : cmpI q m = 1 := by unfold cmpI; rw [if_neg (by omega), if_pos h]
theorem cmp_le {q m : Int} (h : ¬ m < q) : ∃ c : Int, c ≤ 0 ∧ cmpI q m = c := by
 refine ⟨_, ?_, rfl⟩
 unfold cmpI
 by_cases h2 : q < m
 ·rw [if_pos h2]; decide
 ·rw [if_neg h2, if_neg h]; decide
def tmV (q : Rat) : (Int × Int) × Int := if valid q.num q.den = true then ((q.num, (q.den : Int)), 0) else ((0, 0), 2)
def tmR (q : Rat) : Value := .tuple #[.agg #[.int .i64 (tmV q).1.1, .int .i64 (tmV q).1.2], .int .i64 (tmV q).2]
theorem tmR_eq (q : Rat) : tmR q = if valid q.num q.den = true then .tuple #[.agg #[.int .i64 q.num, .int .i64 (q.den : Int)], .int .i64 0] else .tuple #[.agg #[.int .i64 0, .int .i64 0], .int .i64 2] := by
 unfold tmR tmV
 split <;> rfl
set_option maxHeartbeats 4000000 in
set_option maxRecDepth 100000 in
theorem timeE_n (g : Nat) (q : Rat) (n : Nat) (w : World) (h : RQ w g q n) (hl : n ≤ 400) :
  Calls Try.prog 82 #[.pointer (some ⟨g, 0, none⟩)] w (ValP w (tmR q)) := by
 have hu := Try.underlying37
 have hb1 : Below w.heap.size w (w.alloc (timeObj 0 0)) := below_alloc (Below.refl _ w) _
 have hk1 := blk_new w (timeObj 0 0)
 have hD : 1 ≤ (q.den : Int) := by have := q.den_pos; omega
 have hV := tmR_eq q
 generalize tmR q = V at hV ⊢
 have hgl : g ≠ w.heap.size := by have := h.lt; omega
 generalize hw1 : w.alloc (timeObj 0 0) = w1 at *
 have H1 := Aside0.mk (And.intro hb1 (And.intro hk1 (h.below hb1)))
 have hnum := H1.out.2.2.num
 have hden := H1.out.2.2.den
 generalize hN : q.num = N at *
 generalize hDn : (q.den : Int) = D at *
 have HV := Aside0.mk hV
 have H2 := Aside0.mk (And.intro hnum hden)
 clear hV hb1 hk1 hnum hden h hN hDn
 go_enter Try.func82, Try.ntmps82
 go_wp2_with fail
 rw [show w.alloc (.cells #[.int .i64 0, .int .i64 0] 37) = w1 from hw1]
 refine (newInt_n 1152921504606846976 w1 (by decide) (by decide)).mono ?_
 rintro e w4 ⟨g4, hg4, rfl, hb4, hN4⟩
 have HB4 := Aside0.mk (And.intro (H1.out.1.trans (hb4.mono H1.out.1.size)) (blk_below H1.out.2.1 hb4))
 have H4 := Aside0.mk (And.intro (H2.out.1.below hb4) (And.intro (H2.out.2.below hb4) hN4))
 clear hb4 hN4 H1 H2 hg4
 go_wp2_with fail
 refine (num_n _ w4).mono ?_
 rintro e w5 ⟨rfl, rfl⟩
 go_wp2_with fail
 refine (cmpAbs_n g 0 g4 0 N 1152921504606846976 _ _ w4 H4.out.1 H4.out.2.2 (by omega)).mono ?_
 rintro e w5 ⟨rfl, hb5⟩
 have HB5 := Aside0.mk (And.intro (HB4.out.1.trans (hb5.mono HB4.out.1.size)) (blk_below HB4.out.2 hb5))
 have H5 := Aside0.mk (And.intro (H4.out.1.below hb5) (And.intro (H4.out.2.1.below hb5) (H4.out.2.2.below hb5)))
 obtain ⟨r0, r1, r2, r3⟩ := time_cells HB5.out.2
 clear hb5 HB4 H4
 have nab : (1152921504606846976 : Int).natAbs = 1152921504606846976 := rfl
 by_cases hbig : ((1152921504606846976 : Int).natAbs : Int) < (N.natAbs : Int)
 ·rw [cmp_gt hbig]
  have hv : ¬ valid N D = true := by unfold valid; simp; rw [nab] at hbig; omega
  have HV2 := Aside0.mk (show V = .tuple #[.agg #[.int .i64 0, .int .i64 0], .int .i64 2] by rw [HV.out, if_neg hv])
  clear hbig hv nab
  go_wp2_with fail
  refine bodyPost_ret (results_ct rfl _ _ w.heap.size 37 #[.int .i64 0, .int .i64 0] (0, 0) _ rfl (blk_two HB5.out.2) Try.underlying37 rfl (by kernel_rfl)) rfl ?_
  exact ⟨by rw [HV2.out]; rfl, (HB5.out.1.setCell (by simp) _).setCell (by simp) _⟩
 ·obtain ⟨c, hc, ec⟩ := cmp_le hbig
  rw [ec]
  have HX := Aside0.mk (show ((N.natAbs : Nat) : Int) ≤ 1152921504606846976 by rw [nab] at hbig; omega)
  clear ec hbig nab
  go_wp2_with fail
  refine (denom_n g D n w5 H5.out.2.1 (by omega)).mono ?_
  rintro e w6 ⟨rfl, rfl⟩
  go_wp2_with fail
  refine (cmp_n g 2 g4 0 D 1152921504606846976 _ _ w5 H5.out.2.1 H5.out.2.2 (by omega)).mono ?_
  rintro e w6 ⟨rfl, hb6⟩
  have HB6 := Aside0.mk (And.intro (HB5.out.1.trans (hb6.mono HB5.out.1.size)) (blk_below HB5.out.2 hb6))
  have H6 := Aside0.mk (And.intro (H5.out.1.below hb6) (H5.out.2.1.below hb6))
  obtain ⟨q0, q1, q2, q3⟩ := time_cells HB6.out.2
  clear hb6 HB5 H5 r0 r1 r2 r3
  by_cases hbig : (1152921504606846976 : Int) < D
  ·rw [cmp_gt hbig]
   have hv : ¬ valid N D = true := by unfold valid; simp; omega
   have HV2 := Aside0.mk (show V = .tuple #[.agg #[.int .i64 0, .int .i64 0], .int .i64 2] by rw [HV.out, if_neg hv])
   clear hbig hv
   go_wp2_with fail
   refine bodyPost_ret (results_ct rfl _ _ w.heap.size 37 #[.int .i64 0, .int .i64 0] (0, 0) _ rfl (blk_two HB6.out.2) Try.underlying37 rfl (by kernel_rfl)) rfl ?_
   exact ⟨by rw [HV2.out]; rfl, (HB6.out.1.setCell (by simp) _).setCell (by simp) _⟩
  ·obtain ⟨c2, hc2, ec2⟩ := cmp_le hbig
   rw [ec2]
   have hx := HX.out
   have hv : valid N D = true := by unfold valid; simp; omega
   have HV2 := Aside0.mk (show V = .tuple #[.agg #[.int .i64 N, .int .i64 D], .int .i64 0] by rw [HV.out, if_pos hv])
   clear ec2 hv
   go_wp2_with fail
   refine (num_n _ w6).mono ?_
   rintro e w7 ⟨rfl, rfl⟩
   go_wp2_with fail
   refine (int64_n g 0 N _ w6 H6.out.1 (by omega) (by omega) (by omega)).mono ?_
   rintro e w7 ⟨rfl, hb7⟩
   have HB7 := Aside0.mk (And.intro (HB6.out.1.trans (hb7.mono HB6.out.1.size)) (blk_below HB6.out.2 hb7))
   have H7 := Aside0.mk (H6.out.2.below hb7)
   clear hb7 HB6 H6 q0 q1 q2 q3
   go_wp2_with fail
   refine (denom_n g D n w7 H7.out (by omega)).mono ?_
   rintro e w8 ⟨rfl, rfl⟩
   go_wp2_with fail
   refine (int64_n g 2 D _ w7 H7.out (by omega) (by omega) (by omega)).mono ?_
   rintro e w8 ⟨rfl, hb8⟩
   have HB8 := Aside0.mk (And.intro (HB7.out.1.trans (hb8.mono HB7.out.1.size)) (blk_below HB7.out.2 hb8))
   obtain ⟨q0, q1, q2, q3⟩ := time_cells HB8.out.2
   clear hb8 HB7 H7
   go_wp2_with fail
   refine bodyPost_ret (results_ct rfl _ _ w.heap.size 37 #[.int .i64 N, .int .i64 D] (0, 0) _ rfl (blk_two HB8.out.2) Try.underlying37 rfl (by kernel_rfl)) rfl ?_
   exact ⟨by rw [HV2.out]; rfl, (HB8.out.1.setCell (by simp) _).setCell (by simp) _⟩
set_option maxHeartbeats 2000000 in
theorem subE_n (gy gz : Nat) (p q : Rat) (n m : Nat) (w : World) (hy : RQ w gy p n) (hz : RQ w gz q m) (hl : n + m ≤ 400) :
  Calls Try.prog 84 #[.pointer (some ⟨gy, 0, none⟩), .pointer (some ⟨gz, 0, none⟩)] w (QP w (p - q) (n + m + 1)) := by
 have hb1 : Below w.heap.size w (w.alloc (.cells #[.bool false, .slice none 0 0, .bool false, .slice none 0 0] 138)) := below_alloc (Below.refl _ w) _
 have HC := Aside0.mk (subQ_n w.heap.size gy gz p q n m w.heap.size _ (room_rat0 w) (room_rat2 w) (hy.below hb1) (hz.below hb1) hl (Nat.le_refl _))
 have HB := Aside0.mk hb1
 clear hb1 hy hz
 go_enter Try.func84, Try.ntmps84
 go_wp2_with fail
 refine HC.out.mono ?_
 rintro e w2 ⟨rfl, hb2, hN⟩
 have H := Aside0.mk (And.intro hb2 hN)
 clear hb2 hN
 go_wp2_with fail
 go_ret
 exact ⟨_, Nat.le_refl _, rfl, HB.out.trans H.out.1, H.out.2⟩
set_option maxHeartbeats 2000000 in
theorem numberE_n (a b : Int) (w : World) (ha : I64 a) (hb : I64 b) (hz : b ≠ 0) :
  Calls Try.prog 80 #[.agg #[.int .i64 a, .int .i64 b]] w (QP w (qq a b) 2) := by
 have hu := Try.underlying37
 have hb1 : Below w.heap.size w (w.alloc (timeObj a b)) := below_alloc (Below.refl _ w) _
 have hk1 := blk_new w (timeObj a b)
 have HC := Aside0.mk (fun W => ratioE_n a b W ha hb hz)
 obtain ⟨c0, c1, c2, c3⟩ := time_cells hk1
 generalize hw1 : w.alloc (timeObj a b) = w1 at *
 have HB := Aside0.mk (And.intro hb1 (show w.heap.size ≤ w1.heap.size from hb1.size))
 clear hz ha hb hb1 hk1
 go_enter Try.func80, Try.ntmps80
 go_wp2_with fail
 rw [show w.alloc (.cells #[.int .i64 a, .int .i64 b] 37) = w1 from hw1]
 go_wp2_with fail
 refine (HC.out w1).mono ?_
 rintro e w2 ⟨g, hg, rfl, hb2, hN⟩
 have H := Aside0.mk (And.intro hg (And.intro hb2 hN))
 clear hg hb2 hN
 go_wp2_with fail
 go_ret
 exact ⟨g, Nat.le_trans HB.out.2 H.out.1, rfl, HB.out.1.trans (H.out.2.1.mono HB.out.2), H.out.2.2⟩
end Go.Proofs.Ytpbhepdgamoiaaa.Et
namespace Go.Proofs.Ytpbhepdgamoiaaa.E
open Go.RowKit Go Go.Proofs.YtpbhepdgamoiaaaW.PrintWords Go.Proofs.YtpbhepdgamoiaaaW.PrintLast Go.Proofs.YtpbhepdgamoiaaaW.PrintMore Go.Proofs.Ytpbhepdgamoiaaa.Ml Go.Proofs.Ytpbhepdgamoiaaa.Mn Go.Proofs.Ytpbhepdgamoiaaa.Nd Go.Proofs.Ytpbhepdgamoiaaa.Z Go.Proofs.Ytpbhepdgamoiaaa.Nc Go.Proofs.Ytpbhepdgamoiaaa.Nb Go.Proofs.Ytpbhepdgamoiaaa.Qa Go.Proofs.Ytpbhepdgamoiaaa.Ea Go.Proofs.Ytpbhepdgamoiaaa.Ra Go.Proofs.Ytpbhepdgamoiaaa.Rf Go.Proofs.Ytpbhepdgamoiaaa.Er Go.Proofs.Ytpbhepdgamoiaaa.Ek Go.Proofs.Ytpbhepdgamoiaaa.Et Go.Proofs.Ytpbhepdgamoiaaa.Pe
set_option linter.unusedVariables false
set_option linter.unusedSimpArgs false
theorem check_n (A : Option Addr) (c : Nat) (l : List Ed) (ms ts : Int) (w : World) (hr : Kd.C k77 w A l.length l) (hc : l.length ≤ c) :
  Calls Try.prog 24 #[.slice A l.length c, .int .i64 ms, .int .i64 ts] w (ValP w (.int .i64 (chk l ms ts))) := by
 obtain ⟨k, hk⟩ := (check_f l ms ts).rounds
 exact edit_Check.calls k A c l ms ts _ w hr hc hk
set_option maxHeartbeats 2000000 in
set_option maxRecDepth 100000 in
theorem Valid_n (n d : Int) (w : World) : Calls Try.prog 79 #[.agg #[.int .i64 n, .int .i64 d]] w (ValP w (.bool (valid n d))) := by
 have hu := Try.underlying37
 go_enter Try.func79, Try.ntmps79
 go_wp2
 all_goals
  go_ret
  refine ⟨ret_b ?_, below_alloc (Below.refl _ _) _⟩
  unfold valid
  first | (simp_all; done) | (simp_all; omega) | grind
def medL (ms ts : Int) (q : Rat) : Int → List Ed → (Int × Int) × Bool × Int
 | _, [] => ((0, 1), false, 0)
 | b, x :: t =>
  if q < qq b ms then medL ms ts q (b + x.f0) t
  else if q < qq (b + x.f0) ms then
   (if x.f1 < 0 then ((0, 1), false, 0)
       else ((tmV (qq x.f1 ts + (q - qq b ms) * qq x.f2 x.f3)).1, (tmV (qq x.f1 ts + (q - qq b ms) * qq x.f2 x.f3)).2 == 0, (tmV (qq x.f1 ts + (q - qq b ms) * qq x.f2 x.f3)).2))
  else medL ms ts q (b + x.f0) t
def medV (l : List Ed) (ms ts n d : Int) : (Int × Int) × Bool × Int :=
 if chk l ms ts = 0 then (if valid n d = true then medL ms ts (qq n d) 0 l else ((0, 0), false, 4)) else ((0, 0), false, chk l ms ts)
def edit_Media.f (l0 : List Ed) (a1 : Int) (a2 : Int) (a3_0 : Int) (a3_1 : Int) : Option (Int × Int × Bool × Int) := some ((medV l0 a1 a2 a3_0 a3_1).1.1, (medV l0 a1 a2 a3_0 a3_1).1.2, (medV l0 a1 a2 a3_0 a3_1).2.1, (medV l0 a1 a2 a3_0 a3_1).2.2)
def medR (r : (Int × Int) × Bool × Int) : Value := .tuple #[.agg #[.int .i64 r.1.1, .int .i64 r.1.2], .bool r.2.1, .int .i64 r.2.2]
structure Mx (w W : World) (n d : Int) : Prop where
 a : W.heap[w.heap.size]? = some (timeObj n d)
 r : W.heap[w.heap.size + 1]? = some (timeObj 0 0)
 z : W.heap[w.heap.size + 1 + 1]? = some (timeObj 0 1)
 below : Below w.heap.size w W
theorem Mx.start (w : World) (n d : Int) : Mx w (((w.alloc (timeObj n d)).alloc (timeObj 0 0)).alloc (timeObj 0 1)) n d := by
 have e1 : (w.alloc (timeObj n d)).heap.size = w.heap.size + 1 := by simp
 have e2 : ((w.alloc (timeObj n d)).alloc (timeObj 0 0)).heap.size = w.heap.size + 1 + 1 := by simp
 have k3 := blk_new ((w.alloc (timeObj n d)).alloc (timeObj 0 0)) (timeObj 0 1)
 have k2 := blk_new (w.alloc (timeObj n d)) (timeObj 0 0)
 rw [e2] at k3
 rw [e1] at k2
 exact ⟨blk_alloc (blk_alloc (blk_new w _) _) _, blk_alloc k2 _, k3, below_alloc (below_alloc (below_alloc (Below.refl _ w) _) _) _⟩
theorem Mx.step {w W W2 : World} {n d : Int} (h : Mx w W n d) (hb : Below W.heap.size W W2) : Mx w W2 n d :=
 ⟨blk_below h.a hb, blk_below h.r hb, blk_below h.z hb, h.below.trans (hb.mono h.below.size)⟩
structure At (l : List Ed) (i b : Int) (X : Ed) : Prop where
 vd : Vd X
 drop : l.drop i.toNat = X :: l.drop (i + 1).toNat
 sum : b + X.f0 = sumD (l.take (i + 1).toNat)
 b0 : 0 ≤ b
 b1 : b + X.f0 ≤ 1099511627776
theorem At.of {l : List Ed} {i b : Int} (h0 : 0 ≤ i) (h1 : i < (l.length : Int)) (hb : b = sumD (l.take i.toNat)) (hV : ∀ x ∈ l, Vd x) (hs : sumD l ≤ 1099511627776) : At l i b (rd_T77 l i) := by
 have hn : i.toNat < l.length := by omega
 have hE : rd_T77 l i = l.getD i.toNat z77 := rfl
 have hi : (i + 1).toNat = i.toNat + 1 := by omega
 have hmem : l.getD i.toNat z77 ∈ l := by
  rw [List.getD_eq_getElem?_getD, List.getElem?_eq_getElem hn]
  exact List.getElem_mem hn
 have hg : l.getD i.toNat z77 = l[i.toNat] := by
  rw [List.getD_eq_getElem?_getD, List.getElem?_eq_getElem hn]
  rfl
 have hst := sumD_take l i.toNat hn
 have hd : sumD l = sumD (l.take (i.toNat + 1)) + sumD (l.drop (i.toNat + 1)) := by rw [← sumD_app, List.take_append_drop]
 have h2 := sumD_nonneg (l := l.drop (i.toNat + 1)) (fun x hx => hV x (List.mem_of_mem_drop hx))
 have h3 := sumD_nonneg (l := l.take i.toNat) (fun x hx => hV x (List.mem_of_mem_take hx))
 rw [hE]
 refine ⟨hV _ hmem, ?_, ?_, by omega, by omega⟩
 ·rw [hi, hg]
  exact List.drop_eq_getElem_cons hn
 ·rw [hi, hst, hb]
structure Rx (w W : World) (n d : Int) (q : Rat) (g G : Nat) (X : Ed) : Prop where
 m : Mx w W n d
 q : RQ W g q 2
 e : W.heap[G]? = some (edO X.f0 X.f1 X.f2 X.f3)
theorem Rx.step {w W W2 : World} {n d : Int} {q : Rat} {g G : Nat} {X : Ed} (h : Rx w W n d q g G X) (hb : Below W.heap.size W W2) : Rx w W2 n d q g G X := ⟨h.m.step hb, h.q.below hb, blk_below h.e hb⟩
theorem Rx.cells {w W : World} {n d : Int} {q : Rat} {g G : Nat} {X : Ed} (h : Rx w W n d q g G X) : W.cell? ⟨G, 0, none⟩ = some (.int .i64 X.f0) ∧ W.cell? ⟨G, 1, none⟩ = some (.int .i64 X.f1) ∧ W.cell? ⟨G, 2, none⟩ = some (.int .i64 X.f2) ∧ W.cell? ⟨G, 3, none⟩ = some (.int .i64 X.f3) := ed_cells h.e
theorem Rx.start {w W : World} {n d : Int} {q : Rat} {g : Nat} (X : Ed) (h : Mx w W n d) (hq : RQ W g q 2) : Rx w (W.alloc (edO X.f0 X.f1 X.f2 X.f3)) n d q g W.heap.size X :=
 ⟨h.step (below_alloc (Below.refl _ W) _), hq.below (below_alloc (Below.refl _ W) _), blk_new W _⟩
theorem cmpQ_lt {p q : Rat} (h : p < q) : cmpQ p q = -1 := if_pos h
theorem cmpQ_ge {p q : Rat} (h : ¬ p < q) : ∃ c : Int, 0 ≤ c ∧ cmpQ p q = c := ⟨_, by unfold cmpQ; rw [if_neg h]; split <;> decide, rfl⟩
set_option maxHeartbeats 16000000 in
set_option maxRecDepth 100000 in
theorem edit_Media.calls (A0 : Option Addr) (c0 : Nat) (l0 : List Ed) (a1 : Int) (a2 : Int) (a3_0 : Int) (a3_1 : Int) (r1 : Int) (r2 : Int) (r3 : Bool) (r4 : Int) (w : World) (hr0 : Kd.C k77 w A0 l0.length l0) (hc0 : l0.length ≤ c0) (h : edit_Media.f l0 a1 a2 a3_0 a3_1 = some (r1, r2, r3, r4)) :
  Calls Try.prog 32 #[.slice A0 l0.length c0, .int .i64 a1, .int .i64 a2, .agg #[.int .i64 a3_0, .int .i64 a3_1]] w fun e w' => e = .returned (.tuple #[.agg #[.int .i64 r1, .int .i64 r2], .bool r3, .int .i64 r4]) ∧ Below w.heap.size w w' := by
 have hu := Try.underlying77
 have hu2 := Try.underlying37
 have hV : medR (medV l0 a1 a2 a3_0 a3_1) = .tuple #[.agg #[.int .i64 r1, .int .i64 r2], .bool r3, .int .i64 r4] := by
  unfold edit_Media.f at h
  simp only [Option.some.injEq, Prod.mk.injEq] at h
  unfold medR
  rw [h.1, h.2.1, h.2.2.1, h.2.2.2]
 rw [← hV]
 clear h hV
 have HR := Aside0.mk (And.intro hr0 hc0)
 have HC := Aside0.mk (fun W (hb : Below w.heap.size w W) => check_n A0 c0 l0 a1 a2 W (Kd.C_below hr0 hb) hc0)
 have HV := Aside0.mk (show medR (medV l0 a1 a2 a3_0 a3_1) = if chk l0 a1 a2 = 0 then (if valid a3_0 a3_1 = true then medR (medL a1 a2 (qq a3_0 a3_1) 0 l0) else .tuple #[.agg #[.int .i64 0, .int .i64 0], .bool false, .int .i64 4]) else .tuple #[.agg #[.int .i64 0, .int .i64 0], .bool false, .int .i64 (chk l0 a1 a2)] from by unfold medV; split; split <;> rfl; rfl)
 have HO := Aside0.mk (fun h0 : chk l0 a1 a2 = 0 => chk_ok.1 h0)
 generalize medR (medV l0 a1 a2 a3_0 a3_1) = V at *
 generalize chk l0 a1 a2 = C at *
 clear hr0 hc0
 have hM := Aside0.mk (Mx.start w a3_0 a3_1)
 go_enter Try.func32, Try.ntmps32
 go_wp2_with fail
 generalize hW : World.alloc (World.alloc (World.alloc _ _) _) _ = W
 have HM := Aside0.mk (show Mx w W a3_0 a3_1 by rw [← hW]; exact hM.out)
 clear hW hM
 refine (HC.out W HM.out.below).mono ?_
 rintro e w2 ⟨rfl, hb2⟩
 have HM2 := Aside0.mk (HM.out.step hb2)
 clear hb2 HM HC
 by_cases hc : C = 0
 case neg =>
  have HV2 := Aside0.mk (show V = .tuple #[.agg #[.int .i64 0, .int .i64 0], .bool false, .int .i64 C] by rw [HV.out, if_neg hc])
  obtain ⟨p0, p1, f0, f1⟩ := time_cells HM2.out.r
  clear HV HO
  go_wp2_with fail
  refine bodyPost_ret (results_ctt rfl _ _ (w.heap.size + 1) 37 #[.int .i64 0, .int .i64 0] (0, 0) _ rfl (blk_two HM2.out.r) Try.underlying37 rfl (by kernel_rfl)) rfl ?_
  exact ⟨by rw [HV2.out]; rfl, (HM2.out.below.setCell (by simp) _).setCell (by simp) _⟩
 subst hc
 have HV2 := Aside0.mk (show V = if valid a3_0 a3_1 = true then medR (medL a1 a2 (qq a3_0 a3_1) 0 l0) else .tuple #[.agg #[.int .i64 0, .int .i64 0], .bool false, .int .i64 4] by rw [HV.out, if_pos rfl])
 have HC := Aside0.mk (HO.out rfl)
 clear HV HO
 obtain ⟨p0, p1, f0, f1⟩ := time_cells HM2.out.a
 go_wp2_with fail
 refine (Valid_n a3_0 a3_1 w2).mono ?_
 rintro e w3 ⟨rfl, hb3⟩
 have HM3 := Aside0.mk (HM2.out.step hb3)
 clear hb3 HM2 p0 p1 f0 f1
 cases hv : valid a3_0 a3_1 with
 | false =>
  have HV3 := Aside0.mk (show V = .tuple #[.agg #[.int .i64 0, .int .i64 0], .bool false, .int .i64 4] by rw [HV2.out, hv, if_neg (by decide)])
  obtain ⟨p0, p1, f0, f1⟩ := time_cells HM3.out.r
  clear HV2 hv
  go_wp2_with fail
  refine bodyPost_ret (results_ctt rfl _ _ (w.heap.size + 1) 37 #[.int .i64 0, .int .i64 0] (0, 0) _ rfl (blk_two HM3.out.r) Try.underlying37 rfl (by kernel_rfl)) rfl ?_
  exact ⟨by rw [HV3.out]; rfl, (HM3.out.below.setCell (by simp) _).setCell (by simp) _⟩
 | true =>
  have HV3 := Aside0.mk (show V = medR (medL a1 a2 (qq a3_0 a3_1) 0 l0) by rw [HV2.out, hv, if_pos rfl])
  have HX := Aside0.mk (show (-1152921504606846976 ≤ a3_0 ∧ a3_0 ≤ 1152921504606846976) ∧ 1 ≤ a3_1 ∧ a3_1 ≤ 1152921504606846976 by unfold valid at hv; simp only [Bool.and_eq_true, decide_eq_true_eq] at hv; omega)
  obtain ⟨p0, p1, f0, f1⟩ := time_cells HM3.out.a
  clear HV2 hv
  go_wp2_with fail
  refine (numberE_n a3_0 a3_1 w3 ⟨by have := HX.out; omega, by have := HX.out; omega⟩ ⟨by have := HX.out; omega, by have := HX.out; omega⟩ (by have := HX.out; omega)).mono ?_
  rintro e w4 ⟨g, hg, rfl, hb4, hq4⟩
  have HM4 := Aside0.mk (And.intro (HM3.out.step hb4) hq4)
  clear hb4 hq4 hg HM3 p0 p1 f0 f1 HX
  generalize qq a3_0 a3_1 = q at *
  go_wp2_with fail
  go_loopg [14, 38] l0.length (fun kq v14 v38 w' => ∃ b i : Int, v14 = .int .i64 b ∧ v38 = .int .i64 i ∧ Aside0 (0 ≤ i ∧ i + kq = l0.length ∧ b = sumD (l0.take i.toNat)) ∧ Aside0 (V = medR (medL a1 a2 q b (l0.drop i.toNat))) ∧ Aside0 (Mx w w' a3_0 a3_1 ∧ RQ w' g q 2))
  case atStart => exact ⟨0, 0, rfl, rfl, ⟨by simp, by simp, by simp [sumD]⟩, ⟨by rw [HV3.out]; simp⟩, ⟨HM4.out⟩⟩
  case round =>
   clear HV3 HM4
   obtain ⟨b, i, rfl, rfl, hi, hL, hM⟩ := hrel
   by_cases hlt : i < (l0.length : Int)
   ·have hlb : decide (i < (l0.length : Int)) = true := decide_eq_true hlt
    have p0 := hi.out.1
    have HA := Aside0.mk (At.of p0 hlt hi.out.2.2 HC.out.2.2.1 HC.out.2.2.2)
    obtain ⟨ad, hA, q0, q1, q2, q3⟩ := at_T77 (Kd.C_below HR.out.1 hM.out.1.below) i p0 hlt
    subst hA
    obtain ⟨k1, rfl⟩ : ∃ k, gk = k + 1 := ⟨gk - 1, by have := hi.out.2; omega⟩
    generalize rd_T77 l0 i = X at *
    have hwi : wrap64 (i + 1) = i + 1 := by
     have := HC.out.2.1
     exact w64 (by omega) (by omega)
    have hwb : wrap64 (b + X.f0) = b + X.f0 := w64 (by have := HA.out.b0; have := HA.out.vd.d0; omega) (by have := HA.out.b1; omega)
    have HW := Aside0.mk (And.intro (And.intro hwi hwb) (show 0 ≤ i + 1 ∧ i + 1 + (k1 : Int) = l0.length by have := hi.out.2.1; omega))
    have HL := Aside0.mk (show V = medR (medL a1 a2 q b (X :: l0.drop (i + 1).toNat)) by rw [hL.out, HA.out.drop])
    replace p0 := eq_true p0
    replace hlt := eq_true hlt
    clear hwi hwb hi hL
    have HI := Aside0.mk (show (I64 b ∧ I64 (wrap64 (b + X.f0))) ∧ (I64 a1 ∧ a1 ≠ 0) ∧ (I64 a2 ∧ a2 ≠ 0) by
     have := HA.out.b0
     have := HA.out.b1
     have := HA.out.vd.d0
     have := HC.out.1.m0
     have := HC.out.1.m1
     have := HC.out.1.t0
     have := HC.out.1.t1
     rw [HW.out.1.2]
     exact ⟨⟨⟨by omega, by omega⟩, ⟨by omega, by omega⟩⟩, ⟨⟨by omega, by omega⟩, by omega⟩, ⟨⟨by omega, by omega⟩, by omega⟩⟩)
    have hX := Aside0.mk (Rx.start X hM.out.1 hM.out.2)
    go_wp2_with fail
    generalize hW1 : World.alloc wr _ = W1
    have HX := Aside0.mk (show Rx w W1 a3_0 a3_1 q g wr.heap.size X by rw [← hW1]; exact hX.out)
    clear hW1 hX hM q0 q1 q2 q3
    have hb0 : Below W1.heap.size W1 W1.drew := below_drew' (Below.refl _ _)
    refine start_ (n := 11) (S := fun w' => w'.cell? ⟨wr.heap.size, 0, none⟩ = some (.int .i64 X.f0)) (ds := []) (bs 11 0) (by kernel_rfl) rfl rfl (HX.out.step hb0).cells.1 (fun hHeld => ?_)
    refine zP 0 42 11 1 ?_
    refine zP 1 43 11 3 ?_
    refine zP 3 45 11 11 ?_
    refine zP 4 46 11 27 ?_
    refine zP 7 49 11 155 ?_
    refine zT 5 47 11 187 hHeld ?_
    refine zP 6 48 11 251 ?_
    refine zN 2 (some 44) 11 255 (fun K hK => ?_)
    refine zG Try.func78 #[.int .i64 b, .int .i64 a1] ?_
    with_reducible refine (ratioE_n b a1 W1.drew HI.out.1.1 HI.out.2.1.1 HI.out.2.1.2).mono ?_
    rintro e w5 ⟨g5, hg5, rfl, hb5, hN5⟩
    refine ⟨_, rfl, ?_⟩
    have hb5' := below_drew' hb5
    have H5 := Aside0.mk (And.intro hN5 (HX.out.step hb5'))
    clear hb5 hb5' hN5 hg5
    refine hK.out _ _ H5.out.2.cells.1 (fun hHeld => ?_)
    clear hK K
    refine zM 44 ?_
    refine zN 8 (some 50) 11 511 (fun K hK => ?_)
    refine zG Try.func78 #[.int .i64 (wrap64 (b + X.f0)), .int .i64 a1] ?_
    with_reducible refine (ratioE_n (wrap64 (b + X.f0)) a1 w5 HI.out.1.2 HI.out.2.1.1 HI.out.2.1.2).mono ?_
    rintro e w6 ⟨g6, hg6, rfl, hb6, hN6⟩
    refine ⟨_, rfl, ?_⟩
    have H6 := Aside0.mk (And.intro (H5.out.1.below hb6) (And.intro hN6 (H5.out.2.step hb6)))
    clear hb6 hN6 hg6
    refine hK.out _ _ H6.out.2.2.cells.1 (fun hHeld => ?_)
    clear hK K
    refine zM 50 ?_
    refine zP 9 17 11 1023 ?_
    refine zP 10 18 11 2047 ?_
    refine done_ (by kernel_rfl) ?_
    clear hHeld hb0 HX H5
    obtain ⟨c0, c1, c2, c3⟩ := H6.out.2.2.cells
    go_wp2_with fail
    refine (cmpQ_n g g5 q (qq b a1) 2 2 w6 H6.out.2.2.q H6.out.1 (by decide)).mono ?_
    rintro e w7 ⟨rfl, hb7⟩
    have H7 := Aside0.mk (And.intro (H6.out.1.below hb7) (And.intro (H6.out.2.1.below hb7) (H6.out.2.2.step hb7)))
    clear hb7 H6 c0 c1 c2 c3
    by_cases hq1 : q < qq b a1
    ·rw [cmpQ_lt hq1]
     have HL2 := Aside0.mk (show V = medR (medL a1 a2 q (b + X.f0) (l0.drop (i + 1).toNat)) by rw [HL.out]; simp only [medL]; rw [if_pos hq1])
     clear hq1 HL
     go_wp2_with fail
     go_roundg k1
     case measure => omega
     case rel => exact ⟨b + X.f0, i + 1, by rw [HW.out.1.2], by rw [HW.out.1.1], ⟨HW.out.2.1, HW.out.2.2, HA.out.sum⟩, ⟨HL2.out⟩, ⟨H7.out.2.2.m, H7.out.2.2.q⟩⟩
    ·obtain ⟨c, hc, ec⟩ := cmpQ_ge hq1
     rw [ec]
     clear ec
     go_wp2_with fail
     refine (cmpQ_n g g6 q (qq (wrap64 (b + X.f0)) a1) 2 2 w7 H7.out.2.2.q H7.out.2.1 (by decide)).mono ?_
     rintro e w8 ⟨rfl, hb8⟩
     have H8 := Aside0.mk (And.intro (H7.out.1.below hb8) (H7.out.2.2.step hb8))
     clear hb8 H7
     by_cases hq2 : q < qq (b + X.f0) a1
     ·rw [show cmpQ q (qq (wrap64 (b + X.f0)) a1) = -1 from cmpQ_lt (by rw [HW.out.1.2]; exact hq2)]
      obtain ⟨c0, c1, c2, c3⟩ := H8.out.2.cells
      by_cases hm : X.f1 < 0
      ·have HV4 := Aside0.mk (show V = .tuple #[.agg #[.int .i64 0, .int .i64 1], .bool false, .int .i64 0] by rw [HL.out]; simp only [medL]; rw [if_neg hq1, if_pos hq2, if_pos hm]; rfl)
       obtain ⟨p0, p1, f0, f1⟩ := time_cells H8.out.2.m.z
       obtain ⟨s0, s1, s2, s3⟩ := time_cells H8.out.2.m.r
       clear HL hq1 hq2 HA HW
       go_wp2_with fail
       refine bodyPost_ret (results_ctt rfl _ _ (w.heap.size + 1) 37 #[.int .i64 0, .int .i64 1] (0, 0) _ rfl (blk_two H8.out.2.m.r) Try.underlying37 rfl (by kernel_rfl)) rfl ?_
       exact ⟨by rw [HV4.out]; rfl, (H8.out.2.m.below.setCell (by simp) _).setCell (by simp) _⟩
      ·have hmb : decide (X.f1 < 0) = false := decide_eq_false hm
       have hT : ∀ W gd, RQ W gd (qq X.f1 a2 + (q - qq b a1) * qq X.f2 X.f3) 10 → Calls Try.prog 82 #[.pointer (some ⟨gd, 0, none⟩)] W (fun e w' => ∃ u : Nat, e = .returned (.tuple #[.agg #[.int .i64 (tmV (qq X.f1 a2 + (q - qq b a1) * qq X.f2 X.f3)).1.1, .int .i64 (tmV (qq X.f1 a2 + (q - qq b a1) * qq X.f2 X.f3)).1.2], .int .i64 (tmV (qq X.f1 a2 + (q - qq b a1) * qq X.f2 X.f3)).2]) ∧ Below W.heap.size W w') := by
        intro W gd h
        refine (timeE_n gd _ 10 W h (by decide)).mono ?_
        rintro e w' ⟨rfl, hb⟩
        exact ⟨0, rfl, hb⟩
       have hV : V = .tuple #[.agg #[.int .i64 (tmV (qq X.f1 a2 + (q - qq b a1) * qq X.f2 X.f3)).1.1, .int .i64 (tmV (qq X.f1 a2 + (q - qq b a1) * qq X.f2 X.f3)).1.2], .bool ((tmV (qq X.f1 a2 + (q - qq b a1) * qq X.f2 X.f3)).2 == 0), .int .i64 (tmV (qq X.f1 a2 + (q - qq b a1) * qq X.f2 X.f3)).2] := by
        rw [HL.out]
        simp only [medL]
        rw [if_neg hq1, if_pos hq2, if_neg hm]
        rfl
       generalize hT1 : (tmV (qq X.f1 a2 + (q - qq b a1) * qq X.f2 X.f3)).1.1 = T1 at *
       generalize hT2 : (tmV (qq X.f1 a2 + (q - qq b a1) * qq X.f2 X.f3)).1.2 = T2 at *
       generalize hT3 : (tmV (qq X.f1 a2 + (q - qq b a1) * qq X.f2 X.f3)).2 = T3 at *
       have HT := Aside0.mk hT
       have HV4 := Aside0.mk hV
       have HJ := Aside0.mk (show I64 X.f1 ∧ I64 X.f2 ∧ (I64 X.f3 ∧ X.f3 ≠ 0) by
        have := HA.out.vd.m0
        have := HA.out.vd.m1
        have := HA.out.vd.n0
        have := HA.out.vd.n1
        have := HA.out.vd.e0
        have := HA.out.vd.e1
        exact ⟨⟨by omega, by omega⟩, ⟨by omega, by omega⟩, ⟨by omega, by omega⟩, by omega⟩)
       clear hT hV hT1 hT2 hT3 HL hq1 hq2 HA HW hm
       go_wp2_with fail
       refine start_ (n := 21) (S := fun w' => w'.cell? ⟨wr.heap.size, 1, none⟩ = some (.int .i64 X.f1) ∧ w'.cell? ⟨wr.heap.size, 2, none⟩ = some (.int .i64 X.f2) ∧ w'.cell? ⟨wr.heap.size, 3, none⟩ = some (.int .i64 X.f3)) (ds := [19]) (bs 21 0) (by kernel_rfl) rfl rfl ⟨c1, c2, c3⟩ (fun hHeld => ?_)
       refine zP 0 70 21 1 ?_
       refine zP 2 72 21 5 ?_
       refine zP 4 74 21 21 ?_
       refine zP 5 75 21 53 ?_
       refine zP 7 77 21 181 ?_
       refine zP 9 79 21 693 ?_
       refine zT 1 71 21 695 hHeld ?_
       refine zT 8 78 21 951 hHeld ?_
       refine zT 10 80 21 1975 hHeld ?_
       refine join_ (σ := Nat × Nat × Nat × Nat × Nat × Nat × Nat) 2 (bs 21 524287) (fun ⟨ga, gs, gr, gm, gd, u14, g18⟩ => [(73, .pointer (some ⟨ga, 0, none⟩)), (76, .pointer (some ⟨gs, 0, none⟩)), (81, .pointer (some ⟨gr, 0, none⟩)), (82, .pointer (some ⟨gm, 0, none⟩)), (83, .pointer (some ⟨gd, 0, none⟩)), (84, .tuple #[.agg #[.int .i64 T1, .int .i64 T2], .int .i64 T3]), (69, .tuple #[.agg #[.int .i64 T1, .int .i64 T2], .int .i64 T3]), (85, .agg #[.int .i64 T1, .int .i64 T2]), (86, .int .i64 T3), (19, .pointer (some ⟨g18, 0, none⟩))]) (fun ⟨ga, gs, gr, gm, gd, u14, g18⟩ w' => Below w8.heap.size w8 w' ∧ (RQ w' ga (qq X.f1 a2) 2) ∧ (RQ w' gs (q - qq b a1) 5) ∧ (RQ w' gr (qq X.f2 X.f3) 2) ∧ (RQ w' gm ((q - qq b a1) * qq X.f2 X.f3) 7) ∧ (RQ w' gd (qq X.f1 a2 + (q - qq b a1) * qq X.f2 X.f3) 10) ∧ (True) ∧ (w8.heap.size ≤ g18 ∧ w'.heap[g18]? = some (.cells #[.int .i64 0, .int .i64 0] 37))) ?_ (fun hq_3_6_11_12_13_14_15_16_17_18 => ?_)
       rotate_left
       ·
        refine join_ (σ := Nat × Nat × Nat × Nat × Nat × Nat × Nat) 3 (bs 21 262143) (fun ⟨ga, gs, gr, gm, gd, u14, _⟩ => [(73, .pointer (some ⟨ga, 0, none⟩)), (76, .pointer (some ⟨gs, 0, none⟩)), (81, .pointer (some ⟨gr, 0, none⟩)), (82, .pointer (some ⟨gm, 0, none⟩)), (83, .pointer (some ⟨gd, 0, none⟩)), (84, .tuple #[.agg #[.int .i64 T1, .int .i64 T2], .int .i64 T3]), (69, .tuple #[.agg #[.int .i64 T1, .int .i64 T2], .int .i64 T3]), (85, .agg #[.int .i64 T1, .int .i64 T2]), (86, .int .i64 T3)]) (fun ⟨ga, gs, gr, gm, gd, u14, _⟩ w' => Below w8.heap.size w8 w' ∧ (RQ w' ga (qq X.f1 a2) 2) ∧ (RQ w' gs (q - qq b a1) 5) ∧ (RQ w' gr (qq X.f2 X.f3) 2) ∧ (RQ w' gm ((q - qq b a1) * qq X.f2 X.f3) 7) ∧ (RQ w' gd (qq X.f1 a2 + (q - qq b a1) * qq X.f2 X.f3) 10) ∧ (True)) ?_ (fun hq_3_6_11_12_13_14_15_16_17 => ?_)
        ·rintro ⟨ga, gs, gr, gm, gd, u14, g18⟩ w' ⟨hB, f3, f6, f11, f12, f13, f14⟩
         refine norm_ (a' := ?_) ?_ ?_; rotate_left; (· simp only [putAll, Act.put, List.setIfInBounds_toArray, List.set_cons_zero, List.set_cons_succ, i64_w, i32_w]; rfl)
         refine one_ (i := 18) (N := some 19) (bs 21 524287) rfl rfl (by kernel_rfl) (by decide) (fun K hK => ?_)
         ·
          refine value_ (v := .pointer (some ⟨w'.heap.size, 0, none⟩)) (w1 := w'.alloc (.cells #[.int .i64 0, .int .i64 0] 37)) (by rfl) rfl ?_ ?_
          ·go_simp
          have hb9 : Below w'.heap.size w' (w'.alloc (.cells #[.int .i64 0, .int .i64 0] 37)) := below_alloc (Below.refl _ _) _
          have n18 := blk_new w' (.cells #[.int .i64 0, .int .i64 0] 37)
          have hB9 := hB.trans (hb9.mono hB.size)
          refine hK.out _ _ ⟨pw_cell_below hB9 c1, pw_cell_below hB9 c2, pw_cell_below hB9 c3⟩ (fun hHeld => ?_)
          clear hK K
          refine norm_ ?_ (hq_3_6_11_12_13_14_15_16_17_18 ⟨ga, gs, gr, gm, gd, u14, w'.heap.size⟩ _ ⟨hB9, f3.below hb9, f6.below hb9, f11.below hb9, f12.below hb9, f13.below hb9, trivial, ⟨hB.size, n18⟩⟩); (· simp only [putAll, Act.put, List.setIfInBounds_toArray, List.set_cons_zero, List.set_cons_succ, i64_w, i32_w])
        refine join_ (σ := Nat × Nat × Nat × Nat × Nat × Nat × Nat) 6 (bs 21 278527) (fun ⟨ga, gs, gr, gm, gd, _, g18⟩ => [(73, .pointer (some ⟨ga, 0, none⟩)), (76, .pointer (some ⟨gs, 0, none⟩)), (81, .pointer (some ⟨gr, 0, none⟩)), (82, .pointer (some ⟨gm, 0, none⟩)), (83, .pointer (some ⟨gd, 0, none⟩)), (19, .pointer (some ⟨g18, 0, none⟩))]) (fun ⟨ga, gs, gr, gm, gd, _, g18⟩ w' => Below w8.heap.size w8 w' ∧ (RQ w' ga (qq X.f1 a2) 2) ∧ (RQ w' gs (q - qq b a1) 5) ∧ (RQ w' gr (qq X.f2 X.f3) 2) ∧ (RQ w' gm ((q - qq b a1) * qq X.f2 X.f3) 7) ∧ (RQ w' gd (qq X.f1 a2 + (q - qq b a1) * qq X.f2 X.f3) 10) ∧ (w8.heap.size ≤ g18 ∧ w'.heap[g18]? = some (.cells #[.int .i64 0, .int .i64 0] 37))) ?_ (fun hq_3_6_11_12_13_18 => ?_)
        ·rintro ⟨ga, gs, gr, gm, gd, u14, g18⟩ w' ⟨hB, f3, f6, f11, f12, f13, f18⟩
         refine norm_ (a' := ?_) ?_ ?_; rotate_left; (· simp only [putAll, Act.put, List.setIfInBounds_toArray, List.set_cons_zero, List.set_cons_succ, i64_w, i32_w]; rfl)
         refine one_ (i := 14) (N := some 84) (bs 21 294911) rfl rfl (by kernel_rfl) (by decide) (fun K hK => ?_)
         ·
          refine goes_ Try.func82 (by kernel_rfl) rfl #[.pointer (some ⟨gd, 0, none⟩)] (by rfl) rfl rfl (by simp only [List.map_toArray, List.map_cons, List.map_nil]; rfl) ?_
          with_reducible refine (HT.out w' gd f13).mono ?_
          rintro e w9 ⟨u14, rfl, hb9⟩
          refine ⟨_, rfl, ?_⟩
          have hB9 := hB.trans (hb9.mono hB.size)
          refine hK.out _ _ ⟨pw_cell_below hB9 c1, pw_cell_below hB9 c2, pw_cell_below hB9 c3⟩ (fun hHeld => ?_)
          clear hK K
          refine norm_ (a' := ?_) ?_ ?_; rotate_left; (· show Act.put _ (some 84) _ = _; simp only [putAll, Act.put, List.setIfInBounds_toArray, List.set_cons_zero, List.set_cons_succ, i64_w, i32_w]; rfl)
          refine pure_ (i := 15) (N := some 69) (v := ?_) (a' := ?_) (bs 21 327679) rfl rfl (by kernel_rfl) (fun _ _ _ h => h) (Or.inl ⟨by rfl, ?_⟩) ?_ ?_; rotate_left; (· intro w'; go_simp; first | done | with_reducible rfl); rotate_left; (· simp only [Act.put, List.setIfInBounds_toArray, List.set_cons_zero, List.set_cons_succ, i64_w, i32_w]; rfl)
          refine pure_ (i := 16) (N := some 85) (v := ?_) (a' := ?_) (bs 21 393215) rfl rfl (by kernel_rfl) (fun _ _ _ h => h) (Or.inl ⟨by rfl, ?_⟩) ?_ ?_; rotate_left; (· intro w'; go_simp; first | done | with_reducible rfl); rotate_left; (· simp only [Act.put, List.setIfInBounds_toArray, List.set_cons_zero, List.set_cons_succ, i64_w, i32_w]; rfl)
          refine pure_ (i := 17) (N := some 86) (v := ?_) (a' := ?_) (bs 21 524287) rfl rfl (by kernel_rfl) (fun _ _ _ h => h) (Or.inl ⟨by rfl, ?_⟩) ?_ ?_; rotate_left; (· intro w'; go_simp; first | done | with_reducible rfl); rotate_left; (· simp only [Act.put, List.setIfInBounds_toArray, List.set_cons_zero, List.set_cons_succ, i64_w, i32_w]; rfl)
          refine norm_ ?_ (hq_3_6_11_12_13_14_15_16_17_18 ⟨ga, gs, gr, gm, gd, u14, g18⟩ _ ⟨hB9, f3.below hb9, f6.below hb9, f11.below hb9, f12.below hb9, f13.below hb9, trivial, ⟨f18.1, blk_below f18.2 hb9⟩⟩); (· simp only [putAll, Act.put, List.setIfInBounds_toArray, List.set_cons_zero, List.set_cons_succ, i64_w, i32_w])
        refine join_ (σ := Nat × Nat × Nat × Nat × Nat × Nat × Nat) 7 (bs 21 270335) (fun ⟨ga, gs, gr, gm, _, _, g18⟩ => [(73, .pointer (some ⟨ga, 0, none⟩)), (76, .pointer (some ⟨gs, 0, none⟩)), (81, .pointer (some ⟨gr, 0, none⟩)), (82, .pointer (some ⟨gm, 0, none⟩)), (19, .pointer (some ⟨g18, 0, none⟩))]) (fun ⟨ga, gs, gr, gm, _, _, g18⟩ w' => Below w8.heap.size w8 w' ∧ (RQ w' ga (qq X.f1 a2) 2) ∧ (RQ w' gs (q - qq b a1) 5) ∧ (RQ w' gr (qq X.f2 X.f3) 2) ∧ (RQ w' gm ((q - qq b a1) * qq X.f2 X.f3) 7) ∧ (w8.heap.size ≤ g18 ∧ w'.heap[g18]? = some (.cells #[.int .i64 0, .int .i64 0] 37))) ?_ (fun hq_3_6_11_12_18 => ?_)
        ·rintro ⟨ga, gs, gr, gm, gd, u14, g18⟩ w' ⟨hB, f3, f6, f11, f12, f18⟩
         refine norm_ (a' := ?_) ?_ ?_; rotate_left; (· simp only [putAll, Act.put, List.setIfInBounds_toArray, List.set_cons_zero, List.set_cons_succ, i64_w, i32_w]; rfl)
         refine one_ (i := 13) (N := some 83) (bs 21 278527) rfl rfl (by kernel_rfl) (by decide) (fun K hK => ?_)
         ·
          refine goes_ Try.func83 (by kernel_rfl) rfl #[.pointer (some ⟨ga, 0, none⟩), .pointer (some ⟨gm, 0, none⟩)] (by rfl) rfl rfl (by simp only [List.map_toArray, List.map_cons, List.map_nil]; rfl) ?_
          with_reducible refine (addE_n ga gm (qq X.f1 a2) ((q - qq b a1) * qq X.f2 X.f3) 2 7 w' f3 f12 (by decide)).mono ?_
          rintro e w9 ⟨gd, hgd, rfl, hb9, n13⟩
          refine ⟨_, rfl, ?_⟩
          have hB9 := hB.trans (hb9.mono hB.size)
          refine hK.out _ _ ⟨pw_cell_below hB9 c1, pw_cell_below hB9 c2, pw_cell_below hB9 c3⟩ (fun hHeld => ?_)
          clear hK K
          refine norm_ ?_ (hq_3_6_11_12_13_18 ⟨ga, gs, gr, gm, gd, 0, g18⟩ _ ⟨hB9, f3.below hb9, f6.below hb9, f11.below hb9, f12.below hb9, n13, ⟨f18.1, blk_below f18.2 hb9⟩⟩); (· simp only [putAll, Act.put, List.setIfInBounds_toArray, List.set_cons_zero, List.set_cons_succ, i64_w, i32_w])
        refine join_ (σ := Nat × Nat × Nat × Nat × Nat × Nat × Nat) 7 (bs 21 16383) (fun ⟨ga, gs, gr, gm, gd, _, _⟩ => [(73, .pointer (some ⟨ga, 0, none⟩)), (76, .pointer (some ⟨gs, 0, none⟩)), (81, .pointer (some ⟨gr, 0, none⟩)), (82, .pointer (some ⟨gm, 0, none⟩)), (83, .pointer (some ⟨gd, 0, none⟩))]) (fun ⟨ga, gs, gr, gm, gd, _, _⟩ w' => Below w8.heap.size w8 w' ∧ (RQ w' ga (qq X.f1 a2) 2) ∧ (RQ w' gs (q - qq b a1) 5) ∧ (RQ w' gr (qq X.f2 X.f3) 2) ∧ (RQ w' gm ((q - qq b a1) * qq X.f2 X.f3) 7) ∧ (RQ w' gd (qq X.f1 a2 + (q - qq b a1) * qq X.f2 X.f3) 10)) ?_ (fun hq_3_6_11_12_13 => ?_)
        ·rintro ⟨ga, gs, gr, gm, gd, u14, g18⟩ w' ⟨hB, f3, f6, f11, f12, f13⟩
         refine norm_ (a' := ?_) ?_ ?_; rotate_left; (· simp only [putAll, Act.put, List.setIfInBounds_toArray, List.set_cons_zero, List.set_cons_succ, i64_w, i32_w]; rfl)
         refine two_ (i := 14) (j := 18) (Ni := some 84) (Nj := some 19) (bs 21 32767) (bs 21 278527) rfl rfl rfl rfl (by kernel_rfl) (by decide) (by decide) (fun K hK => ?_) (fun K hK => ?_)
         ·
          refine goes_ Try.func82 (by kernel_rfl) rfl #[.pointer (some ⟨gd, 0, none⟩)] (by rfl) rfl rfl (by simp only [List.map_toArray, List.map_cons, List.map_nil]; rfl) ?_
          with_reducible refine (HT.out w' gd f13).mono ?_
          rintro e w9 ⟨u14, rfl, hb9⟩
          refine ⟨_, rfl, ?_⟩
          have hB9 := hB.trans (hb9.mono hB.size)
          refine hK.out _ _ ⟨pw_cell_below hB9 c1, pw_cell_below hB9 c2, pw_cell_below hB9 c3⟩ (fun hHeld => ?_)
          clear hK K
          refine norm_ (a' := ?_) ?_ ?_; rotate_left; (· show Act.put _ (some 84) _ = _; simp only [putAll, Act.put, List.setIfInBounds_toArray, List.set_cons_zero, List.set_cons_succ, i64_w, i32_w]; rfl)
          refine pure_ (i := 15) (N := some 69) (v := ?_) (a' := ?_) (bs 21 65535) rfl rfl (by kernel_rfl) (fun _ _ _ h => h) (Or.inl ⟨by rfl, ?_⟩) ?_ ?_; rotate_left; (· intro w'; go_simp; first | done | with_reducible rfl); rotate_left; (· simp only [Act.put, List.setIfInBounds_toArray, List.set_cons_zero, List.set_cons_succ, i64_w, i32_w]; rfl)
          refine pure_ (i := 16) (N := some 85) (v := ?_) (a' := ?_) (bs 21 131071) rfl rfl (by kernel_rfl) (fun _ _ _ h => h) (Or.inl ⟨by rfl, ?_⟩) ?_ ?_; rotate_left; (· intro w'; go_simp; first | done | with_reducible rfl); rotate_left; (· simp only [Act.put, List.setIfInBounds_toArray, List.set_cons_zero, List.set_cons_succ, i64_w, i32_w]; rfl)
          refine pure_ (i := 17) (N := some 86) (v := ?_) (a' := ?_) (bs 21 262143) rfl rfl (by kernel_rfl) (fun _ _ _ h => h) (Or.inl ⟨by rfl, ?_⟩) ?_ ?_; rotate_left; (· intro w'; go_simp; first | done | with_reducible rfl); rotate_left; (· simp only [Act.put, List.setIfInBounds_toArray, List.set_cons_zero, List.set_cons_succ, i64_w, i32_w]; rfl)
          refine norm_ ?_ (hq_3_6_11_12_13_14_15_16_17 ⟨ga, gs, gr, gm, gd, u14, 0⟩ _ ⟨hB9, f3.below hb9, f6.below hb9, f11.below hb9, f12.below hb9, f13.below hb9, trivial⟩); (· simp only [putAll, Act.put, List.setIfInBounds_toArray, List.set_cons_zero, List.set_cons_succ, i64_w, i32_w])
         ·
          refine value_ (v := .pointer (some ⟨w'.heap.size, 0, none⟩)) (w1 := w'.alloc (.cells #[.int .i64 0, .int .i64 0] 37)) (by rfl) rfl ?_ ?_
          ·go_simp
          have hb9 : Below w'.heap.size w' (w'.alloc (.cells #[.int .i64 0, .int .i64 0] 37)) := below_alloc (Below.refl _ _) _
          have n18 := blk_new w' (.cells #[.int .i64 0, .int .i64 0] 37)
          have hB9 := hB.trans (hb9.mono hB.size)
          refine hK.out _ _ ⟨pw_cell_below hB9 c1, pw_cell_below hB9 c2, pw_cell_below hB9 c3⟩ (fun hHeld => ?_)
          clear hK K
          refine norm_ ?_ (hq_3_6_11_12_13_18 ⟨ga, gs, gr, gm, gd, 0, w'.heap.size⟩ _ ⟨hB9, f3.below hb9, f6.below hb9, f11.below hb9, f12.below hb9, f13.below hb9, ⟨hB.size, n18⟩⟩); (· simp only [putAll, Act.put, List.setIfInBounds_toArray, List.set_cons_zero, List.set_cons_succ, i64_w, i32_w])
        refine join_ (σ := Nat × Nat × Nat × Nat × Nat × Nat × Nat) 8 (bs 21 266239) (fun ⟨ga, gs, gr, _, _, _, g18⟩ => [(73, .pointer (some ⟨ga, 0, none⟩)), (76, .pointer (some ⟨gs, 0, none⟩)), (81, .pointer (some ⟨gr, 0, none⟩)), (19, .pointer (some ⟨g18, 0, none⟩))]) (fun ⟨ga, gs, gr, _, _, _, g18⟩ w' => Below w8.heap.size w8 w' ∧ (RQ w' ga (qq X.f1 a2) 2) ∧ (RQ w' gs (q - qq b a1) 5) ∧ (RQ w' gr (qq X.f2 X.f3) 2) ∧ (w8.heap.size ≤ g18 ∧ w'.heap[g18]? = some (.cells #[.int .i64 0, .int .i64 0] 37))) ?_ (fun hq_3_6_11_18 => ?_)
        ·rintro ⟨ga, gs, gr, gm, gd, u14, g18⟩ w' ⟨hB, f3, f6, f11, f18⟩
         refine norm_ (a' := ?_) ?_ ?_; rotate_left; (· simp only [putAll, Act.put, List.setIfInBounds_toArray, List.set_cons_zero, List.set_cons_succ, i64_w, i32_w]; rfl)
         refine one_ (i := 12) (N := some 82) (bs 21 270335) rfl rfl (by kernel_rfl) (by decide) (fun K hK => ?_)
         ·
          refine goes_ Try.func77 (by kernel_rfl) rfl #[.pointer (some ⟨gs, 0, none⟩), .pointer (some ⟨gr, 0, none⟩)] (by rfl) rfl rfl (by simp only [List.map_toArray, List.map_cons, List.map_nil]; rfl) ?_
          with_reducible refine (mulE_n gs gr (q - qq b a1) (qq X.f2 X.f3) 5 2 w' f6 f11 (by decide)).mono ?_
          rintro e w9 ⟨gm, hgm, rfl, hb9, n12⟩
          refine ⟨_, rfl, ?_⟩
          have hB9 := hB.trans (hb9.mono hB.size)
          refine hK.out _ _ ⟨pw_cell_below hB9 c1, pw_cell_below hB9 c2, pw_cell_below hB9 c3⟩ (fun hHeld => ?_)
          clear hK K
          refine norm_ ?_ (hq_3_6_11_12_18 ⟨ga, gs, gr, gm, 0, 0, g18⟩ _ ⟨hB9, f3.below hb9, f6.below hb9, f11.below hb9, n12, ⟨f18.1, blk_below f18.2 hb9⟩⟩); (· simp only [putAll, Act.put, List.setIfInBounds_toArray, List.set_cons_zero, List.set_cons_succ, i64_w, i32_w])
        refine join_ (σ := Nat × Nat × Nat × Nat × Nat × Nat × Nat) 8 (bs 21 8191) (fun ⟨ga, gs, gr, gm, _, _, _⟩ => [(73, .pointer (some ⟨ga, 0, none⟩)), (76, .pointer (some ⟨gs, 0, none⟩)), (81, .pointer (some ⟨gr, 0, none⟩)), (82, .pointer (some ⟨gm, 0, none⟩))]) (fun ⟨ga, gs, gr, gm, _, _, _⟩ w' => Below w8.heap.size w8 w' ∧ (RQ w' ga (qq X.f1 a2) 2) ∧ (RQ w' gs (q - qq b a1) 5) ∧ (RQ w' gr (qq X.f2 X.f3) 2) ∧ (RQ w' gm ((q - qq b a1) * qq X.f2 X.f3) 7)) ?_ (fun hq_3_6_11_12 => ?_)
        ·rintro ⟨ga, gs, gr, gm, gd, u14, g18⟩ w' ⟨hB, f3, f6, f11, f12⟩
         refine norm_ (a' := ?_) ?_ ?_; rotate_left; (· simp only [putAll, Act.put, List.setIfInBounds_toArray, List.set_cons_zero, List.set_cons_succ, i64_w, i32_w]; rfl)
         refine two_ (i := 13) (j := 18) (Ni := some 83) (Nj := some 19) (bs 21 16383) (bs 21 270335) rfl rfl rfl rfl (by kernel_rfl) (by decide) (by decide) (fun K hK => ?_) (fun K hK => ?_)
         ·
          refine goes_ Try.func83 (by kernel_rfl) rfl #[.pointer (some ⟨ga, 0, none⟩), .pointer (some ⟨gm, 0, none⟩)] (by rfl) rfl rfl (by simp only [List.map_toArray, List.map_cons, List.map_nil]; rfl) ?_
          with_reducible refine (addE_n ga gm (qq X.f1 a2) ((q - qq b a1) * qq X.f2 X.f3) 2 7 w' f3 f12 (by decide)).mono ?_
          rintro e w9 ⟨gd, hgd, rfl, hb9, n13⟩
          refine ⟨_, rfl, ?_⟩
          have hB9 := hB.trans (hb9.mono hB.size)
          refine hK.out _ _ ⟨pw_cell_below hB9 c1, pw_cell_below hB9 c2, pw_cell_below hB9 c3⟩ (fun hHeld => ?_)
          clear hK K
          refine norm_ ?_ (hq_3_6_11_12_13 ⟨ga, gs, gr, gm, gd, 0, 0⟩ _ ⟨hB9, f3.below hb9, f6.below hb9, f11.below hb9, f12.below hb9, n13⟩); (· simp only [putAll, Act.put, List.setIfInBounds_toArray, List.set_cons_zero, List.set_cons_succ, i64_w, i32_w])
         ·
          refine value_ (v := .pointer (some ⟨w'.heap.size, 0, none⟩)) (w1 := w'.alloc (.cells #[.int .i64 0, .int .i64 0] 37)) (by rfl) rfl ?_ ?_
          ·go_simp
          have hb9 : Below w'.heap.size w' (w'.alloc (.cells #[.int .i64 0, .int .i64 0] 37)) := below_alloc (Below.refl _ _) _
          have n18 := blk_new w' (.cells #[.int .i64 0, .int .i64 0] 37)
          have hB9 := hB.trans (hb9.mono hB.size)
          refine hK.out _ _ ⟨pw_cell_below hB9 c1, pw_cell_below hB9 c2, pw_cell_below hB9 c3⟩ (fun hHeld => ?_)
          clear hK K
          refine norm_ ?_ (hq_3_6_11_12_18 ⟨ga, gs, gr, gm, 0, 0, w'.heap.size⟩ _ ⟨hB9, f3.below hb9, f6.below hb9, f11.below hb9, f12.below hb9, ⟨hB.size, n18⟩⟩); (· simp only [putAll, Act.put, List.setIfInBounds_toArray, List.set_cons_zero, List.set_cons_succ, i64_w, i32_w])
        refine join_ (σ := Nat × Nat × Nat × Nat × Nat × Nat × Nat) 9 (bs 21 264191) (fun ⟨ga, gs, _, _, _, _, g18⟩ => [(73, .pointer (some ⟨ga, 0, none⟩)), (76, .pointer (some ⟨gs, 0, none⟩)), (19, .pointer (some ⟨g18, 0, none⟩))]) (fun ⟨ga, gs, _, _, _, _, g18⟩ w' => Below w8.heap.size w8 w' ∧ (RQ w' ga (qq X.f1 a2) 2) ∧ (RQ w' gs (q - qq b a1) 5) ∧ (w8.heap.size ≤ g18 ∧ w'.heap[g18]? = some (.cells #[.int .i64 0, .int .i64 0] 37))) ?_ (fun hq_3_6_18 => ?_)
        ·rintro ⟨ga, gs, gr, gm, gd, u14, g18⟩ w' ⟨hB, f3, f6, f18⟩
         refine norm_ (a' := ?_) ?_ ?_; rotate_left; (· simp only [putAll, Act.put, List.setIfInBounds_toArray, List.set_cons_zero, List.set_cons_succ, i64_w, i32_w]; rfl)
         refine one_ (i := 11) (N := some 81) (bs 21 266239) rfl rfl (by kernel_rfl) (by decide) (fun K hK => ?_)
         ·
          refine goes_ Try.func78 (by kernel_rfl) rfl #[.int .i64 X.f2, .int .i64 X.f3] (by rfl) rfl rfl (by simp only [List.map_toArray, List.map_cons, List.map_nil]; rfl) ?_
          with_reducible refine (ratioE_n X.f2 X.f3 w' HJ.out.2.1 HJ.out.2.2.1 HJ.out.2.2.2).mono ?_
          rintro e w9 ⟨gr, hgr, rfl, hb9, n11⟩
          refine ⟨_, rfl, ?_⟩
          have hB9 := hB.trans (hb9.mono hB.size)
          refine hK.out _ _ ⟨pw_cell_below hB9 c1, pw_cell_below hB9 c2, pw_cell_below hB9 c3⟩ (fun hHeld => ?_)
          clear hK K
          refine norm_ ?_ (hq_3_6_11_18 ⟨ga, gs, gr, 0, 0, 0, g18⟩ _ ⟨hB9, f3.below hb9, f6.below hb9, n11, ⟨f18.1, blk_below f18.2 hb9⟩⟩); (· simp only [putAll, Act.put, List.setIfInBounds_toArray, List.set_cons_zero, List.set_cons_succ, i64_w, i32_w])
        refine join_ (σ := Nat × Nat × Nat × Nat × Nat × Nat × Nat) 9 (bs 21 4095) (fun ⟨ga, gs, gr, _, _, _, _⟩ => [(73, .pointer (some ⟨ga, 0, none⟩)), (76, .pointer (some ⟨gs, 0, none⟩)), (81, .pointer (some ⟨gr, 0, none⟩))]) (fun ⟨ga, gs, gr, _, _, _, _⟩ w' => Below w8.heap.size w8 w' ∧ (RQ w' ga (qq X.f1 a2) 2) ∧ (RQ w' gs (q - qq b a1) 5) ∧ (RQ w' gr (qq X.f2 X.f3) 2)) ?_ (fun hq_3_6_11 => ?_)
        ·rintro ⟨ga, gs, gr, gm, gd, u14, g18⟩ w' ⟨hB, f3, f6, f11⟩
         refine norm_ (a' := ?_) ?_ ?_; rotate_left; (· simp only [putAll, Act.put, List.setIfInBounds_toArray, List.set_cons_zero, List.set_cons_succ, i64_w, i32_w]; rfl)
         refine two_ (i := 12) (j := 18) (Ni := some 82) (Nj := some 19) (bs 21 8191) (bs 21 266239) rfl rfl rfl rfl (by kernel_rfl) (by decide) (by decide) (fun K hK => ?_) (fun K hK => ?_)
         ·
          refine goes_ Try.func77 (by kernel_rfl) rfl #[.pointer (some ⟨gs, 0, none⟩), .pointer (some ⟨gr, 0, none⟩)] (by rfl) rfl rfl (by simp only [List.map_toArray, List.map_cons, List.map_nil]; rfl) ?_
          with_reducible refine (mulE_n gs gr (q - qq b a1) (qq X.f2 X.f3) 5 2 w' f6 f11 (by decide)).mono ?_
          rintro e w9 ⟨gm, hgm, rfl, hb9, n12⟩
          refine ⟨_, rfl, ?_⟩
          have hB9 := hB.trans (hb9.mono hB.size)
          refine hK.out _ _ ⟨pw_cell_below hB9 c1, pw_cell_below hB9 c2, pw_cell_below hB9 c3⟩ (fun hHeld => ?_)
          clear hK K
          refine norm_ ?_ (hq_3_6_11_12 ⟨ga, gs, gr, gm, 0, 0, 0⟩ _ ⟨hB9, f3.below hb9, f6.below hb9, f11.below hb9, n12⟩); (· simp only [putAll, Act.put, List.setIfInBounds_toArray, List.set_cons_zero, List.set_cons_succ, i64_w, i32_w])
         ·
          refine value_ (v := .pointer (some ⟨w'.heap.size, 0, none⟩)) (w1 := w'.alloc (.cells #[.int .i64 0, .int .i64 0] 37)) (by rfl) rfl ?_ ?_
          ·go_simp
          have hb9 : Below w'.heap.size w' (w'.alloc (.cells #[.int .i64 0, .int .i64 0] 37)) := below_alloc (Below.refl _ _) _
          have n18 := blk_new w' (.cells #[.int .i64 0, .int .i64 0] 37)
          have hB9 := hB.trans (hb9.mono hB.size)
          refine hK.out _ _ ⟨pw_cell_below hB9 c1, pw_cell_below hB9 c2, pw_cell_below hB9 c3⟩ (fun hHeld => ?_)
          clear hK K
          refine norm_ ?_ (hq_3_6_11_18 ⟨ga, gs, gr, 0, 0, 0, w'.heap.size⟩ _ ⟨hB9, f3.below hb9, f6.below hb9, f11.below hb9, ⟨hB.size, n18⟩⟩); (· simp only [putAll, Act.put, List.setIfInBounds_toArray, List.set_cons_zero, List.set_cons_succ, i64_w, i32_w])
        refine join_ (σ := Nat × Nat × Nat × Nat × Nat × Nat × Nat) 10 (bs 21 264127) (fun ⟨ga, _, _, _, _, _, g18⟩ => [(73, .pointer (some ⟨ga, 0, none⟩)), (19, .pointer (some ⟨g18, 0, none⟩))]) (fun ⟨ga, _, _, _, _, _, g18⟩ w' => Below w8.heap.size w8 w' ∧ (RQ w' ga (qq X.f1 a2) 2) ∧ (w8.heap.size ≤ g18 ∧ w'.heap[g18]? = some (.cells #[.int .i64 0, .int .i64 0] 37))) ?_ (fun hq_3_18 => ?_)
        ·rintro ⟨ga, gs, gr, gm, gd, u14, g18⟩ w' ⟨hB, f3, f18⟩
         refine norm_ (a' := ?_) ?_ ?_; rotate_left; (· simp only [putAll, Act.put, List.setIfInBounds_toArray, List.set_cons_zero, List.set_cons_succ, i64_w, i32_w]; rfl)
         refine one_ (i := 6) (N := some 76) (bs 21 264191) rfl rfl (by kernel_rfl) (by decide) (fun K hK => ?_)
         ·
          refine goes_ Try.func84 (by kernel_rfl) rfl #[.pointer (some ⟨g, 0, none⟩), .pointer (some ⟨g5, 0, none⟩)] (by rfl) rfl rfl (by simp only [List.map_toArray, List.map_cons, List.map_nil]; rfl) ?_
          with_reducible refine (subE_n g g5 q (qq b a1) 2 2 w' (H8.out.2.q.below hB) (H8.out.1.below hB) (by decide)).mono ?_
          rintro e w9 ⟨gs, hgs, rfl, hb9, n6⟩
          refine ⟨_, rfl, ?_⟩
          have hB9 := hB.trans (hb9.mono hB.size)
          refine hK.out _ _ ⟨pw_cell_below hB9 c1, pw_cell_below hB9 c2, pw_cell_below hB9 c3⟩ (fun hHeld => ?_)
          clear hK K
          refine norm_ ?_ (hq_3_6_18 ⟨ga, gs, 0, 0, 0, 0, g18⟩ _ ⟨hB9, f3.below hb9, n6, ⟨f18.1, blk_below f18.2 hb9⟩⟩); (· simp only [putAll, Act.put, List.setIfInBounds_toArray, List.set_cons_zero, List.set_cons_succ, i64_w, i32_w])
        refine join_ (σ := Nat × Nat × Nat × Nat × Nat × Nat × Nat) 10 (bs 21 2047) (fun ⟨ga, gs, _, _, _, _, _⟩ => [(73, .pointer (some ⟨ga, 0, none⟩)), (76, .pointer (some ⟨gs, 0, none⟩))]) (fun ⟨ga, gs, _, _, _, _, _⟩ w' => Below w8.heap.size w8 w' ∧ (RQ w' ga (qq X.f1 a2) 2) ∧ (RQ w' gs (q - qq b a1) 5)) ?_ (fun hq_3_6 => ?_)
        ·rintro ⟨ga, gs, gr, gm, gd, u14, g18⟩ w' ⟨hB, f3, f6⟩
         refine norm_ (a' := ?_) ?_ ?_; rotate_left; (· simp only [putAll, Act.put, List.setIfInBounds_toArray, List.set_cons_zero, List.set_cons_succ, i64_w, i32_w]; rfl)
         refine two_ (i := 11) (j := 18) (Ni := some 81) (Nj := some 19) (bs 21 4095) (bs 21 264191) rfl rfl rfl rfl (by kernel_rfl) (by decide) (by decide) (fun K hK => ?_) (fun K hK => ?_)
         ·
          refine goes_ Try.func78 (by kernel_rfl) rfl #[.int .i64 X.f2, .int .i64 X.f3] (by rfl) rfl rfl (by simp only [List.map_toArray, List.map_cons, List.map_nil]; rfl) ?_
          with_reducible refine (ratioE_n X.f2 X.f3 w' HJ.out.2.1 HJ.out.2.2.1 HJ.out.2.2.2).mono ?_
          rintro e w9 ⟨gr, hgr, rfl, hb9, n11⟩
          refine ⟨_, rfl, ?_⟩
          have hB9 := hB.trans (hb9.mono hB.size)
          refine hK.out _ _ ⟨pw_cell_below hB9 c1, pw_cell_below hB9 c2, pw_cell_below hB9 c3⟩ (fun hHeld => ?_)
          clear hK K
          refine norm_ ?_ (hq_3_6_11 ⟨ga, gs, gr, 0, 0, 0, 0⟩ _ ⟨hB9, f3.below hb9, f6.below hb9, n11⟩); (· simp only [putAll, Act.put, List.setIfInBounds_toArray, List.set_cons_zero, List.set_cons_succ, i64_w, i32_w])
         ·
          refine value_ (v := .pointer (some ⟨w'.heap.size, 0, none⟩)) (w1 := w'.alloc (.cells #[.int .i64 0, .int .i64 0] 37)) (by rfl) rfl ?_ ?_
          ·go_simp
          have hb9 : Below w'.heap.size w' (w'.alloc (.cells #[.int .i64 0, .int .i64 0] 37)) := below_alloc (Below.refl _ _) _
          have n18 := blk_new w' (.cells #[.int .i64 0, .int .i64 0] 37)
          have hB9 := hB.trans (hb9.mono hB.size)
          refine hK.out _ _ ⟨pw_cell_below hB9 c1, pw_cell_below hB9 c2, pw_cell_below hB9 c3⟩ (fun hHeld => ?_)
          clear hK K
          refine norm_ ?_ (hq_3_6_18 ⟨ga, gs, 0, 0, 0, 0, w'.heap.size⟩ _ ⟨hB9, f3.below hb9, f6.below hb9, ⟨hB.size, n18⟩⟩); (· simp only [putAll, Act.put, List.setIfInBounds_toArray, List.set_cons_zero, List.set_cons_succ, i64_w, i32_w])
        refine join_ (σ := Nat × Nat × Nat × Nat × Nat × Nat × Nat) 11 (bs 21 1983) (fun ⟨ga, _, _, _, _, _, _⟩ => [(73, .pointer (some ⟨ga, 0, none⟩))]) (fun ⟨ga, _, _, _, _, _, _⟩ w' => Below w8.heap.size w8 w' ∧ (RQ w' ga (qq X.f1 a2) 2)) ?_ (fun hq_3 => ?_)
        ·rintro ⟨ga, gs, gr, gm, gd, u14, g18⟩ w' ⟨hB, f3⟩
         refine norm_ (a' := ?_) ?_ ?_; rotate_left; (· simp only [putAll, Act.put, List.setIfInBounds_toArray, List.set_cons_zero, List.set_cons_succ, i64_w, i32_w]; rfl)
         refine two_ (i := 6) (j := 18) (Ni := some 76) (Nj := some 19) (bs 21 2047) (bs 21 264127) rfl rfl rfl rfl (by kernel_rfl) (by decide) (by decide) (fun K hK => ?_) (fun K hK => ?_)
         ·
          refine goes_ Try.func84 (by kernel_rfl) rfl #[.pointer (some ⟨g, 0, none⟩), .pointer (some ⟨g5, 0, none⟩)] (by rfl) rfl rfl (by simp only [List.map_toArray, List.map_cons, List.map_nil]; rfl) ?_
          with_reducible refine (subE_n g g5 q (qq b a1) 2 2 w' (H8.out.2.q.below hB) (H8.out.1.below hB) (by decide)).mono ?_
          rintro e w9 ⟨gs, hgs, rfl, hb9, n6⟩
          refine ⟨_, rfl, ?_⟩
          have hB9 := hB.trans (hb9.mono hB.size)
          refine hK.out _ _ ⟨pw_cell_below hB9 c1, pw_cell_below hB9 c2, pw_cell_below hB9 c3⟩ (fun hHeld => ?_)
          clear hK K
          refine norm_ ?_ (hq_3_6 ⟨ga, gs, 0, 0, 0, 0, 0⟩ _ ⟨hB9, f3.below hb9, n6⟩); (· simp only [putAll, Act.put, List.setIfInBounds_toArray, List.set_cons_zero, List.set_cons_succ, i64_w, i32_w])
         ·
          refine value_ (v := .pointer (some ⟨w'.heap.size, 0, none⟩)) (w1 := w'.alloc (.cells #[.int .i64 0, .int .i64 0] 37)) (by rfl) rfl ?_ ?_
          ·go_simp
          have hb9 : Below w'.heap.size w' (w'.alloc (.cells #[.int .i64 0, .int .i64 0] 37)) := below_alloc (Below.refl _ _) _
          have n18 := blk_new w' (.cells #[.int .i64 0, .int .i64 0] 37)
          have hB9 := hB.trans (hb9.mono hB.size)
          refine hK.out _ _ ⟨pw_cell_below hB9 c1, pw_cell_below hB9 c2, pw_cell_below hB9 c3⟩ (fun hHeld => ?_)
          clear hK K
          refine norm_ ?_ (hq_3_18 ⟨ga, 0, 0, 0, 0, 0, w'.heap.size⟩ _ ⟨hB9, f3.below hb9, ⟨hB.size, n18⟩⟩); (· simp only [putAll, Act.put, List.setIfInBounds_toArray, List.set_cons_zero, List.set_cons_succ, i64_w, i32_w])
        refine join_ (σ := Nat × Nat × Nat × Nat × Nat × Nat × Nat) 11 (bs 21 264119) (fun ⟨_, _, _, _, _, _, g18⟩ => [(19, .pointer (some ⟨g18, 0, none⟩))]) (fun ⟨_, _, _, _, _, _, g18⟩ w' => Below w8.heap.size w8 w' ∧ (w8.heap.size ≤ g18 ∧ w'.heap[g18]? = some (.cells #[.int .i64 0, .int .i64 0] 37))) ?_ (fun hq_18 => ?_)
        ·rintro ⟨ga, gs, gr, gm, gd, u14, g18⟩ w' ⟨hB, f18⟩
         refine norm_ (a' := ?_) ?_ ?_; rotate_left; (· simp only [putAll, Act.put, List.setIfInBounds_toArray, List.set_cons_zero, List.set_cons_succ, i64_w, i32_w]; rfl)
         refine one_ (i := 3) (N := some 73) (bs 21 264127) rfl rfl (by kernel_rfl) (by decide) (fun K hK => ?_)
         ·
          refine goes_ Try.func78 (by kernel_rfl) rfl #[.int .i64 X.f1, .int .i64 a2] (by rfl) rfl rfl (by simp only [List.map_toArray, List.map_cons, List.map_nil]; rfl) ?_
          with_reducible refine (ratioE_n X.f1 a2 w' HJ.out.1 HI.out.2.2.1 HI.out.2.2.2).mono ?_
          rintro e w9 ⟨ga, hga, rfl, hb9, n3⟩
          refine ⟨_, rfl, ?_⟩
          have hB9 := hB.trans (hb9.mono hB.size)
          refine hK.out _ _ ⟨pw_cell_below hB9 c1, pw_cell_below hB9 c2, pw_cell_below hB9 c3⟩ (fun hHeld => ?_)
          clear hK K
          refine norm_ ?_ (hq_3_18 ⟨ga, 0, 0, 0, 0, 0, g18⟩ _ ⟨hB9, n3, ⟨f18.1, blk_below f18.2 hb9⟩⟩); (· simp only [putAll, Act.put, List.setIfInBounds_toArray, List.set_cons_zero, List.set_cons_succ, i64_w, i32_w])
        have hB := below_drew' (Below.refl _ w8.drew)
        refine two_ (i := 3) (j := 18) (Ni := some 73) (Nj := some 19) (bs 21 1983) (bs 21 264119) rfl rfl rfl rfl (by kernel_rfl) (by decide) (by decide) (fun K hK => ?_) (fun K hK => ?_)
        ·
         refine goes_ Try.func78 (by kernel_rfl) rfl #[.int .i64 X.f1, .int .i64 a2] (by rfl) rfl rfl (by simp only [List.map_toArray, List.map_cons, List.map_nil]; rfl) ?_
         with_reducible refine (ratioE_n X.f1 a2 w8.drew HJ.out.1 HI.out.2.2.1 HI.out.2.2.2).mono ?_
         rintro e w9 ⟨ga, hga, rfl, hb9, n3⟩
         refine ⟨_, rfl, ?_⟩
         have hB9 := hB.trans (hb9.mono hB.size)
         refine hK.out _ _ ⟨pw_cell_below hB9 c1, pw_cell_below hB9 c2, pw_cell_below hB9 c3⟩ (fun hHeld => ?_)
         clear hK K
         refine norm_ ?_ (hq_3 ⟨ga, 0, 0, 0, 0, 0, 0⟩ _ ⟨hB9, n3⟩); (· simp only [putAll, Act.put, List.setIfInBounds_toArray, List.set_cons_zero, List.set_cons_succ, i64_w, i32_w])
        ·
         refine value_ (v := .pointer (some ⟨w8.drew.heap.size, 0, none⟩)) (w1 := w8.drew.alloc (.cells #[.int .i64 0, .int .i64 0] 37)) (by rfl) rfl ?_ ?_
         ·go_simp
         have hb9 : Below w8.drew.heap.size w8.drew (w8.drew.alloc (.cells #[.int .i64 0, .int .i64 0] 37)) := below_alloc (Below.refl _ _) _
         have n18 := blk_new w8.drew (.cells #[.int .i64 0, .int .i64 0] 37)
         have hB9 := hB.trans (hb9.mono hB.size)
         refine hK.out _ _ ⟨pw_cell_below hB9 c1, pw_cell_below hB9 c2, pw_cell_below hB9 c3⟩ (fun hHeld => ?_)
         clear hK K
         refine norm_ ?_ (hq_18 ⟨0, 0, 0, 0, 0, 0, w8.drew.heap.size⟩ _ ⟨hB9, ⟨hB.size, n18⟩⟩); (· simp only [putAll, Act.put, List.setIfInBounds_toArray, List.set_cons_zero, List.set_cons_succ, i64_w, i32_w])
       rintro ⟨ga, gs, gr, gm, gd, u14, g18⟩ w' ⟨hB, f3, f6, f11, f12, f13, f14, f18⟩
       refine norm_ (a' := ?_) ?_ ?_; rotate_left; (· simp only [putAll, Act.put, List.setIfInBounds_toArray, List.set_cons_zero, List.set_cons_succ, i64_w, i32_w]; rfl)
       have hHeld : w'.cell? ⟨wr.heap.size, 1, none⟩ = some (.int .i64 X.f1) ∧ w'.cell? ⟨wr.heap.size, 2, none⟩ = some (.int .i64 X.f2) ∧ w'.cell? ⟨wr.heap.size, 3, none⟩ = some (.int .i64 X.f3) := ⟨pw_cell_below hB c1, pw_cell_below hB c2, pw_cell_below hB c3⟩
       refine zL 19 none 21 1048575 (fun K hK => ?_)
       obtain ⟨s0, s1, s2, s3⟩ := time_cells f18.2
       refine skip_ (w1 := ?_) (by rfl) rfl ?_ ?_
       rotate_left
       ·(go_simp; with_reducible rfl)
       refine hK.out _ _ ?_
       clear hK K
       refine zP 20 20 21 2097151 ?_
       refine done_ (by kernel_rfl) ?_
       have hz := blk_two (x := .int .i64 T1) (y := .int .i64 T2) f18.2
       have hbF : Below w8.heap.size w8 ((w'.setCell ⟨g18, 0, none⟩ (.int .i64 T1)).setCell ⟨g18, 1, none⟩ (.int .i64 T2)) := (hB.setCell f18.1 _).setCell f18.1 _
       have HF := Aside0.mk (And.intro hz (H8.out.2.m.step hbF))
       generalize hFW : (w'.setCell ⟨g18, 0, none⟩ (.int .i64 T1)).setCell ⟨g18, 1, none⟩ (.int .i64 T2) = FW at *
       clear hz hbF hFW hB f3 f6 f11 f12 f13 f14 f18 hHeld H8
       obtain ⟨x0, x1, _, _⟩ := time_cells HF.out.1
       obtain ⟨s0, s1, s2, s3⟩ := time_cells HF.out.2.r
       go_wp2_with fail
       refine bodyPost_ret (results_ctt rfl _ _ (w.heap.size + 1) 37 #[.int .i64 T1, .int .i64 T2] (0, 0) _ rfl (blk_two HF.out.2.r) Try.underlying37 rfl (by kernel_rfl)) rfl ?_
       exact ⟨by rw [HV4.out]; rfl, (HF.out.2.below.setCell (by simp) _).setCell (by simp) _⟩
     ·obtain ⟨c2, hc2, ec2⟩ := cmpQ_ge (p := q) (q := qq (wrap64 (b + X.f0)) a1) (by rw [HW.out.1.2]; exact hq2)
      rw [ec2]
      have HL2 := Aside0.mk (show V = medR (medL a1 a2 q (b + X.f0) (l0.drop (i + 1).toNat)) by rw [HL.out]; simp only [medL]; rw [if_neg hq1, if_neg hq2])
      clear hq1 hq2 HL ec2
      go_wp2_with fail
      go_roundg k1
      case measure => omega
      case rel => exact ⟨b + X.f0, i + 1, by rw [HW.out.1.2], by rw [HW.out.1.1], ⟨HW.out.2.1, HW.out.2.2, HA.out.sum⟩, ⟨HL2.out⟩, ⟨H8.out.2.m, H8.out.2.q⟩⟩
   ·have hlb : decide (i < (l0.length : Int)) = false := decide_eq_false hlt
    have HV4 := Aside0.mk (show V = .tuple #[.agg #[.int .i64 0, .int .i64 1], .bool false, .int .i64 0] by
     rw [hL.out, List.drop_of_length_le (by have := hi.out; omega)]
     rfl)
    obtain ⟨p0, p1, f0, f1⟩ := time_cells hM.out.1.z
    obtain ⟨s0, s1, s2, s3⟩ := time_cells hM.out.1.r
    replace hlt := eq_false hlt
    clear hi hL
    go_wp2_with fail
    refine bodyPost_ret (results_ctt rfl _ _ (w.heap.size + 1) 37 #[.int .i64 0, .int .i64 1] (0, 0) _ rfl (blk_two hM.out.1.r) Try.underlying37 rfl (by kernel_rfl)) rfl ?_
    exact ⟨by rw [HV4.out]; rfl, (hM.out.1.below.setCell (by simp) _).setCell (by simp) _⟩
end Go.Proofs.Ytpbhepdgamoiaaa.E
namespace Go.Proofs.Ytpbhepdgamoiaaa.G
open Go.Proofs.Ytpbhepdgamoiaaa.Z Go.RowKit Go.Proofs.YtpbhepdgamoiaaaW.PrintWords Go.Proofs.YtpbhepdgamoiaaaW.PrintLast Go.Proofs.YtpbhepdgamoiaaaW.PrintMore
attribute [local go_sem] max2_int min2_int max_two min_two max_three min_three max_four min_four
set_option linter.unusedVariables false
set_option linter.unusedSimpArgs false
def errW : Option Int → Value
 | none => .nilIface
 | some c => .iface 0 (.int .i64 c)
theorem errW_none : errW none = .nilIface := rfl
theorem errW_some (c : Int) : errW (some c) = .iface 0 (.int .i64 c) := rfl
end Go.Proofs.Ytpbhepdgamoiaaa.G
namespace Go.Proofs.Ytpbhepdgamoiaaa.El
open Go.RowKit Go Go.Proofs.YtpbhepdgamoiaaaW.PrintWords Go.Proofs.YtpbhepdgamoiaaaW.PrintLast Go.Proofs.YtpbhepdgamoiaaaW.PrintMore Go.Proofs.Ytpbhepdgamoiaaa.Ml Go.Proofs.Ytpbhepdgamoiaaa.Mn Go.Proofs.Ytpbhepdgamoiaaa.Nd Go.Proofs.Ytpbhepdgamoiaaa.Z Go.Proofs.Ytpbhepdgamoiaaa.Nc Go.Proofs.Ytpbhepdgamoiaaa.Nb Go.Proofs.Ytpbhepdgamoiaaa.Qa Go.Proofs.Ytpbhepdgamoiaaa.Ea Go.Proofs.Ytpbhepdgamoiaaa.Ra Go.Proofs.Ytpbhepdgamoiaaa.Rf Go.Proofs.Ytpbhepdgamoiaaa.Er Go.Proofs.Ytpbhepdgamoiaaa.Ek Go.Proofs.Ytpbhepdgamoiaaa.G
set_option linter.unusedVariables false
set_option linter.unusedSimpArgs false
end Go.Proofs.Ytpbhepdgamoiaaa.El
namespace Go.Proofs.Ytpbhepdgamoiaaa.Ew
open Go.RowKit Go Go.Proofs.YtpbhepdgamoiaaaW.PrintWords Go.Proofs.YtpbhepdgamoiaaaW.PrintLast Go.Proofs.YtpbhepdgamoiaaaW.PrintMore Go.Proofs.Ytpbhepdgamoiaaa.Ml Go.Proofs.Ytpbhepdgamoiaaa.Mn Go.Proofs.Ytpbhepdgamoiaaa.Nd Go.Proofs.Ytpbhepdgamoiaaa.Z Go.Proofs.Ytpbhepdgamoiaaa.Nc Go.Proofs.Ytpbhepdgamoiaaa.Nb Go.Proofs.Ytpbhepdgamoiaaa.Qa Go.Proofs.Ytpbhepdgamoiaaa.Ea Go.Proofs.Ytpbhepdgamoiaaa.Ra Go.Proofs.Ytpbhepdgamoiaaa.Rf Go.Proofs.Ytpbhepdgamoiaaa.Er
set_option linter.unusedVariables false
set_option linter.unusedSimpArgs false
end Go.Proofs.Ytpbhepdgamoiaaa.Ew
namespace Go.Proofs.Ytpbhepdgamoiaaa.E
open Go.RowKit Go Go.Proofs.YtpbhepdgamoiaaaW.PrintWords Go.Proofs.YtpbhepdgamoiaaaW.PrintLast Go.Proofs.YtpbhepdgamoiaaaW.PrintMore Go.Proofs.Ytpbhepdgamoiaaa.Ml Go.Proofs.Ytpbhepdgamoiaaa.Mn Go.Proofs.Ytpbhepdgamoiaaa.Nd Go.Proofs.Ytpbhepdgamoiaaa.Z Go.Proofs.Ytpbhepdgamoiaaa.Nc Go.Proofs.Ytpbhepdgamoiaaa.Nb Go.Proofs.Ytpbhepdgamoiaaa.Qa Go.Proofs.Ytpbhepdgamoiaaa.Ea Go.Proofs.Ytpbhepdgamoiaaa.Ra Go.Proofs.Ytpbhepdgamoiaaa.Rf Go.Proofs.Ytpbhepdgamoiaaa.Er Go.Proofs.Ytpbhepdgamoiaaa.Ek Go.Proofs.Ytpbhepdgamoiaaa.Ew Go.Proofs.Ytpbhepdgamoiaaa.Et Go.Proofs.Ytpbhepdgamoiaaa.Pe
set_option linter.unusedVariables false
set_option linter.unusedSimpArgs false
def in64 (x : Int) : Bool := decide (-9223372036854775808 ≤ x) && decide (x ≤ 9223372036854775807)
theorem in64_iff {x : Int} : in64 x = true ↔ I64 x := by
 unfold in64
 simp only [Bool.and_eq_true, decide_eq_true_eq]
 exact ⟨fun h => ⟨h.1, h.2⟩, fun h => ⟨h.lo, h.hi⟩⟩
def rateOk (n e : Int) : Bool := decide (0 ≤ n) && (decide (n ≤ 1000000) && (decide (1 ≤ e) && decide (e ≤ 1000000)))
def edit_lowest.f (a0_0 : Int) (a0_1 : Int) (a0_2 : Int) (a0_3 : Int) : Option (Int × Int × Int × Int) := if rateOk a0_2 a0_3 = true then some (a0_0, a0_1, (qq a0_2 a0_3).num, ((qq a0_2 a0_3).den : Int)) else none
theorem edit_lowest.calls (a0_0 : Int) (a0_1 : Int) (a0_2 : Int) (a0_3 : Int) (r1 : Int) (r2 : Int) (r3 : Int) (r4 : Int) (w : World) (h : edit_lowest.f a0_0 a0_1 a0_2 a0_3 = some (r1, r2, r3, r4)) :
  Calls Try.prog 71 #[.agg #[.int .i64 a0_0, .int .i64 a0_1, .int .i64 a0_2, .int .i64 a0_3]] w fun e w' => e = .returned (.agg #[.int .i64 r1, .int .i64 r2, .int .i64 r3, .int .i64 r4]) ∧ Below w.heap.size w w' := by
 unfold edit_lowest.f rateOk at h
 simp only [Bool.and_eq_true, decide_eq_true_eq] at h
 split at h
 ·rename_i hc
  obtain ⟨h0, h1, h2, h3⟩ := hc
  simp only [Option.some.injEq, Prod.mk.injEq] at h
  obtain ⟨rfl, rfl, rfl, rfl⟩ := h
  exact lowest_n _ _ _ _ w h0 h1 h2 h3
 ·cases h
def overOk (ms ts d m n e m' : Int) : Bool := in64 ms && (in64 ts && (in64 d && (in64 m && (in64 n && (in64 e && (in64 m' && (decide (ms ≠ 0) && decide (e ≠ 0))))))))
def edit_clocks_over.f (a0_0 : Int) (a0_1 : Int) (a1_0 : Int) (a1_1 : Int) (a1_2 : Int) (a1_3 : Int) (a2_0 : Int) (a2_1 : Int) (a2_2 : Int) (a2_3 : Int) : Option (Bool) := if overOk a0_0 a0_1 a1_0 a1_1 a1_2 a1_3 a2_1 = true then some (overB a0_0 a0_1 a1_0 a1_1 a1_2 a1_3 a2_1 a2_2 a2_3) else none
theorem edit_clocks_over.calls (a0_0 : Int) (a0_1 : Int) (a1_0 : Int) (a1_1 : Int) (a1_2 : Int) (a1_3 : Int) (a2_0 : Int) (a2_1 : Int) (a2_2 : Int) (a2_3 : Int) (r : Bool) (w : World) (h : edit_clocks_over.f a0_0 a0_1 a1_0 a1_1 a1_2 a1_3 a2_0 a2_1 a2_2 a2_3 = some r) :
  Calls Try.prog 113 #[.agg #[.int .i64 a0_0, .int .i64 a0_1], .agg #[.int .i64 a1_0, .int .i64 a1_1, .int .i64 a1_2, .int .i64 a1_3], .agg #[.int .i64 a2_0, .int .i64 a2_1, .int .i64 a2_2, .int .i64 a2_3]] w fun e w' => e = .returned (.bool r) ∧ Below w.heap.size w w' := by
 unfold edit_clocks_over.f overOk at h
 split at h
 ·rename_i hc
  simp only [Bool.and_eq_true, decide_eq_true_eq, in64_iff] at hc
  obtain ⟨h1, h2, h3, h4, h5, h6, h7, h8, h9⟩ := hc
  simp only [Option.some.injEq] at h
  subst h
  exact over_n _ _ _ _ _ _ _ _ _ _ w ⟨h1, h8⟩ h2 h4 h5 ⟨h6, h9⟩ h3 h7
 ·cases h
theorem cmp_gt {q m : Int} (h : m < q) : cmpI q m = 1 := by unfold cmpI; rw [if_neg (by omega), if_pos h]
theorem cmp_lt {q m : Int} (h : q < m) : cmpI q m = -1 := by unfold cmpI; rw [if_pos h]
theorem cmp_le {q m : Int} (h : ¬ m < q) : ∃ c : Int, c ≤ 0 ∧ cmpI q m = c := by
 refine ⟨_, ?_, rfl⟩
 unfold cmpI
 by_cases h2 : q < m
 ·rw [if_pos h2]; decide
 ·rw [if_neg h2, if_neg h]; decide
theorem cmp_ge {q m : Int} (h : ¬ q < m) : ∃ c : Int, 0 ≤ c ∧ cmpI q m = c := by
 refine ⟨_, ?_, rfl⟩
 unfold cmpI
 rw [if_neg h]
 split <;> decide
def lenB (z : Int) : Int := if z < 0 then 0 else if 1099511627776 < z then 0 else z
def lenOk (l : List S77) : Bool := decide (l.length ≤ 100) && l.all (fun x => in64 x.f0)
def edit_Length.f (l0 : List (S77)) : Option (Int) := if lenOk l0 = true then some (lenB (sumD l0)) else none
theorem isN_zero (w : World) : IsN (w.alloc (.cells #[.bool false, .slice none 0 0] 86)) w.heap.size 0 0 3 :=
 ⟨⟨false, .slice none 0 0, [], ⟨_, 86, blk_new w _, ⟨none, 0, 0, rfl⟩, rfl, rfl⟩, Mag.nil _, Cn.nil _, by simp, by simp [sg, dv], by simp⟩⟩
set_option maxHeartbeats 8000000 in
set_option maxRecDepth 100000 in
theorem edit_Length.calls (A0 : Option Addr) (c0 : Nat) (l0 : List (S77)) (r : Int) (w : World) (hr0 : Kd.C k77 w A0 l0.length l0) (hc0 : l0.length ≤ c0) (h : edit_Length.f l0 = some r) :
  Calls Try.prog 26 #[.slice A0 l0.length c0] w fun e w' => e = .returned (.int .i64 r) ∧ Below w.heap.size w w' := by
 unfold edit_Length.f lenOk at h
 split at h
 case isFalse => cases h
 rename_i hc
 simp only [Bool.and_eq_true, decide_eq_true_eq, List.all_eq_true, in64_iff] at hc
 obtain ⟨hlen, hall⟩ := hc
 simp only [Option.some.injEq] at h
 subst h
 have hu := Try.underlying77
 have HR := Aside0.mk (And.intro hr0 (And.intro hc0 (And.intro hlen hall)))
 have HV := Aside0.mk (show lenB (sumD l0) = if sumD l0 < 0 then 0 else if 1099511627776 < sumD l0 then 0 else sumD l0 from rfl)
 generalize lenB (sumD l0) = V at *
 have hN0 := Aside0.mk (And.intro (isN_zero w) (below_alloc (Below.refl w.heap.size w) (.cells #[.bool false, .slice none 0 0] 86)))
 clear hr0 hc0 hlen hall
 go_enter Try.func26, Try.ntmps26
 go_wp2_with fail
 generalize hW : w.alloc (.cells #[.bool false, .slice none 0 0] 86) = W at *
 go_loopg [9] l0.length (fun kq v9 w' => ∃ i : Int, v9 = .int .i64 i ∧ Aside0 (0 ≤ i ∧ i + kq = l0.length) ∧ Aside0 (IsN w' w.heap.size 0 (sumD (l0.take i.toNat)) (i.toNat + 3)) ∧ Aside0 (Below w.heap.size w w'))
 case atStart => exact ⟨0, rfl, ⟨by simp⟩, ⟨hN0.out.1⟩, ⟨hN0.out.2⟩⟩
 case round =>
  clear hN0 hW
  obtain ⟨i, rfl, hi, hN, hB⟩ := hrel
  by_cases hlt : i < (l0.length : Int)
  ·have hlb : decide (i < (l0.length : Int)) = true := decide_eq_true hlt
   have p0 := hi.out.1
   obtain ⟨ad, hA, q0, q1, q2, q3⟩ := at_T77 (Kd.C_below HR.out.1 hB.out) i p0 hlt
   subst hA
   have hn : i.toNat < l0.length := by omega
   have hE : rd_T77 l0 i = l0.getD i.toNat z77 := rfl
   have hmem : l0.getD i.toNat z77 ∈ l0 := by
    rw [List.getD_eq_getElem?_getD, List.getElem?_eq_getElem hn]
    exact List.getElem_mem hn
   have HX := Aside0.mk (And.intro (HR.out.2.2.2 _ hmem) (And.intro (sumD_take l0 i.toNat hn) (And.intro hE (And.intro hn HR.out.2.2.1))))
   obtain ⟨k1, rfl⟩ : ∃ k, gk = k + 1 := ⟨gk - 1, by have := hi.out.2; omega⟩
   generalize rd_T77 l0 i = X at *
   have hwi : wrap64 (i + 1) = i + 1 := by
    have := HR.out.2.2.1
    exact w64 (by omega) (by omega)
   have HW := Aside0.mk (And.intro hwi (And.intro (show 0 ≤ i + 1 ∧ i + 1 + (k1 : Int) = l0.length by have := hi.out.2; omega) (show (i + 1).toNat = i.toNat + 1 by omega)))
   replace p0 := eq_true p0
   replace hlt := eq_true hlt
   clear hE hmem hn hwi hi
   go_wp2_with fail
   have hb1 := below_alloc (Below.refl wr.heap.size wr) (edO X.f0 X.f1 X.f2 X.f3)
   refine (newInt_n X.f0 _ (HX.out.2.2.1 ▸ HX.out.1.lo) (HX.out.2.2.1 ▸ HX.out.1.hi)).mono ?_
   rintro e w3 ⟨g3, hg3, rfl, hb3, hN3⟩
   have hb13 := hb1.trans (hb3.mono hb1.size)
   have H3 := Aside0.mk (And.intro (hN.out.below hb13) (And.intro hN3 (hB.out.trans (hb13.mono hB.out.size))))
   clear hb1 hb3 hN3 hg3 hb13 q0 q1 q2 q3
   go_wp2_with fail
   refine (add_n w.heap.size 0 w.heap.size 0 g3 0 (sumD (l0.take i.toNat)) X.f0 (i.toNat + 3) 2 w3 H3.out.1.room H3.out.1 H3.out.2.1.w (by have := HX.out.2.2.2; omega)).mono ?_
   rintro e w4 ⟨rfl, hw4, hN4⟩
   have H4 := Aside0.mk (And.intro (show IsN w4 w.heap.size 0 (sumD (l0.take (i + 1).toNat)) ((i + 1).toNat + 3) by
    rw [HW.out.2.2, HX.out.2.1, ← HX.out.2.2.1]
    exact hN4.mono (by omega)) (H3.out.2.2.trans (hw4.below (Nat.le_refl _) H3.out.2.2.size)))
   clear hw4 hN4
   go_wp2_with fail
   go_roundg k1
   case measure => omega
   case rel => exact ⟨i + 1, by rw [HW.out.1], ⟨HW.out.2.1⟩, ⟨H4.out.1⟩, ⟨H4.out.2⟩⟩
  ·have hlb : decide (i < (l0.length : Int)) = false := decide_eq_false hlt
   have hS : sumD (l0.take i.toNat) = sumD l0 := by rw [List.take_of_length_le (by have := hi.out; omega)]
   have HN := Aside0.mk (And.intro (show IsN wr w.heap.size 0 (sumD l0) (i.toNat + 3) from hS ▸ hN.out) (show i.toNat ≤ 100 by have := hi.out; have := HR.out.2.2.1; omega))
   replace hlt := eq_false hlt
   clear hN hi hS
   go_wp2_with fail
   refine (signI_n w.heap.size 0 (sumD l0) _ wr HN.out.1).mono ?_
   rintro e w2 ⟨rfl, hb2⟩
   have H2 := Aside0.mk (And.intro (HN.out.1.below hb2) (hB.out.trans (hb2.mono hB.out.size)))
   clear hb2
   by_cases hneg : sumD l0 < 0
   ·rw [cmp_lt hneg]
    have HV2 := Aside0.mk (show V = 0 by rw [HV.out, if_pos hneg])
    clear hneg HV
    go_wp2_with fail
    go_ret
    exact ⟨ret_i HV2.out.symm, H2.out.2⟩
   ·obtain ⟨c, hc, ec⟩ := cmp_ge hneg
    rw [ec]
    have HV2 := Aside0.mk (show V = if 1099511627776 < sumD l0 then 0 else sumD l0 by rw [HV.out, if_neg hneg])
    have HP := Aside0.mk (show 0 ≤ sumD l0 by omega)
    clear hneg HV ec
    go_wp2_with fail
    refine (newInt_n 1099511627776 w2 (by decide) (by decide)).mono ?_
    rintro e w3 ⟨g3, hg3, rfl, hb3, hN3⟩
    have H3 := Aside0.mk (And.intro (H2.out.1.below hb3) (And.intro hN3 (H2.out.2.trans (hb3.mono H2.out.2.size))))
    clear hb3 hN3 hg3
    go_wp2_with fail
    refine (cmp_n w.heap.size 0 g3 0 (sumD l0) 1099511627776 _ 2 w3 H3.out.1 H3.out.2.1 (by have := HN.out.2; omega)).mono ?_
    rintro e w4 ⟨rfl, hb4⟩
    have H4 := Aside0.mk (And.intro (H3.out.1.below hb4) (H3.out.2.2.trans (hb4.mono H3.out.2.2.size)))
    clear hb4
    by_cases hbig : 1099511627776 < sumD l0
    ·rw [cmp_gt hbig]
     have HV3 := Aside0.mk (show V = 0 by rw [HV2.out, if_pos hbig])
     clear hbig HV2
     go_wp2_with fail
     go_ret
     exact ⟨ret_i HV3.out.symm, H4.out.2⟩
    ·obtain ⟨c2, hc2, ec2⟩ := cmp_le hbig
     rw [ec2]
     have HV3 := Aside0.mk (show V = sumD l0 by rw [HV2.out, if_neg hbig])
     have HL := Aside0.mk (show sumD l0 ≤ 1099511627776 by omega)
     clear hbig HV2 ec2
     go_wp2_with fail
     refine (int64_n w.heap.size 0 (sumD l0) _ w4 H4.out.1 (by have := HP.out; omega) (by have := HL.out; omega) (by have := HN.out.2; omega)).mono ?_
     rintro e w5 ⟨rfl, hb5⟩
     have H5 := Aside0.mk (H4.out.2.trans (hb5.mono H4.out.2.size))
     clear hb5
     go_wp2_with fail
     go_ret
     exact ⟨ret_i HV3.out.symm, H5.out⟩
def S2 (w0 : World) (p : Rat) (g1 : Nat) (q : Rat) (g2 : Nat) (w : World) : Prop := Below w0.heap.size w0 w ∧ (RQ w g1 p 2 ∧ RQ w g2 q 2)
end Go.Proofs.Ytpbhepdgamoiaaa.E
namespace Go.Proofs.Ytpbhepdgamoiaaa.Oe
open Go.ChangeShapes Go.WideShapes Go.ChangeAt Go.RowKit Go.Joins Go.Deep Go.Proofs.YtpbhepdgamoiaaaW.PrintWords Go.Proofs.YtpbhepdgamoiaaaW.PrintLast Go.Proofs.YtpbhepdgamoiaaaW.PrintMore Go.Proofs.Ytpbhepdgamoiaaa.E
set_option linter.unusedVariables false
theorem laidOut : laidOutB Try.prog = true := by kernel_rfl
theorem own : ownKnob Try.prog.godebug = none := by kernel_rfl
section
variable {H : Type} {enc : TypeId × Value → H} {w : World} {base : Nat} {spare : Nat → Bool} {held : Bool}
theorem one_int {n : Nat} {v : Value} {y : DataW H × List MemPlace} (h : DataW.trod enc Try.prog w base spare held n 3 [v] = some y) : ∃ z, v = .int .i64 z ∧ (Lit.int .i64 z).wf = true := by
 obtain ⟨z, hz, _, hw⟩ := DataW.trod_int Try.underlying3 h
 simp only [List.cons.injEq, and_true] at hz
 exact ⟨z, hz, hw⟩
structure WfE (x : S77) : Prop where
 d : (Lit.int .i64 x.f0).wf = true
 m : (Lit.int .i64 x.f1).wf = true
 n : (Lit.int .i64 x.f2).wf = true
 e : (Lit.int .i64 x.f3).wf = true
theorem four {α : Type} {l : List α} (h : l.length = 4) : ∃ a b c d, l = [a, b, c, d] := by
 match l, h with
 | [a, b, c, d], _ => exact ⟨a, b, c, d, rfl⟩
set_option maxRecDepth 100000 in
theorem one_edit {n : Nat} {cs : List Value} {y : DataW H × List MemPlace} (h : DataW.trod enc Try.prog w base spare held n 77 cs = some y) : ∃ x : S77, cs = [.int .i64 x.f0, .int .i64 x.f1, .int .i64 x.f2, .int .i64 x.f3] ∧ WfE x := by
 obtain ⟨xs, k, _, hx, hl, hlen, hg⟩ := DataW.trod_struct Try.underlying77 h
 obtain ⟨a, b, c, d, rfl⟩ := four (hl.trans (by kernel_rfl : Try.prog.cellsOf 77 = 4))
 obtain ⟨y0, y1, y2, y3, rfl⟩ := four hlen
 have h0 := hg 0 _ rfl
 have h1 := hg 1 _ rfl
 have h2 := hg 2 _ rfl
 have h3 := hg 3 _ rfl
 simp only [List.getElem?_cons_zero, List.getElem?_cons_succ] at h0 h1 h2 h3
 obtain ⟨z0, rfl, w0⟩ := one_int h0
 obtain ⟨z1, rfl, w1⟩ := one_int h1
 obtain ⟨z2, rfl, w2⟩ := one_int h2
 obtain ⟨z3, rfl, w3⟩ := one_int h3
 exact ⟨⟨z0, z1, z2, z3⟩, rfl, ⟨w0, w1, w2, w3⟩⟩
structure Eds (w : World) (a : Option Addr) (len cap : Nat) (l : List S77) : Prop where
 n : l.length = len
 c : Kd.C k77 w a l.length l
 h : l.length ≤ cap
 w : ∀ x ∈ l, WfE x
theorem list_of {α : Type} (P : Nat → α → Prop) (n : Nat) (h : ∀ i, i < n → ∃ x, P i x) : ∃ l : List α, l.length = n ∧ ∀ i x, l[i]? = some x → P i x := by
 induction n with
 | zero => exact ⟨[], rfl, by simp⟩
 | succ n ih =>
  obtain ⟨l, hl, hp⟩ := ih (fun i hi => h i (by omega))
  obtain ⟨x, hx⟩ := h n (by omega)
  refine ⟨l ++ [x], by simp [hl], fun i y hy => ?_⟩
  by_cases hi : i < l.length
  ·rw [List.getElem?_append_left hi] at hy
   exact hp i y hy
  ·have hi2 : i = l.length := by
    have := (List.getElem?_eq_some_iff.1 hy).1
    simp only [List.length_append, List.length_cons, List.length_nil] at this
    omega
   subst hi2
   simp only [Nat.le_refl, List.getElem?_append_right, Nat.sub_self, List.getElem?_cons_zero, Option.some.injEq] at hy
   subst hy
   rw [hl]
   exact hx
theorem slice_edits {n : Nat} {a : Option Addr} {len cap : Nat} {y : DataW H × List MemPlace} (h : DataW.trod enc Try.prog w base spare held n 22 [.slice a len cap] = some y) : ∃ l, Eds w a len cap l := by
 rcases open_slice Try.underlying22 h with ⟨hcs, _⟩ | ⟨x, l, c, m, k, D, Pl, hcs, _, hl, hm, hmm, _, hi⟩
 ·simp only [List.cons.injEq, and_true, Value.slice.injEq] at hcs
  obtain ⟨rfl, rfl, rfl⟩ := hcs
  exact ⟨[], rfl, Kd.C_nil _ _, Nat.le_refl _, by simp⟩
 ·simp only [List.cons.injEq, and_true, Value.slice.injEq] at hcs
  obtain ⟨rfl, rfl, rfl⟩ := hcs
  have hC : Try.prog.cellsOf 77 = 4 := by kernel_rfl
  have hlm : len ≤ m := by rw [hmm]; split <;> omega
  obtain ⟨L, hL, hp⟩ := list_of (fun i (z : S77) => (∀ j u, ([.int .i64 z.f0, .int .i64 z.f1, .int .i64 z.f2, .int .i64 z.f3] : List Value)[j]? = some u → w.cell? (x.add (i * 4 + j)) = some u) ∧ WfE z) len (fun i hlt => by
   obtain ⟨cs', hc, ht⟩ := hi i (by omega)
   obtain ⟨z, rfl, hw⟩ := one_edit ht
   rw [hC] at hc
   obtain ⟨_, _, hat⟩ := World.cells?_some hc
   refine ⟨z, fun j u hu => ?_, hw⟩
   have hj : j < 4 := (List.getElem?_eq_some_iff.1 hu).1
   have := hat j hj
   rw [← Go.Deep.add_add, this, hu])
  refine ⟨L, hL, ⟨rfl, by have := hm; unfold maxLen at this; omega, fun _ => ⟨x, rfl, fun j p hj => ⟨_, rfl, k77_mk w p, (hp j p hj).1⟩⟩⟩, by omega, fun z hz => ?_⟩
  obtain ⟨i, hi2, he⟩ := List.getElem_of_mem hz
  exact (hp i z (by rw [List.getElem?_eq_getElem hi2, he])).2
set_option maxRecDepth 100000 in
theorem open_edits {r : Reach} {b0 : Nat} {v : Value} {d : DataW H} {p : List MemPlace} (hv : Value.okWide Try.prog w r b0 22 v) (h : DataW.Trod enc Try.prog w base spare held 22 v d p) :
  ∃ a len cap l, v = .slice a len cap ∧ Eds w a len cap l := by
 obtain ⟨a, len, cap, rfl⟩ := okWide_slice Try.underlying22 hv
 obtain ⟨fuel, hf⟩ := h
 obtain ⟨l, hl⟩ := slice_edits (a := a) (len := len) (cap := cap) hf
 exact ⟨a, len, cap, l, rfl, hl⟩
set_option maxRecDepth 100000 in
theorem open_list {r : Reach} {b0 : Nat} {v : Value} {d : DataW H} {p : List MemPlace} (hv : Value.okWide Try.prog w r b0 24 v) (h : DataW.Trod enc Try.prog w base spare held 24 v d p) :
  ∃ a len cap l ms ts, v = .agg #[.slice a len cap, .int .i64 ms, .int .i64 ts] ∧ Eds w a len cap l ∧ (Lit.int .i64 ms).wf = true ∧ (Lit.int .i64 ts).wf = true := by
 obtain ⟨v0, v1, v2, y0, y1, y2, k, rfl, _, _, h0, h1, h2⟩ := open_agg3 Try.underlying24 (by kernel_rfl) (by kernel_rfl) hv h
 obtain ⟨ms, rfl, hm⟩ := one_int h1
 obtain ⟨ts, rfl, ht⟩ := one_int h2
 obtain ⟨a, len, cap, rfl⟩ : ∃ a len cap, v0 = .slice a len cap := by
  rcases open_slice Try.underlying22 h0 with ⟨hcs, _⟩ | ⟨x, l, c, m, k, D, Pl, hcs, _⟩
  ·simp only [List.cons.injEq, and_true] at hcs
   exact ⟨_, _, _, hcs⟩
  ·simp only [List.cons.injEq, and_true] at hcs
   exact ⟨_, _, _, hcs⟩
 obtain ⟨l, hl⟩ := slice_edits h0
 exact ⟨a, len, cap, l, ms, ts, rfl, hl, hm, ht⟩
set_option maxRecDepth 100000 in
theorem open_time {r : Reach} {b0 : Nat} {v : Value} {d : DataW H} {p : List MemPlace} (hv : Value.okWide Try.prog w r b0 37 v) (h : DataW.Trod enc Try.prog w base spare held 37 v d p) :
  ∃ n m : Int, v = .agg #[.int .i64 n, .int .i64 m] ∧ (Lit.int .i64 n).wf = true ∧ (Lit.int .i64 m).wf = true := by
 obtain ⟨v0, v1, y0, y1, k, rfl, _, _, h0, h1⟩ := open_agg2 Try.underlying37 (by kernel_rfl) (by kernel_rfl) hv h
 obtain ⟨n, rfl, hn⟩ := one_int h0
 obtain ⟨m, rfl, hm⟩ := one_int h1
 exact ⟨n, m, rfl, hn, hm⟩
theorem len2 {α : Type} {l : List α} (h : l.length = 2) : ∃ a b, l = [a, b] := by
 match l, h with
 | [a, b], _ => exact ⟨a, b, rfl⟩
set_option maxRecDepth 100000 in
end
theorem in64_wf {x : Int} (h : (Lit.int .i64 x).wf = true) : in64 x = true := by
 unfold in64
 rw [← h]
 first | rfl | (simp [Lit.wf, IntKind.wf]; done) | (unfold Lit.wf; simp; done)
end Go.Proofs.Ytpbhepdgamoiaaa.Oe
namespace Go.Proofs.Ytpbhepdgamoiaaa.E
open Go.Proofs.Ytpbhepdgamoiaaa.Z Go.RowKit Go.Proofs.YtpbhepdgamoiaaaW.PrintWords Go.Proofs.YtpbhepdgamoiaaaW.PrintLast Go.Proofs.YtpbhepdgamoiaaaW.PrintMore
attribute [local go_sem] max2_int min2_int max_two min_two max_three min_three max_four min_four
set_option linter.unusedVariables false
set_option linter.unusedSimpArgs false
theorem eqA77 (d : Nat) (w : World) (x0 y0 : Int) (x1 y1 : Int) (x2 y2 : Int) (x3 y3 : Int) :
  (Op.equalIn (d + 2) 77 (.agg #[.int .i64 x0, .int .i64 x1, .int .i64 x2, .int .i64 x3]) (.agg #[.int .i64 y0, .int .i64 y1, .int .i64 y2, .int .i64 y3])).run Try.prog w = .ok (x0 == y0 && (x1 == y1 && (x2 == y2 && (x3 == y3)))) w := by
 refine eqA_of Try.underlying77 (by kernel_rfl) ?_
 refine eqf_cons (by rfl) (by go_simp; rfl) (by go_simp; rfl) (by go_simp) ?_
 refine eqf_cons (by rfl) (by go_simp; rfl) (by go_simp; rfl) (by go_simp) ?_
 refine eqf_cons (by rfl) (by go_simp; rfl) (by go_simp; rfl) (by go_simp) ?_
 exact eqf_last (by rfl) (by go_simp; rfl) (by go_simp; rfl) (by go_simp)
end Go.Proofs.Ytpbhepdgamoiaaa.E

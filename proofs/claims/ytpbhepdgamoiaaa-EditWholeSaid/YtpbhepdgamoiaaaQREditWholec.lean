/-
  Fractions of package num: SetFrac brings two whole numbers to lowest terms. Fractions of package num as rational numbers: NewRat, Mul, Add, Sub, Cmp, IsInt. edit's rational numbers: ratio, mul, add, and the media tick behind an edit's begin. edit's lowest rate of an edit, what two edits have in common, and whether one goes over into the next. Lists of edits as plain values: the first error, the normal list, the length; and that the code tells them. Fractions of package num: Sub. edit's number of a time, time of a number, difference of numbers. edit.Media: the walk. The reference's lowest rate of an edit. edit's whole of a rational number that is not below 0. edit's lowest, over and Length, told as functions of numbers and lists.
-/
import Derived.Test.YtpbhepdgamoiaaaQREditWholeb
import Derived.Test.YtpbhepdgamoiaaaQREditWholeWEqStruct
import Derived.Outline
import Derived.Test.YtpbhepdgamoiaaaQREditWholea
import Derived.Test.YtpbhepdgamoiaaaProg
import Derived.Below
import Derived.Deep.Draws
import Derived.Deep.AppendLies
import Derived.Maps.AppendAt
import Derived.OwnWalk
import Derived.Laws.BytesArg
import Derived.Laws.MakeOwn
import Derived.Laws.OwnMore
import Derived.Deep.OwnRows
import Derived.Tactics
import Derived.Lib.ConvBytes
import Derived.Laws.Slices
import Derived.WalkKit
import Derived.KernelRfl
import Derived.RowKit3
import Derived.Deep.LoopGhost
import Derived.Deep.QuietTactic
import Derived.BigQuiet
import Derived.WideLaws
import Derived.Deep.DeepCutAuto
import Derived.Deep.CutBlock
import Derived.Deep.RegionHeld3
import Derived.Laws.Rows
import Derived.Lib.AppendStr
import Derived.ArgAppend
import Derived.Laws.IdiomCopy
import Derived.OrdersHeld
import Derived.Laws.BitsLemmas
import Derived.RowKit
import Derived.WalkMore
import Derived.Test.YtpbhepdgamoiaaaQREditWholeWWords
import Derived.Test.YtpbhepdgamoiaaaQREditWholeWLast
import Derived.Test.YtpbhepdgamoiaaaQREditWholeWTab
import Derived.Test.YtpbhepdgamoiaaaQREditWholeWQPut
import Derived.Test.YtpbhepdgamoiaaaQREditWholeWApart
import Derived.Test.YtpbhepdgamoiaaaQREditWholeWArr
import Derived.Test.YtpbhepdgamoiaaaQREditWholeWZeros
import Derived.Test.YtpbhepdgamoiaaaQREditWholeWFoot
import Derived.Test.YtpbhepdgamoiaaaQREditWholeWKept
import Derived.Test.YtpbhepdgamoiaaaQREditWholeWShare
import Derived.Test.YtpbhepdgamoiaaaQREditWholeWN
import Derived.Test.YtpbhepdgamoiaaaQREditWholeWFootNe
import Derived.Test.YtpbhepdgamoiaaaQREditWholeWAt
import Derived.Test.YtpbhepdgamoiaaaQREditWholeWRepsOne
import Derived.Test.YtpbhepdgamoiaaaQREditWholeWNEv
import Derived.Test.YtpbhepdgamoiaaaQREditWholeWMore
namespace Go.Proofs.Ytpbhepdgamoiaaa.Ra
open Go.RowKit Go Go.Proofs.YtpbhepdgamoiaaaW.PrintWords Go.Proofs.YtpbhepdgamoiaaaW.PrintLast Go.Proofs.YtpbhepdgamoiaaaW.PrintMore Go.Proofs.Ytpbhepdgamoiaaa.Ml Go.Proofs.Ytpbhepdgamoiaaa.Mn Go.Proofs.Ytpbhepdgamoiaaa.Nd Go.Proofs.Ytpbhepdgamoiaaa.Z Go.Proofs.Ytpbhepdgamoiaaa.P Go.Proofs.Ytpbhepdgamoiaaa.Nc Go.Proofs.Ytpbhepdgamoiaaa.Nb Go.Proofs.Ytpbhepdgamoiaaa.Da Go.Proofs.Ytpbhepdgamoiaaa.Qa Go.Proofs.Ytpbhepdgamoiaaa.Ea
set_option linter.unusedVariables false
set_option linter.unusedSimpArgs false
def ratN (n d : Int) : Int := if d < 0 then lowN (-n) (-d) else lowN n d
def ratD (n d : Int) : Int := if d < 0 then lowD (-n) (-d) else lowD n d
structure GcI (w0 w : World) (a b : Int) (n : Nat) (vg vr : Value) (k : Nat) : Prop where mk ::
 at_ : ∃ Ag cg lg Ar cr lr, vg = .slice Ag (List.length lg) cg ∧ vr = .slice Ar (List.length lr) cr ∧ lg.length ≤ cg ∧ lr.length ≤ cr ∧ Kd.C (Kd.int .u32) w Ag lg.length lg ∧ Kd.C (Kd.int .u32) w Ar lr.length lr ∧ Cn 4294967296 lg ∧ Cn 4294967296 lr ∧ lg.length ≤ n ∧ lr.length ≤ n ∧ Int.gcd (dv 4294967296 lg) (dv 4294967296 lr) = Int.gcd a b ∧ dv 4294967296 lr ≤ (k : Int)
 b : Below w0.heap.size w0 w
theorem dv_pos {l : List Int} (h : Cn 4294967296 l) (hl : l ≠ []) : 0 < dv 4294967296 l := by
 have h1 := dv_len (a := []) (by decide) (Dg.nil _) h (by cases l with | nil => exact absurd rfl hl | cons x t => simp)
 simpa only [dv] using h1
theorem gcd_step {x y q r : Int} (h : x = q * y + r) : Int.gcd y r = Int.gcd x y := by
 rw [h, Int.gcd_comm (q * y + r) y, Int.mul_comm]
 simp
theorem quo_exact {x g q r : Int} (hg : 0 < g) (hd : g ∣ x) (h0 : 0 ≤ r) (h1 : r < g) (h : x = q * g + r) : q = x / g := by
 have : x / g = q := by
  rw [h, Int.add_comm, Int.add_mul_ediv_right _ _ (by omega), Int.ediv_eq_zero_of_lt h0 h1]
  omega
 exact this.symm
theorem sg_quo {na nb : Bool} {a b A B G : Int} (ha : a = sg na A) (hb : b = sg nb B) (hA : 0 ≤ A) (hB : 0 < B) (hG : G = (Int.gcd a b : Nat)) : sg (!(na == nb)) (A / G) = ratN a b ∧ B / G = ratD a b := by
 have e : ∀ n : Int, Int.gcd (-n) b = Int.gcd n b := fun n => Int.neg_gcd
 have dA : G ∣ A := by
  have : G ∣ a := by rw [hG]; exact Int.gcd_dvd_left _ _
  rw [ha] at this
  cases na
  ·simpa [sg] using this
  ·simpa [sg] using this
 unfold ratN ratD lowN lowD
 cases nb with
 | true =>
  have hb' : b = -B := by simpa [sg] using hb
  rw [if_pos (by omega), if_pos (by omega)]
  rw [show Int.gcd (-a) (-b) = Int.gcd a b by rw [Int.neg_gcd, Int.gcd_neg], ← hG, hb', Int.neg_neg]
  cases na with
  | true =>
   have ha' : a = -A := by simpa [sg] using ha
   rw [ha', Int.neg_neg]
   exact ⟨rfl, rfl⟩
  | false =>
   have ha' : a = A := by simpa [sg] using ha
   rw [ha', Int.neg_ediv_of_dvd dA]
   exact ⟨rfl, rfl⟩
 | false =>
  have hb' : b = B := by simpa [sg] using hb
  rw [if_neg (by omega), if_neg (by omega), ← hG, hb']
  cases na with
  | true =>
   have ha' : a = -A := by simpa [sg] using ha
   rw [ha', Int.neg_ediv_of_dvd dA]
   exact ⟨rfl, rfl⟩
  | false =>
   have ha' : a = A := by simpa [sg] using ha
   rw [ha']
   exact ⟨rfl, rfl⟩
theorem sg_dvd {s : Bool} {x z g : Int} (h : z = sg s x) (hd : g ∣ z) : g ∣ x := by
 subst h
 cases s
 ·simpa [sg] using hd
 ·simpa [sg] using hd
def SfP (w : World) (gx : Nat) (a b : Int) (na nb B : Nat) (e : Ending) (w' : World) : Prop := e = .returned (.pointer (some ⟨gx, 0, none⟩)) ∧ Below B w w' ∧ IsN w' gx 0 (ratN a b) na ∧ IsN w' gx 2 (ratD a b) nb
theorem sg_bne (a b : Bool) : (a != b) = !(a == b) := by cases a <;> cases b <;> rfl
set_option maxHeartbeats 8000000 in
set_option maxRecDepth 100000 in
theorem setFrac_n (gx ga oa gb ob : Nat) (a b : Int) (na nb B : Nat) (w : World) (hx0 : Room w gx 0) (hx2 : Room w gx 2) (ha : IsN w ga oa a na) (hb : IsN w gb ob b nb) (hbp : b ≠ 0) (hl : na + nb ≤ 1000) (hB1 : B ≤ gx) :
  Calls Try.prog 156 #[.pointer (some ⟨gx, 0, none⟩), .pointer (some ⟨ga, oa, none⟩), .pointer (some ⟨gb, ob, none⟩)] w (SfP w gx a b na nb B) := by
 obtain ⟨nega, Aa, cca, la, sa, hca, ra, ca, hla, hza, qa⟩ := ha.open
 obtain ⟨negb, Ab, ccb, lb, sb, hcb, rb, cb, hlb, hzb, qb⟩ := hb.open
 have a1 := sa.cell1
 have b1 := sb.cell1
 have lgx := hx0.lt
 go_enter Try.func156, Try.ntmps156
 go_wp2_with fail
 refine start_ (n := 11) (S := fun w' => w'.cell? ⟨ga, oa + 1, none⟩ = some (.slice Aa la.length cca) ∧ w'.cell? ⟨gb, ob + 1, none⟩ = some (.slice Ab lb.length ccb)) (ds := []) (bs 11 0) (by kernel_rfl) rfl rfl ⟨a1, b1⟩ (fun hHeld => ?_)
 refine zP 0 16 11 1 ?_
 refine zP 1 17 11 3 ?_
 refine zP 2 18 11 7 ?_
 refine zP 5 21 11 39 ?_
 refine zP 6 22 11 103 ?_
 refine zP 7 23 11 231 ?_
 refine zT 3 19 11 239 hHeld ?_
 refine zT 8 24 11 495 hHeld ?_
 refine zN 4 (some 20) 11 511 (fun K hK => ?_)
 refine zG Try.func163 #[.slice Aa la.length cca] ?_
 with_reducible refine (clone_n Aa cca la w.drew hca (Kd.C_drew ra) (by omega)).mono ?_
 rintro e w2 ⟨v4, rfl, hM4, hb4⟩
 refine ⟨_, rfl, ?_⟩
 have hb4' := below_drew' hb4
 refine hK.out _ _ ⟨(sa.below hb4').cell1, (sb.below hb4').cell1⟩ (fun hHeld => ?_)
 clear hK K
 refine zM 20 ?_
 refine zP 9 7 11 1023 ?_
 refine zP 10 8 11 2047 ?_
 refine done_ (by kernel_rfl) ?_
 obtain ⟨A4, c4, rfl, hc4, r4⟩ := hM4
 have HI := Aside0.mk (show GcI w w2 a b (na + nb) (.slice A4 la.length c4) (.slice Ab lb.length ccb) (dv 4294967296 lb).toNat from
  ⟨⟨A4, c4, la, Ab, ccb, lb, rfl, rfl, hc4, hcb, r4, Kd.C_below rb hb4', ca, cb, by omega, by omega, by
   have p0 := dv_nonneg (by decide) ca.dg
   have p1 := dv_nonneg (by decide) cb.dg
   rw [hza, hzb]
   cases nega <;> cases negb <;> simp [sg, Int.neg_gcd, Int.gcd_neg], by have := dv_nonneg (by decide) cb.dg; omega⟩, hb4'⟩)
 have HH := Aside0.mk (And.intro ha (And.intro hb (And.intro hx0 hx2)))
 clear hHeld r4 hb4 hb4' hc4 a1 b1
 go_wp2_with fail
 go_loopg [7, 8] (dv 4294967296 lb).toNat (fun kq v7 v8 w' => Aside0 (GcI w w' a b (na + nb) v7 v8 kq))
 case atStart => exact HI
 case round =>
  clear HI
  obtain ⟨⟨⟨Ag, cg, lg, Ar, cr, lr, rfl, rfl, hcg, hcr, rg, rr, cag, car, hlg, hlr, hgc, hk⟩, hbw⟩⟩ := hrel
  by_cases hr : lr = []
  ·subst hr
   have hG : dv 4294967296 lg = (Int.gcd a b : Nat) := by
    have h0 := dv_nonneg (by decide) cag.dg
    rw [← hgc]
    simp only [dv, Int.gcd_zero]
    omega
   have hgp : 0 < dv 4294967296 lg := by
    have := Int.gcd_pos_of_ne_zero_right a hbp
    omega
   have hgn : lg ≠ [] := by rintro rfl; simp [dv] at hgp
   have sa' := sa.below hbw
   have sb' := sb.below hbw
   have a1 := sa'.cell1
   have b1 := sb'.cell1
   have RA := Aside0.mk (And.intro (Kd.C_below ra hbw) (And.intro (Kd.C_below rb hbw) rg))
   have HW := Aside0.mk (And.intro hbw (And.intro hG hgp))
   clear hbw hG hgp hgc hk rr rg
   go_wp2_with fail
   refine (divMag_n Aa cca la Ag cg lg wr hca RA.out.1 hcg RA.out.2.2 ca cag hgn (by omega) (by omega)).mono ?_
   rintro e w3 ⟨v0, v1, q1, r1, rfl, hq1, hr1, cq1, cr1, lq1, lr1, eq1, lt1, hb3⟩
   have a1' := (sa'.below hb3).cell1
   have b1' := (sb'.below hb3).cell1
   have K1 := Aside0.mk (And.intro hq1 (And.intro (quo_exact HW.out.2.2 (sg_dvd hza (HW.out.2.1 ▸ Int.gcd_dvd_left _ _)) (dv_nonneg (by decide) cr1.dg) lt1 eq1) hb3))
   clear hq1 hr1 cr1 lr1 eq1 lt1 a1 b1
   have hbw3 := HW.out.1.trans (hb3.mono HW.out.1.size)
   have HB3 := Aside0.mk hbw3
   go_wp2_with fail
   refine (divMag_n Ab ccb lb Ag cg lg w3 hcb (Kd.C_below RA.out.2.1 hb3) hcg (Kd.C_below RA.out.2.2 hb3) cb cag hgn (by omega) (by omega)).mono ?_
   rintro e w4 ⟨v2, v3, q2, r2, rfl, hq2, hr2, cq2, cr2, lq2, lr2, eq2, lt2, hb4⟩
   have hbw4 := hbw3.trans (hb4.mono hbw3.size)
   have sa4 := sa.below hbw4
   have sb4 := sb.below hbw4
   have a0 := sa4.cell0
   have b0 := sb4.cell0
   have K2 := Aside0.mk (And.intro hq2 (And.intro (quo_exact HW.out.2.2 (sg_dvd hzb (HW.out.2.1 ▸ Int.gcd_dvd_right _ _)) (dv_nonneg (by decide) cr2.dg) lt2 eq2) hb4))
   have HB4 := Aside0.mk hbw4
   clear hq2 hr2 cr2 lr2 eq2 lt2 a1' b1' hb3 hb4 hbw3 hbw4 sa' sb' HB3
   go_wp2_with fail
   refine start_ (n := 10) (S := fun w' => w'.cell? ⟨ga, oa, none⟩ = some (.bool nega) ∧ w'.cell? ⟨gb, ob, none⟩ = some (.bool negb)) (ds := []) (bs 10 0) (by kernel_rfl) rfl rfl ⟨a0, b0⟩ (fun hHeld => ?_)
   refine zP 0 54 10 1 ?_
   refine zP 1 55 10 3 ?_
   refine zP 2 56 10 7 ?_
   refine zP 4 58 10 23 ?_
   refine zP 5 59 10 55 ?_
   refine zP 6 60 10 119 ?_
   refine zT 3 57 10 127 hHeld ?_
   refine zT 7 61 10 255 hHeld ?_
   refine zP 8 62 10 511 ?_
   refine zP 9 15 10 1023 ?_
   refine done_ (by kernel_rfl) ?_
   have X := HH.out.2.2
   have hb5 : Below w4.heap.size w4 w4.drew := below_drew' (Below.refl _ _)
   have hbw5 := HB4.out.trans (hb5.mono HB4.out.size)
   go_wp2_with fail
   refine (set_n gx 0 v0 q1 (nega != negb) na w4.drew (X.1.below hbw5) ((K1.out.1.below K2.out.2.2).below hb5) cq1 (by omega)).mono ?_
   rintro e w6 ⟨rfl, hw6, hN6⟩
   have K3 := Aside0.mk (And.intro hw6 (And.intro hN6 (And.intro hbw5 ((K2.out.1.below hb5)))))
   clear hw6 hN6 hbw5 hb5 X
   go_wp2_with fail
   have hr2' : Room w6 gx 2 := by
    obtain ⟨n2, v2', h2⟩ := HH.out.2.2.2.below K3.out.2.2.1
    exact ⟨n2, v2', K3.out.1.slot h2 (.inr (by omega))⟩
   refine (set_n gx 2 v2 q2 false nb w6 hr2' (K3.out.1.mag (HH.out.2.2.1.below K3.out.2.2.1) K3.out.2.2.2) cq2 (by omega)).mono ?_
   rintro e w7 ⟨rfl, hw7, hN7⟩
   have K4 := Aside0.mk (And.intro hw7 hN7)
   clear hw7 hN7
   go_wp2_with fail
   go_ret
   have hsq := sg_quo hza hzb (dv_nonneg (by decide) ca.dg) (dv_pos cb (by rintro rfl; cases negb <;> simp [dv, sg] at hzb <;> exact hbp hzb)) HW.out.2.1
   rw [← K1.out.2.1, ← K2.out.2.1, ← sg_bne] at hsq
   have hs0 := K3.out.2.2.1.size
   refine ⟨rfl, ?_, hsq.1 ▸ K4.out.1.isN hr2' K3.out.2.1 (.inr (by omega)), hsq.2 ▸ K4.out.2⟩
   have hB : Below B w w4.drew := ⟨K3.out.2.2.1.os, K3.out.2.2.1.tape, K3.out.2.2.1.output, K3.out.2.2.1.size, fun i hi => K3.out.2.2.1.block i (by omega)⟩
   exact hB.trans ((K3.out.1.below hB1 (by omega)).trans (K4.out.1.below hB1 (by have := K3.out.1.size; omega)))
  ·cases gk with
   | zero =>
    exfalso
    have := dv_pos car hr
    omega
   | succ k1 =>
    have hpos : 0 < lr.length := by cases lr with | nil => exact absurd rfl hr | cons x t => simp
    have HW := Aside0.mk (And.intro hbw (And.intro hgc hk))
    have HR := Aside0.mk rr
    have HG := Aside0.mk rg
    clear hbw hgc hk rr rg
    go_wp2_with fail
    refine (divMag_n Ag cg lg Ar cr lr wr hcg HG.out hcr HR.out cag car hr (by omega) (by omega)).mono ?_
    rintro e w3 ⟨v0, v1, q1, r1, rfl, hq1, hr1, cq1, cr1, lq1, lr1, eq1, lt1, hb3⟩
    obtain ⟨A5, c5, rfl, hc5, r5⟩ := hr1
    have HW3 := Aside0.mk (HW.out.1.trans (hb3.mono HW.out.1.size))
    have HN := Aside0.mk (show GcI w w3 a b (na + nb) (.slice Ar lr.length cr) (.slice A5 r1.length c5) k1 from
     ⟨⟨Ar, cr, lr, A5, c5, r1, rfl, rfl, hcr, hc5, Kd.C_below HR.out hb3, r5, car, cr1, hlr, by omega, (gcd_step eq1).trans HW.out.2.1, by have := HW.out.2.2; omega⟩, HW3.out⟩)
    clear hq1 eq1 lt1 hb3 r5
    go_wp2_with fail
    go_roundg k1
    case measure => omega
    case rel => exact HN
theorem down_n (gx : Nat) (z : Int) (n : Nat) (w : World) (h : IsN w gx 2 z n) (hz : z ≠ 0) :
  Calls Try.prog 130 #[.pointer (some ⟨gx, 0, none⟩)] w (fun e w' => e = .returned (.pointer (some ⟨gx, 2, none⟩)) ∧ w = w') := by
 obtain ⟨neg, A, c, l, s, hc, r, cn, hl, hz2, q⟩ := h.open
 have a1 := s.cell1
 have hln : ((l.length : Int) == 0) = false := by
  cases l with
  | nil => exfalso; cases neg <;> simp [dv, sg] at hz2 <;> exact hz hz2
  | cons x t => simp; omega
 go_enter Try.func130, Try.ntmps130
 go_wp2_with fail
 go_ret
 exact ⟨rfl, rfl⟩
theorem denom_n (gx : Nat) (z : Int) (n : Nat) (w : World) (h : IsN w gx 2 z n) (hz : z ≠ 0) :
  Calls Try.prog 106 #[.pointer (some ⟨gx, 0, none⟩)] w (fun e w' => e = .returned (.pointer (some ⟨gx, 2, none⟩)) ∧ w = w') := by
 have HD := Aside0.mk (down_n gx z n w h hz)
 go_enter Try.func106, Try.ntmps106
 go_wp2_with fail
 refine HD.out.mono ?_
 rintro e w2 ⟨rfl, rfl⟩
 go_wp2_with fail
 go_ret
 exact ⟨rfl, rfl⟩
theorem num_n (gx : Nat) (w : World) :
  Calls Try.prog 105 #[.pointer (some ⟨gx, 0, none⟩)] w (fun e w' => e = .returned (.pointer (some ⟨gx, 0, none⟩)) ∧ w = w') := by
 go_enter Try.func105, Try.ntmps105
 go_wp2_with fail
 go_ret
 exact ⟨rfl, rfl⟩
end Go.Proofs.Ytpbhepdgamoiaaa.Ra
namespace Go.Proofs.Ytpbhepdgamoiaaa.Rf
open Go.RowKit Go Go.Proofs.YtpbhepdgamoiaaaW.PrintWords Go.Proofs.YtpbhepdgamoiaaaW.PrintLast Go.Proofs.YtpbhepdgamoiaaaW.PrintMore Go.Proofs.Ytpbhepdgamoiaaa.Ml Go.Proofs.Ytpbhepdgamoiaaa.Mn Go.Proofs.Ytpbhepdgamoiaaa.Nd Go.Proofs.Ytpbhepdgamoiaaa.Z Go.Proofs.Ytpbhepdgamoiaaa.P Go.Proofs.Ytpbhepdgamoiaaa.Nc Go.Proofs.Ytpbhepdgamoiaaa.Nb Go.Proofs.Ytpbhepdgamoiaaa.Qa Go.Proofs.Ytpbhepdgamoiaaa.Ea Go.Proofs.Ytpbhepdgamoiaaa.Ra
set_option linter.unusedVariables false
set_option linter.unusedSimpArgs false
def qq (a b : Int) : Rat := Rat.divInt a b
theorem rat_low {a b : Int} (hb : b ≠ 0) : ratN a b = (qq a b).num ∧ ratD a b = ((qq a b).den : Int) := by
 unfold qq ratN ratD lowN lowD
 rw [Rat.num_divInt, Rat.den_divInt, if_neg hb]
 rcases Int.lt_or_le b 0 with h | h
 ·rw [if_pos h, if_pos h, Int.sign_eq_neg_one_of_neg h, Int.neg_gcd, Int.gcd_neg, Int.gcd_comm b a]
  refine ⟨by rw [Int.neg_one_mul], ?_⟩
  rw [Int.natCast_ediv, Int.ofNat_natAbs_of_nonpos (by omega)]
 ·rw [if_neg (by omega), if_neg (by omega), Int.sign_eq_one_of_pos (by omega), Int.gcd_comm b a]
  refine ⟨by rw [Int.one_mul], ?_⟩
  rw [Int.natCast_ediv, Int.natAbs_of_nonneg h]
structure RQ (w : World) (g : Nat) (q : Rat) (n : Nat) : Prop where
 num : IsN w g 0 q.num n
 den : IsN w g 2 (q.den : Int) n
theorem RQ.below {w w' : World} {g : Nat} {q : Rat} {n : Nat} (h : RQ w g q n) (hb : Below w.heap.size w w') : RQ w' g q n := ⟨h.num.below hb, h.den.below hb⟩
theorem RQ.mono {w : World} {g : Nat} {q : Rat} {n m : Nat} (h : RQ w g q n) (hm : n ≤ m) : RQ w g q m := ⟨h.num.mono hm, h.den.mono hm⟩
theorem RQ.lt {w : World} {g : Nat} {q : Rat} {n : Nat} (h : RQ w g q n) : g < w.heap.size := h.num.lt
theorem den0 (q : Rat) : ((q.den : Int)) ≠ 0 := by have := q.den_pos; omega
theorem qq_mul (p q : Rat) : qq (p.num * q.num) ((p.den : Int) * (q.den : Int)) = p * q := by
 unfold qq
 rw [← Rat.divInt_mul_divInt, Rat.num_divInt_den, Rat.num_divInt_den]
theorem qq_add (p q : Rat) : qq (p.num * (q.den : Int) + q.num * (p.den : Int)) ((p.den : Int) * (q.den : Int)) = p + q := by
 unfold qq
 rw [← Rat.divInt_add_divInt _ _ (den0 p) (den0 q), Rat.num_divInt_den, Rat.num_divInt_den]
def cmpQ (p q : Rat) : Int := if p < q then -1 else if q < p then 1 else 0
theorem cmp_q (p q : Rat) : cmpI (p.num * (q.den : Int)) (q.num * (p.den : Int)) = cmpQ p q := by
 unfold cmpI cmpQ
 simp only [Rat.lt_iff]
def QP (w : World) (q : Rat) (n : Nat) (e : Ending) (w' : World) : Prop := ∃ g, w.heap.size ≤ g ∧ e = .returned (.pointer (some ⟨g, 0, none⟩)) ∧ Below w.heap.size w w' ∧ RQ w' g q n
def QS (w : World) (g : Nat) (q : Rat) (n B : Nat) (e : Ending) (w' : World) : Prop := e = .returned (.pointer (some ⟨g, 0, none⟩)) ∧ Below B w w' ∧ RQ w' g q n
theorem setQ_n (gx ga oa gb ob : Nat) (a b : Int) (n B : Nat) (w : World) (hx0 : Room w gx 0) (hx2 : Room w gx 2) (ha : IsN w ga oa a n) (hb : IsN w gb ob b n) (hbp : b ≠ 0) (hl : n ≤ 500) (hB1 : B ≤ gx) :
  Calls Try.prog 156 #[.pointer (some ⟨gx, 0, none⟩), .pointer (some ⟨ga, oa, none⟩), .pointer (some ⟨gb, ob, none⟩)] w (QS w gx (qq a b) n B) :=
 (setFrac_n gx ga oa gb ob a b n n B w hx0 hx2 ha hb hbp (by omega) hB1).mono fun e w' ⟨h1, h2, h3, h4⟩ => ⟨h1, h2, (rat_low hbp).1 ▸ h3, (rat_low hbp).2 ▸ h4⟩
theorem room_rat0 (w : World) : Room (w.alloc (.cells #[.bool false, .slice none 0 0, .bool false, .slice none 0 0] 138)) w.heap.size 0 :=
 ⟨false, .slice none 0 0, ⟨_, 138, blk_new w _, ⟨none, 0, 0, rfl⟩, rfl, rfl⟩⟩
theorem room_rat2 (w : World) : Room (w.alloc (.cells #[.bool false, .slice none 0 0, .bool false, .slice none 0 0] 138)) w.heap.size 2 :=
 ⟨false, .slice none 0 0, ⟨_, 138, blk_new w _, ⟨none, 0, 0, rfl⟩, rfl, rfl⟩⟩
set_option maxHeartbeats 2000000 in
theorem prod_n (ga oa gb ob : Nat) (a b : Int) (na nb : Nat) (w : World) (ha : IsN w ga oa a na) (hb : IsN w gb ob b nb) (hl : na + nb ≤ 1000) :
  Calls Try.prog 129 #[.pointer (some ⟨ga, oa, none⟩), .pointer (some ⟨gb, ob, none⟩)] w (NewP w (a * b) (na + nb)) := by
 have hb1 : Below w.heap.size w (w.alloc (.cells #[.bool false, .slice none 0 0] 86)) := below_alloc (Below.refl _ w) _
 have HM := Aside0.mk (mul_n w.heap.size 0 ga oa gb ob a b na nb _ (room_new w) (ha.below hb1) (hb.below hb1) hl)
 have HB := Aside0.mk hb1
 clear ha hb hb1
 go_enter Try.func129, Try.ntmps129
 go_wp2_with fail
 refine HM.out.mono ?_
 rintro e w2 ⟨rfl, hw, hN⟩
 have H := Aside0.mk (And.intro hw hN)
 clear hw hN
 go_wp2_with fail
 go_ret
 exact ⟨_, Nat.le_refl _, rfl, HB.out.trans (H.out.1.below (Nat.le_refl _) HB.out.size), H.out.2⟩
set_option maxHeartbeats 4000000 in
theorem newRat_n (a b : Int) (w : World) (a0 : -9223372036854775808 ≤ a) (a1 : a ≤ 9223372036854775807) (b0 : -9223372036854775808 ≤ b) (b1 : b ≤ 9223372036854775807) (hb : b ≠ 0) :
  Calls Try.prog 128 #[.int .i64 a, .int .i64 b] w (QP w (qq a b) 2) := by
 have hb1 : Below w.heap.size w (w.alloc (.cells #[.bool false, .slice none 0 0, .bool false, .slice none 0 0] 138)) := below_alloc (Below.refl _ w) _
 have HR := Aside0.mk (And.intro (room_rat0 w) (And.intro (room_rat2 w) hb1))
 have HA := Aside0.mk (And.intro (And.intro a0 a1) (And.intro (And.intro b0 b1) hb))
 clear a0 a1 b0 b1 hb hb1
 go_enter Try.func128, Try.ntmps128
 go_wp2_with fail
 generalize hW : w.alloc (.cells #[.bool false, .slice none 0 0, .bool false, .slice none 0 0] 138) = W at *
 refine (newInt_n a W HA.out.1.1 HA.out.1.2).mono ?_
 rintro e w2 ⟨g2, hg2, rfl, hb2, hN2⟩
 have H2 := Aside0.mk (And.intro hb2 hN2)
 clear hb2 hN2
 go_wp2_with fail
 refine (newInt_n b w2 HA.out.2.1.1 HA.out.2.1.2).mono ?_
 rintro e w3 ⟨g3, hg3, rfl, hb3, hN3⟩
 have H3 := Aside0.mk (And.intro hb3 hN3)
 clear hb3 hN3
 go_wp2_with fail
 refine (setQ_n w.heap.size g2 0 g3 0 a b 2 w.heap.size w3 ((HR.out.1.below H2.out.1).below H3.out.1) ((HR.out.2.1.below H2.out.1).below H3.out.1) (H2.out.2.below H3.out.1) H3.out.2 HA.out.2.2 (by omega) (Nat.le_refl _)).mono ?_
 rintro e w4 ⟨rfl, hb4, hQ⟩
 have H4 := Aside0.mk (And.intro hb4 hQ)
 clear hb4 hQ
 go_wp2_with fail
 go_ret
 have s1 := HR.out.2.2.size
 have s2 := H2.out.1.size
 exact ⟨_, Nat.le_refl _, rfl, HR.out.2.2.trans ((H2.out.1.mono s1).trans ((H3.out.1.mono (by omega)).trans H4.out.1)), H4.out.2⟩
set_option maxHeartbeats 4000000 in
set_option maxRecDepth 100000 in
theorem mulQ_n (gx gy gz : Nat) (p q : Rat) (n m B : Nat) (w : World) (hx0 : Room w gx 0) (hx2 : Room w gx 2) (hy : RQ w gy p n) (hz : RQ w gz q m) (hl : n + m ≤ 400) (hB : B ≤ gx) :
  Calls Try.prog 127 #[.pointer (some ⟨gx, 0, none⟩), .pointer (some ⟨gy, 0, none⟩), .pointer (some ⟨gz, 0, none⟩)] w (QS w gx (p * q) (n + m) B) := by
 have HX := Aside0.mk (And.intro (And.intro hx0 hx2) (And.intro hy hz))
 have hgx := hx0.lt
 clear hx0 hx2 hy hz
 go_enter Try.func127, Try.ntmps127
 go_wp2_with fail
 have hb0 : Below w.heap.size w w.drew := below_drew' (Below.refl _ _)
 refine start_ (n := 15) (S := fun w' => True) (ds := []) (bs 15 0) (by kernel_rfl) rfl rfl trivial (fun hHeld => ?_)
 refine zP 0 7 15 1 ?_
 refine zP 1 8 15 3 ?_
 refine zP 2 9 15 7 ?_
 refine zP 3 10 15 15 ?_
 refine zP 4 11 15 31 ?_
 refine zP 5 12 15 63 ?_
 refine zP 6 13 15 127 ?_
 refine zP 8 15 15 383 ?_
 refine zP 10 17 15 1407 ?_
 refine zN 7 (some 14) 15 1535 (fun K hK => ?_)
 refine zG Try.func129 #[.pointer (some ⟨gy, 0, none⟩), .pointer (some ⟨gz, 0, none⟩)] ?_
 with_reducible refine (prod_n gy 0 gz 0 p.num q.num n m w.drew (HX.out.2.1.num.below hb0) (HX.out.2.2.num.below hb0) (by omega)).mono ?_
 rintro e w4 ⟨g4, hg4, rfl, hb4, hN4⟩
 refine ⟨_, rfl, ?_⟩
 have hb4' := below_drew' hb4
 have H4 := Aside0.mk (And.intro hb4' hN4)
 clear hb4 hN4 hb4'
 refine hK.out _ _ trivial (fun hHeld => ?_)
 clear hK K
 refine zM 14 ?_
 refine zN 9 (some 16) 15 2047 (fun K hK => ?_)
 refine zG Try.func130 #[.pointer (some ⟨gy, 0, none⟩)] ?_
 with_reducible refine (down_n gy _ n w4 (HX.out.2.1.den.below H4.out.1) (den0 p)).mono ?_
 rintro e w5 ⟨rfl, rfl⟩
 refine ⟨_, rfl, ?_⟩
 refine hK.out _ _ trivial (fun hHeld => ?_)
 clear hK K
 refine zM 16 ?_
 refine zN 11 (some 18) 15 4095 (fun K hK => ?_)
 refine zG Try.func130 #[.pointer (some ⟨gz, 0, none⟩)] ?_
 with_reducible refine (down_n gz _ m w4 (HX.out.2.2.den.below H4.out.1) (den0 q)).mono ?_
 rintro e w5 ⟨rfl, rfl⟩
 refine ⟨_, rfl, ?_⟩
 refine hK.out _ _ trivial (fun hHeld => ?_)
 clear hK K
 refine zM 18 ?_
 refine zN 12 (some 19) 15 8191 (fun K hK => ?_)
 refine zG Try.func129 #[.pointer (some ⟨gy, 2, none⟩), .pointer (some ⟨gz, 2, none⟩)] ?_
 with_reducible refine (prod_n gy 2 gz 2 p.den q.den n m w4 (HX.out.2.1.den.below H4.out.1) (HX.out.2.2.den.below H4.out.1) (by omega)).mono ?_
 rintro e w5 ⟨g5, hg5, rfl, hb5, hN5⟩
 refine ⟨_, rfl, ?_⟩
 have H5 := Aside0.mk (And.intro (H4.out.1.trans (hb5.mono H4.out.1.size)) (And.intro (H4.out.2.below hb5) hN5))
 clear hb5 hN5
 refine hK.out _ _ trivial (fun hHeld => ?_)
 clear hK K
 refine zM 19 ?_
 refine zN 13 (some 20) 15 16383 (fun K hK => ?_)
 refine zG Try.func156 #[.pointer (some ⟨gx, 0, none⟩), .pointer (some ⟨g4, 0, none⟩), .pointer (some ⟨g5, 0, none⟩)] ?_
 with_reducible refine (setQ_n gx g4 0 g5 0 (p.num * q.num) ((p.den : Int) * (q.den : Int)) (n + m) B w5 (HX.out.1.1.below H5.out.1) (HX.out.1.2.below H5.out.1) H5.out.2.1 H5.out.2.2 (Int.mul_ne_zero (den0 p) (den0 q)) (by omega) hB).mono ?_
 rintro e w6 ⟨rfl, hb6, hQ6⟩
 refine ⟨_, rfl, ?_⟩
 rw [qq_mul] at hQ6
 have H6 := Aside0.mk (And.intro hb6 hQ6)
 clear hb6 hQ6
 refine hK.out _ _ trivial (fun hHeld => ?_)
 clear hK K
 refine zM 20 ?_
 refine zP 14 6 15 32767 ?_
 refine done_ (by kernel_rfl) ?_
 go_wp2_with fail
 go_ret
 exact ⟨rfl, (H5.out.1.mono (by omega)).trans H6.out.1, H6.out.2⟩
set_option maxHeartbeats 4000000 in
set_option maxRecDepth 100000 in
theorem addQ_n (gx gy gz : Nat) (p q : Rat) (n m B : Nat) (w : World) (hx0 : Room w gx 0) (hx2 : Room w gx 2) (hy : RQ w gy p n) (hz : RQ w gz q m) (hl : n + m ≤ 400) (hB : B ≤ gx) :
  Calls Try.prog 131 #[.pointer (some ⟨gx, 0, none⟩), .pointer (some ⟨gy, 0, none⟩), .pointer (some ⟨gz, 0, none⟩)] w (QS w gx (p + q) (n + m + 1) B) := by
 have HX := Aside0.mk (And.intro (And.intro hx0 hx2) (And.intro hy hz))
 have hgx := hx0.lt
 clear hx0 hx2 hy hz
 go_enter Try.func131, Try.ntmps131
 go_wp2_with fail
 have hb0 : Below w.heap.size w w.drew := below_drew' (Below.refl _ _)
 refine start_ (n := 7) (S := fun w' => True) (ds := []) (bs 7 0) (by kernel_rfl) rfl rfl trivial (fun hHeld => ?_)
 refine zP 0 8 7 1 ?_
 refine zP 1 9 7 3 ?_
 refine zP 2 10 7 7 ?_
 refine zP 3 11 7 15 ?_
 refine zN 4 (some 12) 7 31 (fun K hK => ?_)
 refine zG Try.func130 #[.pointer (some ⟨gz, 0, none⟩)] ?_
 with_reducible refine (down_n gz _ m w.drew (HX.out.2.2.den.below hb0) (den0 q)).mono ?_
 rintro e w4 ⟨rfl, rfl⟩
 refine ⟨_, rfl, ?_⟩
 refine hK.out _ _ trivial (fun hHeld => ?_)
 clear hK K
 refine zM 12 ?_
 refine zN 5 (some 13) 7 63 (fun K hK => ?_)
 refine zG Try.func129 #[.pointer (some ⟨gy, 0, none⟩), .pointer (some ⟨gz, 2, none⟩)] ?_
 with_reducible refine (prod_n gy 0 gz 2 p.num q.den n m w.drew (HX.out.2.1.num.below hb0) (HX.out.2.2.den.below hb0) (by omega)).mono ?_
 rintro e w4 ⟨g4, hg4, rfl, hb4, hN4⟩
 refine ⟨_, rfl, ?_⟩
 have hb4' := below_drew' hb4
 have H4 := Aside0.mk (And.intro hb4' hN4)
 have hg4' : w.heap.size ≤ g4 := hg4
 clear hb4 hN4 hb4' hg4
 refine hK.out _ _ trivial (fun hHeld => ?_)
 clear hK K
 refine zM 13 ?_
 refine zP 6 7 7 127 ?_
 refine done_ (by kernel_rfl) ?_
 go_wp2_with fail
 have hb1 : Below w4.heap.size w4 w4.drew := below_drew' (Below.refl _ _)
 have hbw := H4.out.1.trans (hb1.mono H4.out.1.size)
 have K4 := Aside0.mk (And.intro hbw (H4.out.2.below hb1))
 have hlt4 := H4.out.2.lt
 clear hb0 hb1 hbw
 refine start_ (n := 9) (S := fun w' => True) (ds := []) (bs 9 0) (by kernel_rfl) rfl rfl trivial (fun hHeld => ?_)
 refine zP 0 14 9 1 ?_
 refine zP 1 15 9 3 ?_
 refine zP 2 16 9 7 ?_
 refine zP 3 17 9 15 ?_
 refine zP 4 18 9 31 ?_
 refine zP 5 19 9 63 ?_
 refine zN 6 (some 20) 9 127 (fun K hK => ?_)
 refine zG Try.func130 #[.pointer (some ⟨gy, 0, none⟩)] ?_
 with_reducible refine (down_n gy _ n w4.drew (HX.out.2.1.den.below K4.out.1) (den0 p)).mono ?_
 rintro e w5 ⟨rfl, rfl⟩
 refine ⟨_, rfl, ?_⟩
 refine hK.out _ _ trivial (fun hHeld => ?_)
 clear hK K
 refine zM 20 ?_
 refine zN 7 (some 21) 9 255 (fun K hK => ?_)
 refine zG Try.func129 #[.pointer (some ⟨gz, 0, none⟩), .pointer (some ⟨gy, 2, none⟩)] ?_
 with_reducible refine (prod_n gz 0 gy 2 q.num p.den m n w4.drew (HX.out.2.2.num.below K4.out.1) (HX.out.2.1.den.below K4.out.1) (by omega)).mono ?_
 rintro e w5 ⟨g5, hg5, rfl, hb5, hN5⟩
 refine ⟨_, rfl, ?_⟩
 have H5 := Aside0.mk (And.intro (K4.out.1.trans (hb5.mono K4.out.1.size)) (And.intro (K4.out.2.below hb5) hN5))
 clear hb5 hN5
 refine hK.out _ _ trivial (fun hHeld => ?_)
 clear hK K
 refine zM 21 ?_
 refine zN 8 (some 22) 9 511 (fun K hK => ?_)
 refine zG Try.func63 #[.pointer (some ⟨g4, 0, none⟩), .pointer (some ⟨g4, 0, none⟩), .pointer (some ⟨g5, 0, none⟩)] ?_
 with_reducible refine (add_n g4 0 g4 0 g5 0 (p.num * (q.den : Int)) (q.num * (p.den : Int)) (n + m) (m + n) w5 H5.out.2.1.room H5.out.2.1 H5.out.2.2.w (by omega)).mono ?_
 rintro e w6 ⟨rfl, hw6, hN6⟩
 refine ⟨_, rfl, ?_⟩
 have H6 := Aside0.mk (And.intro (show Below w.heap.size w w6 from H5.out.1.trans (hw6.below hg4' H5.out.1.size)) (hN6.mono (m := n + m + 1) (by omega)))
 clear hw6 hN6
 refine hK.out _ _ trivial (fun hHeld => ?_)
 clear hK K
 refine zM 22 ?_
 refine done_ (by kernel_rfl) ?_
 go_wp2_with fail
 refine (down_n gy _ n w6 (HX.out.2.1.den.below H6.out.1) (den0 p)).mono ?_
 rintro e w7 ⟨rfl, rfl⟩
 go_wp2_with fail
 refine (down_n gz _ m w6 (HX.out.2.2.den.below H6.out.1) (den0 q)).mono ?_
 rintro e w7 ⟨rfl, rfl⟩
 go_wp2_with fail
 refine (prod_n gy 2 gz 2 p.den q.den n m w6 (HX.out.2.1.den.below H6.out.1) (HX.out.2.2.den.below H6.out.1) (by omega)).mono ?_
 rintro e w7 ⟨g7, hg7, rfl, hb7, hN7⟩
 have H7 := Aside0.mk (And.intro (H6.out.1.trans (hb7.mono H6.out.1.size)) (And.intro (H6.out.2.below hb7) hN7))
 clear hb7 hN7
 go_wp2_with fail
 refine (setQ_n gx g4 0 g7 0 (p.num * (q.den : Int) + q.num * (p.den : Int)) ((p.den : Int) * (q.den : Int)) (n + m + 1) B w7 (HX.out.1.1.below H7.out.1) (HX.out.1.2.below H7.out.1) H7.out.2.1 (H7.out.2.2.mono (by omega)) (Int.mul_ne_zero (den0 p) (den0 q)) (by omega) hB).mono ?_
 rintro e w8 ⟨rfl, hb8, hQ8⟩
 rw [qq_add] at hQ8
 have H8 := Aside0.mk (And.intro hb8 hQ8)
 clear hb8 hQ8
 go_wp2_with fail
 go_ret
 exact ⟨rfl, (H7.out.1.mono (by omega)).trans H8.out.1, H8.out.2⟩
set_option maxHeartbeats 4000000 in
set_option maxRecDepth 100000 in
theorem cmpQ_n (gy gz : Nat) (p q : Rat) (n m : Nat) (w : World) (hy : RQ w gy p n) (hz : RQ w gz q m) (hl : n + m ≤ 400) :
  Calls Try.prog 81 #[.pointer (some ⟨gy, 0, none⟩), .pointer (some ⟨gz, 0, none⟩)] w (ValP w (.int .i64 (cmpQ p q))) := by
 have HX := Aside0.mk (And.intro hy hz)
 have HV := Aside0.mk (cmp_q p q)
 generalize cmpQ p q = V at *
 clear hy hz
 go_enter Try.func81, Try.ntmps81
 go_wp2_with fail
 have hb0 : Below w.heap.size w w.drew := below_drew' (Below.refl _ _)
 refine start_ (n := 14) (S := fun w' => True) (ds := []) (bs 14 0) (by kernel_rfl) rfl rfl trivial (fun hHeld => ?_)
 refine zP 0 5 14 1 ?_
 refine zP 1 6 14 3 ?_
 refine zP 2 7 14 7 ?_
 refine zP 3 8 14 15 ?_
 refine zP 6 11 14 79 ?_
 refine zP 7 12 14 207 ?_
 refine zP 8 13 14 463 ?_
 refine zP 9 14 14 975 ?_
 refine zN 4 (some 9) 14 991 (fun K hK => ?_)
 refine zG Try.func130 #[.pointer (some ⟨gz, 0, none⟩)] ?_
 with_reducible refine (down_n gz _ m w.drew (HX.out.2.den.below hb0) (den0 q)).mono ?_
 rintro e w4 ⟨rfl, rfl⟩
 refine ⟨_, rfl, ?_⟩
 refine hK.out _ _ trivial (fun hHeld => ?_)
 clear hK K
 refine zM 9 ?_
 refine zN 5 (some 10) 14 1023 (fun K hK => ?_)
 refine zG Try.func129 #[.pointer (some ⟨gy, 0, none⟩), .pointer (some ⟨gz, 2, none⟩)] ?_
 with_reducible refine (prod_n gy 0 gz 2 p.num q.den n m w.drew (HX.out.1.num.below hb0) (HX.out.2.den.below hb0) (by omega)).mono ?_
 rintro e w4 ⟨g4, hg4, rfl, hb4, hN4⟩
 refine ⟨_, rfl, ?_⟩
 have hb4' := below_drew' hb4
 have H4 := Aside0.mk (And.intro hb4' hN4)
 clear hb4 hN4 hb4' hg4
 refine hK.out _ _ trivial (fun hHeld => ?_)
 clear hK K
 refine zM 10 ?_
 refine zN 10 (some 15) 14 2047 (fun K hK => ?_)
 refine zG Try.func130 #[.pointer (some ⟨gy, 0, none⟩)] ?_
 with_reducible refine (down_n gy _ n w4 (HX.out.1.den.below H4.out.1) (den0 p)).mono ?_
 rintro e w5 ⟨rfl, rfl⟩
 refine ⟨_, rfl, ?_⟩
 refine hK.out _ _ trivial (fun hHeld => ?_)
 clear hK K
 refine zM 15 ?_
 refine zN 11 (some 16) 14 4095 (fun K hK => ?_)
 refine zG Try.func129 #[.pointer (some ⟨gz, 0, none⟩), .pointer (some ⟨gy, 2, none⟩)] ?_
 with_reducible refine (prod_n gz 0 gy 2 q.num p.den m n w4 (HX.out.2.num.below H4.out.1) (HX.out.1.den.below H4.out.1) (by omega)).mono ?_
 rintro e w5 ⟨g5, hg5, rfl, hb5, hN5⟩
 refine ⟨_, rfl, ?_⟩
 have H5 := Aside0.mk (And.intro (H4.out.1.trans (hb5.mono H4.out.1.size)) (And.intro (H4.out.2.below hb5) hN5))
 clear hb5 hN5
 refine hK.out _ _ trivial (fun hHeld => ?_)
 clear hK K
 refine zM 16 ?_
 refine zN 12 (some 17) 14 8191 (fun K hK => ?_)
 refine zG Try.func66 #[.pointer (some ⟨g4, 0, none⟩), .pointer (some ⟨g5, 0, none⟩)] ?_
 with_reducible refine (cmp_n g4 0 g5 0 (p.num * (q.den : Int)) (q.num * (p.den : Int)) (n + m) (m + n) w5 H5.out.2.1 H5.out.2.2 (by omega)).mono ?_
 rintro e w6 ⟨rfl, hb6⟩
 refine ⟨_, rfl, ?_⟩
 rw [HV.out]
 have H6 := Aside0.mk (H5.out.1.trans (hb6.mono H5.out.1.size))
 clear hb6
 refine hK.out _ _ trivial (fun hHeld => ?_)
 clear hK K
 refine zM 17 ?_
 refine zP 13 4 14 16383 ?_
 refine done_ (by kernel_rfl) ?_
 go_wp2_with fail
 go_ret
 exact ⟨rfl, H6.out⟩
end Go.Proofs.Ytpbhepdgamoiaaa.Rf
namespace Go.Proofs.Ytpbhepdgamoiaaa.Er
open Go.RowKit Go Go.Proofs.YtpbhepdgamoiaaaW.PrintWords Go.Proofs.YtpbhepdgamoiaaaW.PrintLast Go.Proofs.YtpbhepdgamoiaaaW.PrintMore Go.Proofs.Ytpbhepdgamoiaaa.Ml Go.Proofs.Ytpbhepdgamoiaaa.Mn Go.Proofs.Ytpbhepdgamoiaaa.Nd Go.Proofs.Ytpbhepdgamoiaaa.Z Go.Proofs.Ytpbhepdgamoiaaa.P Go.Proofs.Ytpbhepdgamoiaaa.Nc Go.Proofs.Ytpbhepdgamoiaaa.Nb Go.Proofs.Ytpbhepdgamoiaaa.Qa Go.Proofs.Ytpbhepdgamoiaaa.Ea Go.Proofs.Ytpbhepdgamoiaaa.Ra Go.Proofs.Ytpbhepdgamoiaaa.Rf
set_option linter.unusedVariables false
set_option linter.unusedSimpArgs false
structure I64 (x : Int) : Prop where
 lo : -9223372036854775808 ≤ x
 hi : x ≤ 9223372036854775807
def edO (d m n e : Int) : Obj := .cells #[.int .i64 d, .int .i64 m, .int .i64 n, .int .i64 e] 77 (0, 0)
def clO (ms ts : Int) : Obj := .cells #[.int .i64 ms, .int .i64 ts] 79 (0, 0)
theorem ed_cells {w : World} {g : Nat} {d m n e : Int} (h : w.heap[g]? = some (edO d m n e)) : w.cell? ⟨g, 0, none⟩ = some (.int .i64 d) ∧ w.cell? ⟨g, 1, none⟩ = some (.int .i64 m) ∧ w.cell? ⟨g, 2, none⟩ = some (.int .i64 n) ∧ w.cell? ⟨g, 3, none⟩ = some (.int .i64 e) :=
 ⟨(blk_cell h 0).trans rfl, (blk_cell h 1).trans rfl, (blk_cell h 2).trans rfl, (blk_cell h 3).trans rfl⟩
theorem ed_free {w : World} {g : Nat} {d m n e : Int} (h : w.heap[g]? = some (edO d m n e)) : w.frozen? ⟨g, 0, none⟩ = false ∧ w.frozen? ⟨g, 1, none⟩ = false ∧ w.frozen? ⟨g, 2, none⟩ = false ∧ w.frozen? ⟨g, 3, none⟩ = false :=
 ⟨blk_frozen h 0, blk_frozen h 1, blk_frozen h 2, blk_frozen h 3⟩
theorem cl_cells {w : World} {g : Nat} {ms ts : Int} (h : w.heap[g]? = some (clO ms ts)) : w.cell? ⟨g, 0, none⟩ = some (.int .i64 ms) ∧ w.cell? ⟨g, 1, none⟩ = some (.int .i64 ts) :=
 ⟨(blk_cell h 0).trans rfl, (blk_cell h 1).trans rfl⟩
set_option maxHeartbeats 2000000 in
theorem ratioE_n (a b : Int) (w : World) (ha : I64 a) (hb : I64 b) (hz : b ≠ 0) :
  Calls Try.prog 78 #[.int .i64 a, .int .i64 b] w (QP w (qq a b) 2) := by
 have HC := Aside0.mk (newRat_n a b w ha.lo ha.hi hb.lo hb.hi hz)
 clear hz
 go_enter Try.func78, Try.ntmps78
 go_wp2_with fail
 refine HC.out.mono ?_
 rintro e w2 ⟨g, hg, rfl, hb2, hN⟩
 have H := Aside0.mk (And.intro hg (And.intro hb2 hN))
 clear hg hb2 hN
 go_wp2_with fail
 go_ret
 exact ⟨g, H.out.1, rfl, H.out.2.1, H.out.2.2⟩
set_option maxHeartbeats 2000000 in
theorem mulE_n (gy gz : Nat) (p q : Rat) (n m : Nat) (w : World) (hy : RQ w gy p n) (hz : RQ w gz q m) (hl : n + m ≤ 400) :
  Calls Try.prog 77 #[.pointer (some ⟨gy, 0, none⟩), .pointer (some ⟨gz, 0, none⟩)] w (QP w (p * q) (n + m)) := by
 have hb1 : Below w.heap.size w (w.alloc (.cells #[.bool false, .slice none 0 0, .bool false, .slice none 0 0] 138)) := below_alloc (Below.refl _ w) _
 have HC := Aside0.mk (mulQ_n w.heap.size gy gz p q n m w.heap.size _ (room_rat0 w) (room_rat2 w) (hy.below hb1) (hz.below hb1) hl (Nat.le_refl _))
 have HB := Aside0.mk hb1
 clear hb1 hy hz
 go_enter Try.func77, Try.ntmps77
 go_wp2_with fail
 refine HC.out.mono ?_
 rintro e w2 ⟨rfl, hb2, hN⟩
 have H := Aside0.mk (And.intro hb2 hN)
 clear hb2 hN
 go_wp2_with fail
 go_ret
 exact ⟨_, Nat.le_refl _, rfl, HB.out.trans H.out.1, H.out.2⟩
set_option maxHeartbeats 2000000 in
theorem addE_n (gy gz : Nat) (p q : Rat) (n m : Nat) (w : World) (hy : RQ w gy p n) (hz : RQ w gz q m) (hl : n + m ≤ 400) :
  Calls Try.prog 83 #[.pointer (some ⟨gy, 0, none⟩), .pointer (some ⟨gz, 0, none⟩)] w (QP w (p + q) (n + m + 1)) := by
 have hb1 : Below w.heap.size w (w.alloc (.cells #[.bool false, .slice none 0 0, .bool false, .slice none 0 0] 138)) := below_alloc (Below.refl _ w) _
 have HC := Aside0.mk (addQ_n w.heap.size gy gz p q n m w.heap.size _ (room_rat0 w) (room_rat2 w) (hy.below hb1) (hz.below hb1) hl (Nat.le_refl _))
 have HB := Aside0.mk hb1
 clear hb1 hy hz
 go_enter Try.func83, Try.ntmps83
 go_wp2_with fail
 refine HC.out.mono ?_
 rintro e w2 ⟨rfl, hb2, hN⟩
 have H := Aside0.mk (And.intro hb2 hN)
 clear hb2 hN
 go_wp2_with fail
 go_ret
 exact ⟨_, Nat.le_refl _, rfl, HB.out.trans H.out.1, H.out.2⟩
structure Bx (w W : World) (ms ts d m n e : Int) : Prop where
 c : W.heap[w.heap.size]? = some (clO ms ts)
 e : W.heap[w.heap.size + 1]? = some (edO d m n e)
 below : Below w.heap.size w W
theorem Bx.start (w : World) (ms ts d m n e : Int) : Bx w ((w.alloc (clO ms ts)).alloc (edO d m n e)) ms ts d m n e := by
 have e1 : (w.alloc (clO ms ts)).heap.size = w.heap.size + 1 := by simp
 have k2 := blk_new (w.alloc (clO ms ts)) (edO d m n e)
 rw [e1] at k2
 exact ⟨blk_alloc (blk_new w _) _, k2, below_alloc (below_alloc (Below.refl _ w) _) _⟩
theorem Bx.step {w W W2 : World} {ms ts d m n e : Int} (h : Bx w W ms ts d m n e) (hb : Below W.heap.size W W2) : Bx w W2 ms ts d m n e :=
 ⟨blk_below h.c hb, blk_below h.e hb, h.below.trans (hb.mono h.below.size)⟩
theorem Bx.cells {w W : World} {ms ts d m n e : Int} (h : Bx w W ms ts d m n e) : W.cell? ⟨w.heap.size, 0, none⟩ = some (.int .i64 ms) ∧ W.cell? ⟨w.heap.size, 1, none⟩ = some (.int .i64 ts) ∧ W.cell? ⟨w.heap.size + 1, 1, none⟩ = some (.int .i64 m) ∧ W.cell? ⟨w.heap.size + 1, 2, none⟩ = some (.int .i64 n) ∧ W.cell? ⟨w.heap.size + 1, 3, none⟩ = some (.int .i64 e) := by
 obtain ⟨c0, c1⟩ := cl_cells h.c
 obtain ⟨e0, e1, e2, e3⟩ := ed_cells h.e
 exact ⟨c0, c1, e1, e2, e3⟩
def afterQ (ms ts m n e k : Int) : Rat := qq k ms * qq n e * qq ts 1 + qq m 1
theorem i1 : I64 1 := ⟨by decide, by decide⟩
set_option maxHeartbeats 4000000 in
set_option maxRecDepth 100000 in
theorem after_n (ms ts d m n e k : Int) (w : World) (h1 : I64 ms ∧ ms ≠ 0) (h2 : I64 ts) (h3 : I64 m) (h4 : I64 n) (h5 : I64 e ∧ e ≠ 0) (h6 : I64 k) :
  Calls Try.prog 135 #[.agg #[.int .i64 ms, .int .i64 ts], .agg #[.int .i64 d, .int .i64 m, .int .i64 n, .int .i64 e], .int .i64 k] w (QP w (afterQ ms ts m n e k) 9) := by
 have hu := Try.underlying77
 have hu2 := Try.underlying79
 have HH := Aside0.mk (And.intro (And.intro h1 h2) (And.intro (And.intro h3 h4) (And.intro h5 h6)))
 have hQ := Aside0.mk (Bx.start w ms ts d m n e)
 clear h1 h2 h3 h4 h5 h6
 go_enter Try.func135, Try.ntmps135
 go_wp2_with fail
 generalize hW : World.alloc (World.alloc _ _) _ = W
 have HQ := Aside0.mk (show Bx w W ms ts d m n e by rw [← hW]; exact hQ.out)
 clear hW hQ
 have hb0 : Below W.heap.size W W.drew := below_drew' (Below.refl _ _)
 refine start_ (n := 15) (S := fun w' => w'.cell? ⟨w.heap.size, 0, none⟩ = some (.int .i64 ms) ∧ w'.cell? ⟨w.heap.size, 1, none⟩ = some (.int .i64 ts) ∧ w'.cell? ⟨w.heap.size + 1, 1, none⟩ = some (.int .i64 m) ∧ w'.cell? ⟨w.heap.size + 1, 2, none⟩ = some (.int .i64 n) ∧ w'.cell? ⟨w.heap.size + 1, 3, none⟩ = some (.int .i64 e)) (ds := []) (bs 15 0) (by kernel_rfl) rfl rfl (HQ.out.step hb0).cells (fun hHeld => ?_)
 refine zP 0 8 15 1 ?_
 refine zP 1 9 15 3 ?_
 refine zP 4 12 15 19 ?_
 refine zP 6 14 15 83 ?_
 refine zP 10 18 15 1107 ?_
 refine zT 2 10 15 1111 hHeld ?_
 refine zT 5 13 15 1143 hHeld ?_
 refine zT 7 15 15 1271 hHeld ?_
 refine zT 11 19 15 3319 hHeld ?_
 refine zN 3 (some 11) 15 3327 (fun K hK => ?_)
 refine zG Try.func78 #[.int .i64 k, .int .i64 ms] ?_
 with_reducible refine (ratioE_n k ms W.drew HH.out.2.2.2 HH.out.1.1.1 HH.out.1.1.2).mono ?_
 rintro e w3 ⟨g3, hg3, rfl, hb3, hN3⟩
 refine ⟨_, rfl, ?_⟩
 have hb3' := below_drew' hb3
 have H3 := Aside0.mk (And.intro hN3 (HQ.out.step hb3'))
 clear hb3 hN3 hb3' hg3
 refine hK.out _ _ H3.out.2.cells (fun hHeld => ?_)
 clear hK K
 refine zM 11 ?_
 refine zN 8 (some 16) 15 3583 (fun K hK => ?_)
 refine zG Try.func78 #[.int .i64 n, .int .i64 e] ?_
 with_reducible refine (ratioE_n n e w3 HH.out.2.1.2 HH.out.2.2.1.1 HH.out.2.2.1.2).mono ?_
 rintro e w4 ⟨g4, hg4, rfl, hb4, hN4⟩
 refine ⟨_, rfl, ?_⟩
 have H4 := Aside0.mk (And.intro (H3.out.1.below hb4) (And.intro hN4 (H3.out.2.step hb4)))
 clear hb4 hN4 hg4
 refine hK.out _ _ H4.out.2.2.cells (fun hHeld => ?_)
 clear hK K
 refine zM 16 ?_
 refine zN 9 (some 17) 15 4095 (fun K hK => ?_)
 refine zG Try.func77 #[.pointer (some ⟨g3, 0, none⟩), .pointer (some ⟨g4, 0, none⟩)] ?_
 with_reducible refine (mulE_n g3 g4 _ _ 2 2 w4 H4.out.1 H4.out.2.1 (by decide)).mono ?_
 rintro e w5 ⟨g5, hg5, rfl, hb5, hN5⟩
 refine ⟨_, rfl, ?_⟩
 have H5 := Aside0.mk (And.intro hN5 (H4.out.2.2.step hb5))
 clear hb5 hN5 hg5
 refine hK.out _ _ H5.out.2.cells (fun hHeld => ?_)
 clear hK K
 refine zM 17 ?_
 refine zN 12 (some 20) 15 8191 (fun K hK => ?_)
 refine zG Try.func78 #[.int .i64 ts, .int .i64 1] ?_
 with_reducible refine (ratioE_n ts 1 w5 HH.out.1.2 i1 (by decide)).mono ?_
 rintro e w6 ⟨g6, hg6, rfl, hb6, hN6⟩
 refine ⟨_, rfl, ?_⟩
 have H6 := Aside0.mk (And.intro (H5.out.1.below hb6) (And.intro hN6 (H5.out.2.step hb6)))
 clear hb6 hN6 hg6
 refine hK.out _ _ H6.out.2.2.cells (fun hHeld => ?_)
 clear hK K
 refine zM 20 ?_
 refine zN 13 (some 21) 15 16383 (fun K hK => ?_)
 refine zG Try.func77 #[.pointer (some ⟨g5, 0, none⟩), .pointer (some ⟨g6, 0, none⟩)] ?_
 with_reducible refine (mulE_n g5 g6 _ _ 4 2 w6 H6.out.1 H6.out.2.1 (by decide)).mono ?_
 rintro e w7 ⟨g7, hg7, rfl, hb7, hN7⟩
 refine ⟨_, rfl, ?_⟩
 have H7 := Aside0.mk (And.intro hN7 (H6.out.2.2.step hb7))
 clear hb7 hN7 hg7
 refine hK.out _ _ H7.out.2.cells (fun hHeld => ?_)
 clear hK K
 refine zM 21 ?_
 refine zP 14 7 15 32767 ?_
 refine done_ (by kernel_rfl) ?_
 obtain ⟨c0, c1, e1, e2, e3⟩ := H7.out.2.cells
 clear hb0
 go_wp2_with fail
 refine (ratioE_n m 1 w7 HH.out.2.1.1 i1 (by decide)).mono ?_
 rintro e w8 ⟨g8, hg8, rfl, hb8, hN8⟩
 have H8 := Aside0.mk (And.intro (H7.out.1.below hb8) (And.intro hN8 (H7.out.2.step hb8)))
 clear hb8 hN8 hg8 c0 c1 e1 e2 e3
 go_wp2_with fail
 refine (addE_n g7 g8 _ _ 6 2 w8 H8.out.1 H8.out.2.1 (by decide)).mono ?_
 rintro e w9 ⟨g9, hg9, rfl, hb9, hN9⟩
 have H9 := Aside0.mk (And.intro hN9 (H8.out.2.2.step hb9))
 have HG := Aside0.mk hg9
 have HL := Aside0.mk H8.out.2.2.below.size
 clear hb9 hN9 hg9
 go_wp2_with fail
 go_ret
 exact ⟨g9, Nat.le_trans HL.out HG.out, rfl, H9.out.2.below, H9.out.1⟩
end Go.Proofs.Ytpbhepdgamoiaaa.Er
namespace Go.Proofs.Ytpbhepdgamoiaaa.Ek
open Go.RowKit Go Go.Proofs.YtpbhepdgamoiaaaW.PrintWords Go.Proofs.YtpbhepdgamoiaaaW.PrintLast Go.Proofs.YtpbhepdgamoiaaaW.PrintMore Go.Proofs.Ytpbhepdgamoiaaa.Ml Go.Proofs.Ytpbhepdgamoiaaa.Mn Go.Proofs.Ytpbhepdgamoiaaa.Nd Go.Proofs.Ytpbhepdgamoiaaa.Z Go.Proofs.Ytpbhepdgamoiaaa.P Go.Proofs.Ytpbhepdgamoiaaa.Nc Go.Proofs.Ytpbhepdgamoiaaa.Nb Go.Proofs.Ytpbhepdgamoiaaa.Qa Go.Proofs.Ytpbhepdgamoiaaa.Ea Go.Proofs.Ytpbhepdgamoiaaa.Ra Go.Proofs.Ytpbhepdgamoiaaa.Rf Go.Proofs.Ytpbhepdgamoiaaa.Er
set_option linter.unusedVariables false
set_option linter.unusedSimpArgs false
theorem qq_low {n e : Int} (h0 : 0 ≤ n) (he : 1 ≤ e) : 0 ≤ (qq n e).num ∧ (qq n e).num ≤ n ∧ 1 ≤ ((qq n e).den : Int) ∧ ((qq n e).den : Int) ≤ e := by
 obtain ⟨h1, h2⟩ := rat_low (a := n) (b := e) (by omega)
 rw [← h1, ← h2]
 unfold ratN ratD lowN lowD
 rw [if_neg (by omega), if_neg (by omega)]
 have hg : 0 < ((Int.gcd n e : Nat) : Int) := by
  have := Int.gcd_pos_of_ne_zero_right n (show e ≠ 0 by omega)
  omega
 refine ⟨Int.ediv_nonneg h0 (by omega), Int.ediv_le_self _ h0, ?_, Int.ediv_le_self _ (by omega)⟩
 have h3 := Int.ediv_mul_cancel (Int.gcd_dvd_right n e)
 refine Int.le_of_not_gt fun h => ?_
 have : e / (Int.gcd n e : Int) * (Int.gcd n e : Int) ≤ 0 * (Int.gcd n e : Int) := Int.mul_le_mul_of_nonneg_right (by omega) (by omega)
 omega
theorem blk_four {w : World} {g : Nat} {t : TypeId} {a b c d x y z u : Value} (h : w.heap[g]? = some (.cells #[a, b, c, d] t (0, 0))) : ((((w.setCell ⟨g, 0, none⟩ x).setCell ⟨g, 1, none⟩ y).setCell ⟨g, 2, none⟩ z).setCell ⟨g, 3, none⟩ u).heap[g]? = some (.cells #[x, y, z, u] t (0, 0)) :=
 blk_put (cs := #[x, y, z, d]) (blk_put (cs := #[x, y, c, d]) (blk_put (cs := #[x, b, c, d]) (blk_put (cs := #[a, b, c, d]) h 0 x rfl) 1 y rfl) 2 z rfl) 3 u rfl
structure Lx (w W : World) (d m n e : Int) (o : Obj) : Prop where
 e : W.heap[w.heap.size]? = some (edO d m n e)
 r : W.heap[w.heap.size + 1]? = some o
 below : Below w.heap.size w W
theorem Lx.start (w : World) (d m n e : Int) (o : Obj) : Lx w ((w.alloc (edO d m n e)).alloc o) d m n e o := by
 have e1 : (w.alloc (edO d m n e)).heap.size = w.heap.size + 1 := by simp
 have k2 := blk_new (w.alloc (edO d m n e)) o
 rw [e1] at k2
 exact ⟨blk_alloc (blk_new w _) _, k2, below_alloc (below_alloc (Below.refl _ w) _) _⟩
theorem Lx.step {w W W2 : World} {d m n e : Int} {o : Obj} (h : Lx w W d m n e o) (hb : Below W.heap.size W W2) : Lx w W2 d m n e o :=
 ⟨blk_below h.e hb, blk_below h.r hb, h.below.trans (hb.mono h.below.size)⟩
theorem set_other {w : World} {g g' o : Nat} {v : Value} {x : Obj} (h : w.heap[g]? = some x) (hne : g ≠ g') : (w.setCell ⟨g', o, none⟩ v).heap[g]? = some x := by
 rw [Below.heap_setCell _ _ _ _ hne]; exact h
set_option maxHeartbeats 4000000 in
set_option maxRecDepth 100000 in
theorem lowest_n (d m n e : Int) (w : World) (h0 : 0 ≤ n) (h1 : n ≤ 1000000) (h2 : 1 ≤ e) (h3 : e ≤ 1000000) :
  Calls Try.prog 71 #[.agg #[.int .i64 d, .int .i64 m, .int .i64 n, .int .i64 e]] w (fun e' w' => e' = .returned (.agg #[.int .i64 d, .int .i64 m, .int .i64 (qq n e).num, .int .i64 ((qq n e).den : Int)]) ∧ Below w.heap.size w w') := by
 have hu := Try.underlying77
 have hq := qq_low h0 h2
 have HC := Aside0.mk (fun W => ratioE_n n e W ⟨by omega, by omega⟩ ⟨by omega, by omega⟩ (by omega))
 have HQ := Aside0.mk (And.intro (And.intro (show -9223372036854775807 ≤ (qq n e).num by omega) (show (qq n e).num ≤ 9223372036854775807 by omega)) (And.intro (show -9223372036854775807 ≤ ((qq n e).den : Int) by omega) (show ((qq n e).den : Int) ≤ 9223372036854775807 by omega)))
 have hL := Aside0.mk (Lx.start w d m n e (edO 0 0 0 0))
 clear hq h0 h1 h2 h3
 generalize qq n e = Q at *
 go_enter Try.func71, Try.ntmps71
 go_wp2_with fail
 generalize hW : World.alloc (World.alloc _ _) _ = W
 have HL := Aside0.mk (show Lx w W d m n e (edO 0 0 0 0) by rw [← hW]; exact hL.out)
 clear hW hL
 refine (HC.out W).mono ?_
 rintro e3 w3 ⟨g3, hg3, rfl, hb3, hN3⟩
 have H3 := Aside0.mk (And.intro hN3 (HL.out.step hb3))
 clear hb3 hN3 hg3 HC
 go_wp2_with fail
 refine (num_n g3 w3).mono ?_
 rintro e4 w4 ⟨rfl, rfl⟩
 go_wp2_with fail
 refine (int64_n g3 0 Q.num 2 w3 H3.out.1.num HQ.out.1.1 HQ.out.1.2 (by decide)).mono ?_
 rintro e4 w4 ⟨rfl, hb4⟩
 have H4 := Aside0.mk (And.intro (H3.out.1.below hb4) (H3.out.2.step hb4))
 clear hb4
 go_wp2_with fail
 refine (denom_n g3 _ 2 w4 H4.out.1.den (den0 Q)).mono ?_
 rintro e5 w5 ⟨rfl, rfl⟩
 go_wp2_with fail
 refine (int64_n g3 2 Q.den 2 w4 H4.out.1.den HQ.out.2.1 HQ.out.2.2 (by decide)).mono ?_
 rintro e5 w5 ⟨rfl, hb5⟩
 have H5 := Aside0.mk (H4.out.2.step hb5)
 clear hb5
 obtain ⟨c0, c1, c2, c3⟩ := ed_cells H5.out.e
 obtain ⟨f0, f1, f2, f3⟩ := ed_free H5.out.e
 obtain ⟨r0, r1, r2, r3⟩ := ed_cells (d := 0) (m := 0) (n := 0) (e := 0) H5.out.r
 obtain ⟨s0, s1, s2, s3⟩ := ed_free (d := 0) (m := 0) (n := 0) (e := 0) H5.out.r
 go_wp2_with fail
 have hr : ((w5.setCell ⟨w.heap.size, 2, none⟩ (.int .i64 Q.num)).setCell ⟨w.heap.size, 3, none⟩ (.int .i64 (Q.den : Int))).heap[w.heap.size + 1]? = some (edO 0 0 0 0) :=
  set_other (set_other H5.out.r (by omega)) (by omega)
 refine bodyPost_ret (results_single rfl (.cell (w.heap.size + 1) 77 #[.int .i64 d, .int .i64 m, .int .i64 Q.num, .int .i64 (Q.den : Int)] (0, 0) _ rfl (blk_four hr) Try.underlying77 rfl (by kernel_rfl) .nil)) rfl ?_
 have hB := H5.out.below
 exact ⟨rfl, (((((hB.setCell (Nat.le_refl _) _).setCell (Nat.le_refl _) _).setCell (Nat.le_succ _) _).setCell (Nat.le_succ _) _).setCell (Nat.le_succ _) _).setCell (Nat.le_succ _) _⟩
def kdO (b : Bool) (s n e : Int) : Obj := .cells #[.bool b, .int .i64 s, .int .i64 n, .int .i64 e] 155 (0, 0)
def kB (m n e : Int) : Bool := decide (m < 0)
def kS (m n e : Int) : Int := if m < 0 then 0 else if n = 0 then m else 0
def kN (m n e : Int) : Int := if m < 0 then 0 else if n = 0 then 0 else n
def kE (m n e : Int) : Int := if m < 0 then 0 else if n = 0 then 0 else e
set_option maxHeartbeats 4000000 in
set_option maxRecDepth 100000 in
theorem kindOf_n (d m n e : Int) (w : World) :
  Calls Try.prog 150 #[.agg #[.int .i64 d, .int .i64 m, .int .i64 n, .int .i64 e]] w (fun e' w' => e' = .returned (.agg #[.bool (kB m n e), .int .i64 (kS m n e), .int .i64 (kN m n e), .int .i64 (kE m n e)]) ∧ Below w.heap.size w w') := by
 have hu := Try.underlying77
 have hu2 := Try.underlying155
 go_enter Try.func150, Try.ntmps150
 go_wp2
 ·refine bodyPost_ret (results_single rfl (.cell (w.heap.size + 1) 155 #[.bool true, .int .i64 0, .int .i64 0, .int .i64 0] (0, 0) _ rfl (Lx.start w d m n e (kdO true 0 0 0)).r Try.underlying155 rfl (by kernel_rfl) .nil)) rfl ?_
  refine ⟨?_, (Lx.start w d m n e (kdO true 0 0 0)).below⟩
  unfold kB kS kN kE
  simp_all
 ·refine bodyPost_ret (results_single rfl (.cell (w.heap.size + 1) 155 #[.bool false, .int .i64 m, .int .i64 0, .int .i64 0] (0, 0) _ rfl (Lx.start w d m n e (kdO false m 0 0)).r Try.underlying155 rfl (by kernel_rfl) .nil)) rfl ?_
  refine ⟨?_, (Lx.start w d m n e (kdO false m 0 0)).below⟩
  have h0 : ¬ m < 0 := by omega
  have hn : n = 0 := by simp_all
  unfold kB kS kN kE
  simp [h0, hn]
 ·refine bodyPost_ret (results_single rfl (.cell (w.heap.size + 1) 155 #[.bool false, .int .i64 0, .int .i64 n, .int .i64 e] (0, 0) _ rfl (Lx.start w d m n e (kdO false 0 n e)).r Try.underlying155 rfl (by kernel_rfl) .nil)) rfl ?_
  refine ⟨?_, (Lx.start w d m n e (kdO false 0 n e)).below⟩
  have h0 : ¬ m < 0 := by omega
  have hn : n ≠ 0 := by simp_all
  unfold kB kS kN kE
  simp [h0, hn]
theorem eqA155 (d : Nat) (w : World) (x0 y0 : Bool) (x1 y1 : Int) (x2 y2 : Int) (x3 y3 : Int) :
  (Op.equalIn (d + 2) 155 (.agg #[.bool x0, .int .i64 x1, .int .i64 x2, .int .i64 x3]) (.agg #[.bool y0, .int .i64 y1, .int .i64 y2, .int .i64 y3])).run Try.prog w = .ok (x0 == y0 && (x1 == y1 && (x2 == y2 && (x3 == y3)))) w := by
 refine eqA_of Try.underlying155 (by kernel_rfl) ?_
 refine eqf_cons (by rfl) (by go_simp; rfl) (by go_simp; rfl) (by go_simp) ?_
 refine eqf_cons (by rfl) (by go_simp; rfl) (by go_simp; rfl) (by go_simp) ?_
 refine eqf_cons (by rfl) (by go_simp; rfl) (by go_simp; rfl) (by go_simp) ?_
 exact eqf_last (by rfl) (by go_simp; rfl) (by go_simp; rfl) (by go_simp)
attribute [local go_sem high] eqA155
structure Ox (w W : World) (ms ts d m n e d' m' n' e' : Int) : Prop where
 c : W.heap[w.heap.size]? = some (clO ms ts)
 a : W.heap[w.heap.size + 1]? = some (edO d m n e)
 b : W.heap[w.heap.size + 1 + 1]? = some (edO d' m' n' e')
 below : Below w.heap.size w W
theorem Ox.start (w : World) (ms ts d m n e d' m' n' e' : Int) : Ox w (((w.alloc (clO ms ts)).alloc (edO d m n e)).alloc (edO d' m' n' e')) ms ts d m n e d' m' n' e' := by
 have e1 : (w.alloc (clO ms ts)).heap.size = w.heap.size + 1 := by simp
 have e2 : ((w.alloc (clO ms ts)).alloc (edO d m n e)).heap.size = w.heap.size + 1 + 1 := by simp
 have k2 := blk_new (w.alloc (clO ms ts)) (edO d m n e)
 have k3 := blk_new ((w.alloc (clO ms ts)).alloc (edO d m n e)) (edO d' m' n' e')
 rw [e1] at k2
 rw [e2] at k3
 exact ⟨blk_alloc (blk_alloc (blk_new w _) _) _, blk_alloc k2 _, k3, below_alloc (below_alloc (below_alloc (Below.refl _ w) _) _) _⟩
theorem Ox.step {w W W2 : World} {ms ts d m n e d' m' n' e' : Int} (h : Ox w W ms ts d m n e d' m' n' e') (hb : Below W.heap.size W W2) : Ox w W2 ms ts d m n e d' m' n' e' :=
 ⟨blk_below h.c hb, blk_below h.a hb, blk_below h.b hb, h.below.trans (hb.mono h.below.size)⟩
theorem Ox.cells {w W : World} {ms ts d m n e d' m' n' e' : Int} (h : Ox w W ms ts d m n e d' m' n' e') : W.cell? ⟨w.heap.size, 0, none⟩ = some (.int .i64 ms) ∧ W.cell? ⟨w.heap.size, 1, none⟩ = some (.int .i64 ts) ∧ W.cell? ⟨w.heap.size + 1, 0, none⟩ = some (.int .i64 d) ∧ W.cell? ⟨w.heap.size + 1, 1, none⟩ = some (.int .i64 m) ∧ W.cell? ⟨w.heap.size + 1, 2, none⟩ = some (.int .i64 n) ∧ W.cell? ⟨w.heap.size + 1, 3, none⟩ = some (.int .i64 e) ∧ W.cell? ⟨w.heap.size + 1 + 1, 0, none⟩ = some (.int .i64 d') ∧ W.cell? ⟨w.heap.size + 1 + 1, 1, none⟩ = some (.int .i64 m') ∧ W.cell? ⟨w.heap.size + 1 + 1, 2, none⟩ = some (.int .i64 n') ∧ W.cell? ⟨w.heap.size + 1 + 1, 3, none⟩ = some (.int .i64 e') := by
 obtain ⟨c0, c1⟩ := cl_cells h.c
 obtain ⟨e0, e1, e2, e3⟩ := ed_cells h.a
 obtain ⟨f0, f1, f2, f3⟩ := ed_cells h.b
 exact ⟨c0, c1, e0, e1, e2, e3, f0, f1, f2, f3⟩
def kinB (m n e m' n' e' : Int) : Bool := (kB m n e == kB m' n' e') && ((kS m n e == kS m' n' e') && ((kN m n e == kN m' n' e') && (kE m n e == kE m' n' e')))
def overB (ms ts d m n e m' n' e' : Int) : Bool := kinB m n e m' n' e' && (decide (m < 0) || (n == 0) || (cmpQ (afterQ ms ts m n e d) (qq m' 1) == 0))
set_option maxHeartbeats 8000000 in
set_option maxRecDepth 100000 in
theorem over_n (ms ts d m n e d' m' n' e' : Int) (w : World) (h1 : I64 ms ∧ ms ≠ 0) (h2 : I64 ts) (h3 : I64 m) (h4 : I64 n) (h5 : I64 e ∧ e ≠ 0) (h6 : I64 d) (h7 : I64 m') :
  Calls Try.prog 113 #[.agg #[.int .i64 ms, .int .i64 ts], .agg #[.int .i64 d, .int .i64 m, .int .i64 n, .int .i64 e], .agg #[.int .i64 d', .int .i64 m', .int .i64 n', .int .i64 e']] w (ValP w (.bool (overB ms ts d m n e m' n' e'))) := by
 have hu := Try.underlying77
 have hu2 := Try.underlying155
 have hu3 := Try.underlying79
 have HH := Aside0.mk (And.intro h1 (And.intro h2 (And.intro h3 (And.intro h4 (And.intro h5 (And.intro h6 h7))))))
 have hQ := Aside0.mk (Ox.start w ms ts d m n e d' m' n' e')
 have HV := Aside0.mk (show overB ms ts d m n e m' n' e' = (kinB m n e m' n' e' && (decide (m < 0) || (n == 0) || (cmpQ (afterQ ms ts m n e d) (qq m' 1) == 0))) from rfl)
 generalize overB ms ts d m n e m' n' e' = V at *
 have hk := Aside0.mk (show kinB m n e m' n' e' = ((kB m n e == kB m' n' e') && ((kS m n e == kS m' n' e') && ((kN m n e == kN m' n' e') && (kE m n e == kE m' n' e')))) from rfl)
 clear h1 h2 h3 h4 h5 h6 h7
 go_enter Try.func113, Try.ntmps113
 go_wp2_with fail
 generalize hW : World.alloc (World.alloc (World.alloc _ _) _) _ = W
 have HQ := Aside0.mk (show Ox w W ms ts d m n e d' m' n' e' by rw [← hW]; exact hQ.out)
 clear hW hQ
 have hb0 : Below W.heap.size W W.drew := below_drew' (Below.refl _ _)
 refine start_ (n := 5) (S := fun w' => w'.cell? ⟨w.heap.size + 1, 0, none⟩ = some (.int .i64 d) ∧ w'.cell? ⟨w.heap.size + 1, 1, none⟩ = some (.int .i64 m) ∧ w'.cell? ⟨w.heap.size + 1, 2, none⟩ = some (.int .i64 n) ∧ w'.cell? ⟨w.heap.size + 1, 3, none⟩ = some (.int .i64 e) ∧ w'.cell? ⟨w.heap.size + 1 + 1, 0, none⟩ = some (.int .i64 d') ∧ w'.cell? ⟨w.heap.size + 1 + 1, 1, none⟩ = some (.int .i64 m') ∧ w'.cell? ⟨w.heap.size + 1 + 1, 2, none⟩ = some (.int .i64 n') ∧ w'.cell? ⟨w.heap.size + 1 + 1, 3, none⟩ = some (.int .i64 e')) (ds := []) (bs 5 0) (by kernel_rfl) rfl rfl (HQ.out.step hb0).cells.2.2 (fun hHeld => ?_)
 refine zT 0 7 5 1 hHeld ?_
 refine zT 2 9 5 5 hHeld ?_
 refine zN 1 (some 8) 5 7 (fun K hK => ?_)
 refine zG Try.func150 #[.agg #[.int .i64 d, .int .i64 m, .int .i64 n, .int .i64 e]] ?_
 with_reducible refine (kindOf_n d m n e W.drew).mono ?_
 rintro e3 w3 ⟨rfl, hb3⟩
 refine ⟨_, rfl, ?_⟩
 have hb3' := below_drew' hb3
 have H3 := Aside0.mk (HQ.out.step hb3')
 clear hb3 hb3'
 refine hK.out _ _ H3.out.cells.2.2 (fun hHeld => ?_)
 clear hK K
 refine zM 8 ?_
 refine zN 3 (some 10) 5 15 (fun K hK => ?_)
 refine zG Try.func150 #[.agg #[.int .i64 d', .int .i64 m', .int .i64 n', .int .i64 e']] ?_
 with_reducible refine (kindOf_n d' m' n' e' w3).mono ?_
 rintro e4 w4 ⟨rfl, hb4⟩
 refine ⟨_, rfl, ?_⟩
 have H4 := Aside0.mk (H3.out.step hb4)
 clear hb4
 refine hK.out _ _ H4.out.cells.2.2 (fun hHeld => ?_)
 clear hK K
 refine zM 10 ?_
 refine zP 4 11 5 31 ?_
 refine done_ (by kernel_rfl) ?_
 have hn : (!kB m n e == kB m' n' e' || (!kS m n e == kS m' n' e' || (!kN m n e == kN m' n' e' || !kE m n e == kE m' n' e'))) = !kinB m n e m' n' e' := by rw [hk.out]; simp only [Bool.not_and]
 rw [hn]
 clear hn hk hHeld hb0
 cases hK : kinB m n e m' n' e' with
 | false =>
  have HV2 := Aside0.mk (show V = false by rw [HV.out, hK]; rfl)
  clear HV hK
  simp only [Bool.not_false]
  go_wp2_with fail
  go_ret
  exact ⟨ret_b HV2.out.symm, H4.out.below⟩
 | true =>
  have HV2 := Aside0.mk (show V = (decide (m < 0) || (n == 0) || (cmpQ (afterQ ms ts m n e d) (qq m' 1) == 0)) by rw [HV.out, hK]; rfl)
  clear HV hK H3
  simp only [Bool.not_true]
  by_cases hm : m < 0
  ·have hm1 : decide (m < 0) = true := decide_eq_true hm
   have HV3 := Aside0.mk (show V = true by rw [HV2.out, hm1]; rfl)
   clear HV2 hm
   go_wp2_with fail
   refine start_ (n := 21) (S := fun w' => w'.cell? ⟨w.heap.size, 0, none⟩ = some (.int .i64 ms) ∧ w'.cell? ⟨w.heap.size, 1, none⟩ = some (.int .i64 ts) ∧ w'.cell? ⟨w.heap.size + 1, 0, none⟩ = some (.int .i64 d) ∧ w'.cell? ⟨w.heap.size + 1, 1, none⟩ = some (.int .i64 m) ∧ w'.cell? ⟨w.heap.size + 1, 2, none⟩ = some (.int .i64 n) ∧ w'.cell? ⟨w.heap.size + 1, 3, none⟩ = some (.int .i64 e) ∧ w'.cell? ⟨w.heap.size + 1 + 1, 0, none⟩ = some (.int .i64 d') ∧ w'.cell? ⟨w.heap.size + 1 + 1, 1, none⟩ = some (.int .i64 m') ∧ w'.cell? ⟨w.heap.size + 1 + 1, 2, none⟩ = some (.int .i64 n') ∧ w'.cell? ⟨w.heap.size + 1 + 1, 3, none⟩ = some (.int .i64 e')) (ds := []) (bs 21 0) (by kernel_rfl) rfl rfl (H4.out.step (below_drew' (Below.refl _ _))).cells (fun hHeld => ?_)
   refine zP 0 12 21 1 ?_
   refine zT 1 13 21 3 hHeld ?_
   refine zP 2 14 21 7 ?_
   refine zP 3 15 21 15 ?_
   refine zO 4 16 21 31 ?_
   refine zO 5 17 21 63 ?_
   refine zO 6 18 21 127 ?_
   refine zP 7 19 21 255 ?_
   refine zP 8 20 21 511 ?_
   refine zO 9 21 21 1023 ?_
   refine zO 10 22 21 2047 ?_
   refine zO 11 23 21 4095 ?_
   refine zO 12 24 21 8191 ?_
   refine zO 13 25 21 16383 ?_
   refine zO 14 26 21 32767 ?_
   refine zO 15 27 21 65535 ?_
   refine zO 16 28 21 131071 ?_
   refine zO 17 29 21 262143 ?_
   refine zO 18 30 21 524287 ?_
   refine zP 19 31 21 1048575 ?_
   refine zP 20 6 21 2097151 ?_
   refine done_ (by kernel_rfl) ?_
   go_wp2_with fail
   go_ret
   exact ⟨ret_b HV3.out.symm, (H4.out.step (below_drew' (Below.refl _ _))).below⟩
  ·have hm1 : decide (m < 0) = false := decide_eq_false hm
   clear hm
   by_cases hz : n = 0
   ·have hz1 : (n == 0) = true := by simpa using hz
    have HV3 := Aside0.mk (show V = true by rw [HV2.out, hz1]; simp)
    clear HV2 hz
    go_wp2_with fail
    refine start_ (n := 21) (S := fun w' => w'.cell? ⟨w.heap.size, 0, none⟩ = some (.int .i64 ms) ∧ w'.cell? ⟨w.heap.size, 1, none⟩ = some (.int .i64 ts) ∧ w'.cell? ⟨w.heap.size + 1, 0, none⟩ = some (.int .i64 d) ∧ w'.cell? ⟨w.heap.size + 1, 1, none⟩ = some (.int .i64 m) ∧ w'.cell? ⟨w.heap.size + 1, 2, none⟩ = some (.int .i64 n) ∧ w'.cell? ⟨w.heap.size + 1, 3, none⟩ = some (.int .i64 e) ∧ w'.cell? ⟨w.heap.size + 1 + 1, 0, none⟩ = some (.int .i64 d') ∧ w'.cell? ⟨w.heap.size + 1 + 1, 1, none⟩ = some (.int .i64 m') ∧ w'.cell? ⟨w.heap.size + 1 + 1, 2, none⟩ = some (.int .i64 n') ∧ w'.cell? ⟨w.heap.size + 1 + 1, 3, none⟩ = some (.int .i64 e')) (ds := []) (bs 21 0) (by kernel_rfl) rfl rfl (H4.out.step (below_drew' (Below.refl _ _))).cells (fun hHeld => ?_)
    refine zP 0 12 21 1 ?_
    refine zT 1 13 21 3 hHeld ?_
    refine zP 2 14 21 7 ?_
    refine zP 3 15 21 15 ?_
    refine zP 4 16 21 31 ?_
    refine zT 5 17 21 63 hHeld ?_
    refine zP 6 18 21 127 ?_
    refine zP 7 19 21 255 ?_
    refine zP 8 20 21 511 ?_
    refine zO 9 21 21 1023 ?_
    refine zO 10 22 21 2047 ?_
    refine zO 11 23 21 4095 ?_
    refine zO 12 24 21 8191 ?_
    refine zO 13 25 21 16383 ?_
    refine zO 14 26 21 32767 ?_
    refine zO 15 27 21 65535 ?_
    refine zO 16 28 21 131071 ?_
    refine zO 17 29 21 262143 ?_
    refine zO 18 30 21 524287 ?_
    refine zP 19 31 21 1048575 ?_
    refine zP 20 6 21 2097151 ?_
    refine done_ (by kernel_rfl) ?_
    go_wp2_with fail
    go_ret
    exact ⟨ret_b HV3.out.symm, (H4.out.step (below_drew' (Below.refl _ _))).below⟩
   ·have hz1 : (n == 0) = false := by simpa using hz
    have HV3 := Aside0.mk (show V = (cmpQ (afterQ ms ts m n e d) (qq m' 1) == 0) by rw [HV2.out, hm1, hz1]; rfl)
    clear HV2 hz
    go_wp2_with fail
    refine start_ (n := 21) (S := fun w' => w'.cell? ⟨w.heap.size, 0, none⟩ = some (.int .i64 ms) ∧ w'.cell? ⟨w.heap.size, 1, none⟩ = some (.int .i64 ts) ∧ w'.cell? ⟨w.heap.size + 1, 0, none⟩ = some (.int .i64 d) ∧ w'.cell? ⟨w.heap.size + 1, 1, none⟩ = some (.int .i64 m) ∧ w'.cell? ⟨w.heap.size + 1, 2, none⟩ = some (.int .i64 n) ∧ w'.cell? ⟨w.heap.size + 1, 3, none⟩ = some (.int .i64 e) ∧ w'.cell? ⟨w.heap.size + 1 + 1, 0, none⟩ = some (.int .i64 d') ∧ w'.cell? ⟨w.heap.size + 1 + 1, 1, none⟩ = some (.int .i64 m') ∧ w'.cell? ⟨w.heap.size + 1 + 1, 2, none⟩ = some (.int .i64 n') ∧ w'.cell? ⟨w.heap.size + 1 + 1, 3, none⟩ = some (.int .i64 e')) (ds := []) (bs 21 0) (by kernel_rfl) rfl rfl (H4.out.step (below_drew' (Below.refl _ _))).cells (fun hHeld => ?_)
    refine zP 0 12 21 1 ?_
    refine zT 1 13 21 3 hHeld ?_
    refine zP 2 14 21 7 ?_
    refine zP 3 15 21 15 ?_
    refine zP 4 16 21 31 ?_
    refine zT 5 17 21 63 hHeld ?_
    refine zP 6 18 21 127 ?_
    refine zP 7 19 21 255 ?_
    refine zP 8 20 21 511 ?_
    refine zP 11 23 21 2559 ?_
    refine zP 14 26 21 18943 ?_
    refine zT 9 21 21 19455 hHeld ?_
    refine zT 10 22 21 20479 hHeld ?_
    refine zT 12 24 21 24575 hHeld ?_
    refine zT 15 27 21 57343 hHeld ?_
    refine zN 13 (some 25) 21 65535 (fun K hK => ?_)
    refine zG Try.func135 #[.agg #[.int .i64 ms, .int .i64 ts], .agg #[.int .i64 d, .int .i64 m, .int .i64 n, .int .i64 e], .int .i64 d] ?_
    with_reducible refine (after_n ms ts d m n e d w4.drew HH.out.1 HH.out.2.1 HH.out.2.2.1 HH.out.2.2.2.1 HH.out.2.2.2.2.1 HH.out.2.2.2.2.2.1).mono ?_
    rintro e5 w5 ⟨g5, hg5, rfl, hb5, hN5⟩
    refine ⟨_, rfl, ?_⟩
    have hb5' := below_drew' hb5
    have H5 := Aside0.mk (And.intro hN5 (H4.out.step hb5'))
    clear hb5 hb5' hN5 hg5
    refine hK.out _ _ H5.out.2.cells (fun hHeld => ?_)
    clear hK K
    refine zM 25 ?_
    refine zN 16 (some 28) 21 131071 (fun K hK => ?_)
    refine zG Try.func78 #[.int .i64 m', .int .i64 1] ?_
    with_reducible refine (ratioE_n m' 1 w5 HH.out.2.2.2.2.2.2 i1 (by decide)).mono ?_
    rintro e6 w6 ⟨g6, hg6, rfl, hb6, hN6⟩
    refine ⟨_, rfl, ?_⟩
    have H6 := Aside0.mk (And.intro (H5.out.1.below hb6) (And.intro hN6 (H5.out.2.step hb6)))
    clear hb6 hN6 hg6
    refine hK.out _ _ H6.out.2.2.cells (fun hHeld => ?_)
    clear hK K
    refine zM 28 ?_
    refine zN 17 (some 29) 21 262143 (fun K hK => ?_)
    refine zG Try.func81 #[.pointer (some ⟨g5, 0, none⟩), .pointer (some ⟨g6, 0, none⟩)] ?_
    with_reducible refine (cmpQ_n g5 g6 _ _ 9 2 w6 H6.out.1 H6.out.2.1 (by decide)).mono ?_
    rintro e7 w7 ⟨rfl, hb7⟩
    refine ⟨_, rfl, ?_⟩
    have H7 := Aside0.mk (H6.out.2.2.step hb7)
    clear hb7
    refine hK.out _ _ H7.out.cells (fun hHeld => ?_)
    clear hK K
    refine zM 29 ?_
    refine zP 18 30 21 524287 ?_
    refine zP 19 31 21 1048575 ?_
    refine zP 20 6 21 2097151 ?_
    refine done_ (by kernel_rfl) ?_
    go_wp2_with fail
    go_ret
    exact ⟨ret_b HV3.out.symm, H7.out.below⟩
end Go.Proofs.Ytpbhepdgamoiaaa.Ek
namespace Go.Proofs.Ytpbhepdgamoiaaa.Pe
open Go.RowKit Go Go.Proofs.YtpbhepdgamoiaaaW.PrintWords Go.Proofs.YtpbhepdgamoiaaaW.PrintLast Go.Proofs.YtpbhepdgamoiaaaW.PrintMore Go.Proofs.Ytpbhepdgamoiaaa.Mn Go.Proofs.Ytpbhepdgamoiaaa.Rf Go.Proofs.Ytpbhepdgamoiaaa.Er Go.Proofs.Ytpbhepdgamoiaaa.Ek Go.Proofs.Ytpbhepdgamoiaaa.E
set_option linter.unusedVariables false
set_option linter.unusedSimpArgs false
abbrev Ed := S77
def sumD : List S77 → Int
 | [] => 0
 | x :: t => x.f0 + sumD t
theorem sumD_app (a b : List S77) : sumD (a ++ b) = sumD a + sumD b := by
 induction a with
 | nil => simp [sumD]
 | cons x t ih => simp only [List.cons_append, sumD, ih]; omega
theorem sumD_take (l : List S77) (i : Nat) (hi : i < l.length) : sumD (l.take (i + 1)) = sumD (l.take i) + (l.getD i z77).f0 := by
 rw [List.take_add_one, sumD_app]
 have : l[i]?.toList = [l.getD i z77] := by
  rw [List.getElem?_eq_getElem hi, List.getD_eq_getElem?_getD, List.getElem?_eq_getElem hi]
  rfl
 rw [this]
 simp [sumD]
structure Vd (x : Ed) : Prop where
 d0 : 1 ≤ x.f0
 d1 : x.f0 ≤ 1099511627776
 m0 : -1 ≤ x.f1
 m1 : x.f1 ≤ 1099511627776
 n0 : 0 ≤ x.f2
 n1 : x.f2 ≤ 1000
 e0 : 1 ≤ x.f3
 e1 : x.f3 ≤ 1000
 em : x.f1 < 0 → x.f2 = 1 ∧ x.f3 = 1
instance (x : Ed) : Decidable (Vd x) :=
 decidable_of_iff (1 ≤ x.f0 ∧ x.f0 ≤ 1099511627776 ∧ -1 ≤ x.f1 ∧ x.f1 ≤ 1099511627776 ∧ 0 ≤ x.f2 ∧ x.f2 ≤ 1000 ∧ 1 ≤ x.f3 ∧ x.f3 ≤ 1000 ∧ (x.f1 < 0 → x.f2 = 1 ∧ x.f3 = 1))
  ⟨fun ⟨a, b, c, d, e, f, g, h, i⟩ => ⟨a, b, c, d, e, f, g, h, i⟩, fun h => ⟨h.d0, h.d1, h.m0, h.m1, h.n0, h.n1, h.e0, h.e1, h.em⟩⟩
structure Ck (ms ts : Int) : Prop where
 m0 : 1 ≤ ms
 m1 : ms ≤ 1000000
 t0 : 1 ≤ ts
 t1 : ts ≤ 1000000
instance (ms ts : Int) : Decidable (Ck ms ts) :=
 decidable_of_iff (1 ≤ ms ∧ ms ≤ 1000000 ∧ 1 ≤ ts ∧ ts ≤ 1000000) ⟨fun ⟨a, b, c, d⟩ => ⟨a, b, c, d⟩, fun h => ⟨h.m0, h.m1, h.t0, h.t1⟩⟩
theorem valid_f (x : Ed) : edit_valid.f x.f0 x.f1 x.f2 x.f3 = some true ∧ Vd x ∨ edit_valid.f x.f0 x.f1 x.f2 x.f3 = some false ∧ ¬ Vd x := by
 unfold edit_valid.f
 by_cases h1 : x.f0 < 1
 ·rw [if_pos h1]; exact .inr ⟨rfl, fun h => by have := h.d0; omega⟩
 rw [if_neg h1]
 by_cases h2 : x.f0 > 1099511627776
 ·rw [if_pos h2]; exact .inr ⟨rfl, fun h => by have := h.d1; omega⟩
 rw [if_neg h2]
 by_cases h3 : x.f1 < -1
 ·rw [if_pos h3]; exact .inr ⟨rfl, fun h => by have := h.m0; omega⟩
 rw [if_neg h3]
 by_cases h4 : x.f1 > 1099511627776
 ·rw [if_pos h4]; exact .inr ⟨rfl, fun h => by have := h.m1; omega⟩
 rw [if_neg h4]
 by_cases h5 : x.f2 < 0
 ·rw [if_pos h5]; exact .inr ⟨rfl, fun h => by have := h.n0; omega⟩
 rw [if_neg h5]
 by_cases h6 : x.f2 > 1000
 ·rw [if_pos h6]; exact .inr ⟨rfl, fun h => by have := h.n1; omega⟩
 rw [if_neg h6]
 by_cases h7 : x.f3 < 1
 ·rw [if_pos h7]; exact .inr ⟨rfl, fun h => by have := h.e0; omega⟩
 rw [if_neg h7]
 by_cases h8 : x.f3 > 1000
 ·rw [if_pos h8]; exact .inr ⟨rfl, fun h => by have := h.e1; omega⟩
 rw [if_neg h8]
 by_cases h9 : x.f1 ≥ 0
 ·rw [if_pos h9]; exact .inl ⟨rfl, ⟨by omega, by omega, by omega, by omega, by omega, by omega, by omega, by omega, fun h => by omega⟩⟩
 rw [if_neg h9]
 by_cases h10 : x.f2 = 1
 ·rw [if_pos h10]
  by_cases h11 : x.f3 = 1
  ·rw [h11]; exact .inl ⟨rfl, ⟨by omega, by omega, by omega, by omega, by omega, by omega, by omega, by omega, fun h => by omega⟩⟩
  ·exact .inr ⟨by simp [h11], fun h => by have := h.em (by omega); omega⟩
 ·rw [if_neg h10]; exact .inr ⟨rfl, fun h => by have := h.em (by omega); omega⟩
def chk (l : List Ed) (ms ts : Int) : Int := if ¬ Ck ms ts then 1 else if 20 < l.length then 2 else if (∀ x ∈ l, Vd x) ∧ sumD l ≤ 1099511627776 then 0 else 33
theorem chk_ok {l : List Ed} {ms ts : Int} : chk l ms ts = 0 ↔ Ck ms ts ∧ l.length ≤ 20 ∧ (∀ x ∈ l, Vd x) ∧ sumD l ≤ 1099511627776 := by
 unfold chk
 constructor
 ·intro h
  by_cases h1 : Ck ms ts
  ·rw [if_neg (not_not_intro h1)] at h
   by_cases h2 : 20 < l.length
   ·rw [if_pos h2] at h; cases h
   ·rw [if_neg h2] at h
    by_cases h3 : (∀ x ∈ l, Vd x) ∧ sumD l ≤ 1099511627776
    ·exact ⟨h1, by omega, h3.1, h3.2⟩
    ·rw [if_neg h3] at h; cases h
  ·rw [if_pos h1] at h; cases h
 ·rintro ⟨h1, h2, h3, h4⟩
  rw [if_neg (not_not_intro h1), if_neg (by omega), if_pos ⟨h3, h4⟩]
theorem rd_at (pre : List Ed) (x : Ed) (rest : List Ed) : rd_T77 (pre ++ x :: rest) (pre.length : Int) = x := by
 unfold rd_T77
 simp [List.getD_eq_getElem?_getD]
theorem sumD_nonneg {l : List Ed} (h : ∀ x ∈ l, Vd x) : 0 ≤ sumD l := by
 induction l with
 | nil => simp [sumD]
 | cons x t ih =>
  have h1 := (h x (by simp)).d0
  have h2 := ih (fun y hy => h y (by simp [hy]))
  simp only [sumD]
  omega
theorem sumD_le {l : List Ed} (h : ∀ x ∈ l, Vd x) : sumD l ≤ 1099511627776 * l.length := by
 induction l with
 | nil => simp [sumD]
 | cons x t ih =>
  have h1 := (h x (by simp)).d1
  have h2 := ih (fun y hy => h y (by simp [hy]))
  simp only [sumD, List.length_cons]
  omega
theorem check_l (l : List Ed) (hl : l.length ≤ 20) (rest : List Ed) : ∀ pre, l = pre ++ rest → (∀ x ∈ pre, Vd x) → Ev (fun k => edit_Check.l0 k (sumD pre) l (l.length : Int) (pre.length : Int)) (if (∀ x ∈ rest, Vd x) ∧ sumD l ≤ 1099511627776 then 0 else 33) := by
 induction rest with
 | nil =>
  intro pre he hp
  subst he
  refine Ev.step (f := fun _ => some (if (∀ x ∈ ([] : List Ed), Vd x) ∧ sumD (pre ++ []) ≤ 1099511627776 then 0 else 33)) (fun k => ?_) (Ev.now _)
  simp only [edit_Check.l0, List.append_nil]
  rw [if_neg (by omega)]
  by_cases h : sumD pre > 1099511627776
  ·rw [if_pos h, if_neg (by intro hh; omega)]
  ·rw [if_neg h, if_pos ⟨by simp, by omega⟩]
 | cons x t ih =>
  intro pre he hp
  have hlen : l.length = pre.length + (t.length + 1) := by rw [he]; simp
  have hx : rd_T77 l (pre.length : Int) = x := by rw [he]; exact rd_at pre x t
  rcases valid_f x with ⟨hv, hV⟩ | ⟨hv, hV⟩
  ·have hs : sumD (pre ++ [x]) = sumD pre + x.f0 := by rw [sumD_app]; simp [sumD]
   have hb := sumD_le hp
   have h0 := sumD_nonneg hp
   have hr := ih (pre ++ [x]) (by rw [he]; simp) (by intro y hy; simp only [List.mem_append, List.mem_singleton] at hy; rcases hy with hy | rfl; exact hp y hy; exact hV)
   refine Ev.step (fun k => ?_) (Ev.congr (f := fun k => edit_Check.l0 k (sumD (pre ++ [x])) l (l.length : Int) ((pre ++ [x]).length : Int)) (fun k => rfl) ?_)
   ·simp only [edit_Check.l0]
    rw [if_pos (by omega), if_pos (by omega), if_pos (by omega), hx, hv]
    simp only [Option.bind_some, if_true]
    rw [w64 (by have := hV.d0; omega) (by have := hV.d1; omega), w64 (by omega) (by omega), hs]
    simp
   ·have e : ((∀ y ∈ x :: t, Vd y) ∧ sumD l ≤ 1099511627776) = ((∀ y ∈ t, Vd y) ∧ sumD l ≤ 1099511627776) := by
     apply propext
     constructor
     ·rintro ⟨h1, h2⟩; exact ⟨fun y hy => h1 y (by simp [hy]), h2⟩
     ·rintro ⟨h1, h2⟩; exact ⟨fun y hy => by simp only [List.mem_cons] at hy; rcases hy with rfl | hy; exact hV; exact h1 y hy, h2⟩
    simp only [e]
    exact hr
  ·refine Ev.step (f := fun _ => some 33) (fun k => ?_) ?_
   ·simp only [edit_Check.l0]
    rw [if_pos (by omega), if_pos (by omega), if_pos (by omega), hx, hv]
    simp
   ·rw [if_neg (fun h => hV (h.1 x (by simp)))]
    exact Ev.now _
theorem scale_f (n : Int) : edit_isScale.f n = some (decide (1 ≤ n ∧ n ≤ 1000000)) := by
 unfold edit_isScale.f
 by_cases h : n ≥ 1
 ·rw [if_pos h]; simp; omega
 ·rw [if_neg h]; simp; omega
theorem check_f (l : List Ed) (ms ts : Int) : Ev (fun k => edit_Check.f k l ms ts) (chk l ms ts) := by
 have h0 : ∀ b, Ev (fun k => edit_Check.j0 k l b) (if b = true then 1 else if 20 < l.length then 2 else if (∀ x ∈ l, Vd x) ∧ sumD l ≤ 1099511627776 then 0 else 33) := by
  intro b
  by_cases hb : b = true
  ·rw [if_pos hb]
   refine Ev.step (f := fun _ => some 1) (fun k => ?_) (Ev.now _)
   simp only [edit_Check.j0]
   rw [if_pos hb]
  ·rw [if_neg hb]
   by_cases hl : 20 < l.length
   ·rw [if_pos hl]
    refine Ev.step (f := fun _ => some 2) (fun k => ?_) (Ev.now _)
    simp only [edit_Check.j0]
    rw [if_neg hb, if_pos (by omega)]
   ·rw [if_neg hl]
    refine Ev.step (fun k => ?_) (check_l l (by omega) l [] rfl (by simp))
    simp only [edit_Check.j0]
    rw [if_neg hb, if_neg (by omega)]
    rfl
 unfold chk
 by_cases h1 : 1 ≤ ms ∧ ms ≤ 1000000
 ·by_cases h2 : 1 ≤ ts ∧ ts ≤ 1000000
  ·rw [if_neg (not_not_intro ⟨h1.1, h1.2, h2.1, h2.2⟩)]
   refine Ev.congr (fun k => ?_) (h0 false)
   unfold edit_Check.f
   rw [scale_f, scale_f, decide_eq_true h1, decide_eq_true h2]
   rfl
  ·rw [if_pos (fun h => h2 ⟨h.t0, h.t1⟩)]
   refine Ev.congr (fun k => ?_) (h0 true)
   unfold edit_Check.f
   rw [scale_f, scale_f, decide_eq_true h1, decide_eq_false h2]
   rfl
 ·rw [if_pos (fun h => h1 ⟨h.m0, h.m1⟩)]
  refine Ev.congr (fun k => ?_) (h0 true)
  unfold edit_Check.f
  rw [scale_f, decide_eq_false h1]
  rfl
end Go.Proofs.Ytpbhepdgamoiaaa.Pe
namespace Go.Proofs.Ytpbhepdgamoiaaa.Rg
open Go.RowKit Go Go.Proofs.YtpbhepdgamoiaaaW.PrintWords Go.Proofs.YtpbhepdgamoiaaaW.PrintLast Go.Proofs.YtpbhepdgamoiaaaW.PrintMore Go.Proofs.Ytpbhepdgamoiaaa.Ml Go.Proofs.Ytpbhepdgamoiaaa.Mn Go.Proofs.Ytpbhepdgamoiaaa.Nd Go.Proofs.Ytpbhepdgamoiaaa.Z Go.Proofs.Ytpbhepdgamoiaaa.P Go.Proofs.Ytpbhepdgamoiaaa.Nc Go.Proofs.Ytpbhepdgamoiaaa.Nb Go.Proofs.Ytpbhepdgamoiaaa.Qa Go.Proofs.Ytpbhepdgamoiaaa.Ea Go.Proofs.Ytpbhepdgamoiaaa.Ra Go.Proofs.Ytpbhepdgamoiaaa.Rf
set_option linter.unusedVariables false
set_option linter.unusedSimpArgs false
end Go.Proofs.Ytpbhepdgamoiaaa.Rg
namespace Go.Proofs.Ytpbhepdgamoiaaa.Et
open Go.RowKit Go Go.Proofs.YtpbhepdgamoiaaaW.PrintWords Go.Proofs.YtpbhepdgamoiaaaW.PrintLast Go.Proofs.YtpbhepdgamoiaaaW.PrintMore Go.Proofs.Ytpbhepdgamoiaaa.Ml Go.Proofs.Ytpbhepdgamoiaaa.Mn Go.Proofs.Ytpbhepdgamoiaaa.Nd Go.Proofs.Ytpbhepdgamoiaaa.Z Go.Proofs.Ytpbhepdgamoiaaa.Nc Go.Proofs.Ytpbhepdgamoiaaa.Nb Go.Proofs.Ytpbhepdgamoiaaa.Qa Go.Proofs.Ytpbhepdgamoiaaa.Ea Go.Proofs.Ytpbhepdgamoiaaa.Ra Go.Proofs.Ytpbhepdgamoiaaa.Rf Go.Proofs.Ytpbhepdgamoiaaa.Rg Go.Proofs.Ytpbhepdgamoiaaa.Er
set_option linter.unusedVariables false
set_option linter.unusedSimpArgs false
def timeObj (n d : Int) : Obj := .cells #[.int .i64 n, .int .i64 d] 37 (0, 0)
theorem cmp_gt {q m : Int} (h : m < q) : cmpI q m = 1 := by unfold cmpI; rw [if_neg (by omega), if_pos h]
theorem cmp_le {q m : Int} (h : ¬ m < q) : ∃ c : Int, c ≤ 0 ∧ cmpI q m = c := by
 refine ⟨_, ?_, rfl⟩
 unfold cmpI
 by_cases h2 : q < m
 ·rw [if_pos h2]; decide
 ·rw [if_neg h2, if_neg h]; decide
end Go.Proofs.Ytpbhepdgamoiaaa.Et
namespace Go.Proofs.Ytpbhepdgamoiaaa.E
open Go.RowKit Go Go.Proofs.YtpbhepdgamoiaaaW.PrintWords Go.Proofs.YtpbhepdgamoiaaaW.PrintLast Go.Proofs.YtpbhepdgamoiaaaW.PrintMore Go.Proofs.Ytpbhepdgamoiaaa.Ml Go.Proofs.Ytpbhepdgamoiaaa.Mn Go.Proofs.Ytpbhepdgamoiaaa.Nd Go.Proofs.Ytpbhepdgamoiaaa.Z Go.Proofs.Ytpbhepdgamoiaaa.Nc Go.Proofs.Ytpbhepdgamoiaaa.Nb Go.Proofs.Ytpbhepdgamoiaaa.Qa Go.Proofs.Ytpbhepdgamoiaaa.Ea Go.Proofs.Ytpbhepdgamoiaaa.Ra Go.Proofs.Ytpbhepdgamoiaaa.Rf Go.Proofs.Ytpbhepdgamoiaaa.Er Go.Proofs.Ytpbhepdgamoiaaa.Ek Go.Proofs.Ytpbhepdgamoiaaa.Et Go.Proofs.Ytpbhepdgamoiaaa.Pe
set_option linter.unusedVariables false
set_option linter.unusedSimpArgs false
structure Mx (w W : World) (n d : Int) : Prop where
 a : W.heap[w.heap.size]? = some (timeObj n d)
 r : W.heap[w.heap.size + 1]? = some (timeObj 0 0)
 z : W.heap[w.heap.size + 1 + 1]? = some (timeObj 0 1)
 below : Below w.heap.size w W
theorem Mx.start (w : World) (n d : Int) : Mx w (((w.alloc (timeObj n d)).alloc (timeObj 0 0)).alloc (timeObj 0 1)) n d := by
 have e1 : (w.alloc (timeObj n d)).heap.size = w.heap.size + 1 := by simp
 have e2 : ((w.alloc (timeObj n d)).alloc (timeObj 0 0)).heap.size = w.heap.size + 1 + 1 := by simp
 have k3 := blk_new ((w.alloc (timeObj n d)).alloc (timeObj 0 0)) (timeObj 0 1)
 have k2 := blk_new (w.alloc (timeObj n d)) (timeObj 0 0)
 rw [e2] at k3
 rw [e1] at k2
 exact ⟨blk_alloc (blk_alloc (blk_new w _) _) _, blk_alloc k2 _, k3, below_alloc (below_alloc (below_alloc (Below.refl _ w) _) _) _⟩
theorem Mx.step {w W W2 : World} {n d : Int} (h : Mx w W n d) (hb : Below W.heap.size W W2) : Mx w W2 n d :=
 ⟨blk_below h.a hb, blk_below h.r hb, blk_below h.z hb, h.below.trans (hb.mono h.below.size)⟩
structure At (l : List Ed) (i b : Int) (X : Ed) : Prop where
 vd : Vd X
 drop : l.drop i.toNat = X :: l.drop (i + 1).toNat
 sum : b + X.f0 = sumD (l.take (i + 1).toNat)
 b0 : 0 ≤ b
 b1 : b + X.f0 ≤ 1099511627776
theorem At.of {l : List Ed} {i b : Int} (h0 : 0 ≤ i) (h1 : i < (l.length : Int)) (hb : b = sumD (l.take i.toNat)) (hV : ∀ x ∈ l, Vd x) (hs : sumD l ≤ 1099511627776) : At l i b (rd_T77 l i) := by
 have hn : i.toNat < l.length := by omega
 have hE : rd_T77 l i = l.getD i.toNat z77 := rfl
 have hi : (i + 1).toNat = i.toNat + 1 := by omega
 have hmem : l.getD i.toNat z77 ∈ l := by
  rw [List.getD_eq_getElem?_getD, List.getElem?_eq_getElem hn]
  exact List.getElem_mem hn
 have hg : l.getD i.toNat z77 = l[i.toNat] := by
  rw [List.getD_eq_getElem?_getD, List.getElem?_eq_getElem hn]
  rfl
 have hst := sumD_take l i.toNat hn
 have hd : sumD l = sumD (l.take (i.toNat + 1)) + sumD (l.drop (i.toNat + 1)) := by rw [← sumD_app, List.take_append_drop]
 have h2 := sumD_nonneg (l := l.drop (i.toNat + 1)) (fun x hx => hV x (List.mem_of_mem_drop hx))
 have h3 := sumD_nonneg (l := l.take i.toNat) (fun x hx => hV x (List.mem_of_mem_take hx))
 rw [hE]
 refine ⟨hV _ hmem, ?_, ?_, by omega, by omega⟩
 ·rw [hi, hg]
  exact List.drop_eq_getElem_cons hn
 ·rw [hi, hst, hb]
structure Rx (w W : World) (n d : Int) (q : Rat) (g G : Nat) (X : Ed) : Prop where
 m : Mx w W n d
 q : RQ W g q 2
 e : W.heap[G]? = some (edO X.f0 X.f1 X.f2 X.f3)
theorem Rx.step {w W W2 : World} {n d : Int} {q : Rat} {g G : Nat} {X : Ed} (h : Rx w W n d q g G X) (hb : Below W.heap.size W W2) : Rx w W2 n d q g G X := ⟨h.m.step hb, h.q.below hb, blk_below h.e hb⟩
theorem Rx.cells {w W : World} {n d : Int} {q : Rat} {g G : Nat} {X : Ed} (h : Rx w W n d q g G X) : W.cell? ⟨G, 0, none⟩ = some (.int .i64 X.f0) ∧ W.cell? ⟨G, 1, none⟩ = some (.int .i64 X.f1) ∧ W.cell? ⟨G, 2, none⟩ = some (.int .i64 X.f2) ∧ W.cell? ⟨G, 3, none⟩ = some (.int .i64 X.f3) := ed_cells h.e
theorem Rx.start {w W : World} {n d : Int} {q : Rat} {g : Nat} (X : Ed) (h : Mx w W n d) (hq : RQ W g q 2) : Rx w (W.alloc (edO X.f0 X.f1 X.f2 X.f3)) n d q g W.heap.size X :=
 ⟨h.step (below_alloc (Below.refl _ W) _), hq.below (below_alloc (Below.refl _ W) _), blk_new W _⟩
end Go.Proofs.Ytpbhepdgamoiaaa.E
namespace Go.Proofs.Ytpbhepdgamoiaaa.G
open Go.Proofs.Ytpbhepdgamoiaaa.Z Go.RowKit Go.Proofs.YtpbhepdgamoiaaaW.PrintWords Go.Proofs.YtpbhepdgamoiaaaW.PrintLast Go.Proofs.YtpbhepdgamoiaaaW.PrintMore
attribute [local go_sem] max2_int min2_int max_two min_two max_three min_three max_four min_four
set_option linter.unusedVariables false
set_option linter.unusedSimpArgs false
def errW : Option Int → Value
 | none => .nilIface
 | some c => .iface 0 (.int .i64 c)
theorem errW_none : errW none = .nilIface := rfl
theorem errW_some (c : Int) : errW (some c) = .iface 0 (.int .i64 c) := rfl
end Go.Proofs.Ytpbhepdgamoiaaa.G
namespace Go.Proofs.Ytpbhepdgamoiaaa.El
open Go.RowKit Go Go.Proofs.YtpbhepdgamoiaaaW.PrintWords Go.Proofs.YtpbhepdgamoiaaaW.PrintLast Go.Proofs.YtpbhepdgamoiaaaW.PrintMore Go.Proofs.Ytpbhepdgamoiaaa.Ml Go.Proofs.Ytpbhepdgamoiaaa.Mn Go.Proofs.Ytpbhepdgamoiaaa.Nd Go.Proofs.Ytpbhepdgamoiaaa.Z Go.Proofs.Ytpbhepdgamoiaaa.Nc Go.Proofs.Ytpbhepdgamoiaaa.Nb Go.Proofs.Ytpbhepdgamoiaaa.Qa Go.Proofs.Ytpbhepdgamoiaaa.Ea Go.Proofs.Ytpbhepdgamoiaaa.Ra Go.Proofs.Ytpbhepdgamoiaaa.Rf Go.Proofs.Ytpbhepdgamoiaaa.Er Go.Proofs.Ytpbhepdgamoiaaa.Ek Go.Proofs.Ytpbhepdgamoiaaa.G
set_option linter.unusedVariables false
set_option linter.unusedSimpArgs false
end Go.Proofs.Ytpbhepdgamoiaaa.El
namespace Go.Proofs.Ytpbhepdgamoiaaa.Ew
open Go.RowKit Go Go.Proofs.YtpbhepdgamoiaaaW.PrintWords Go.Proofs.YtpbhepdgamoiaaaW.PrintLast Go.Proofs.YtpbhepdgamoiaaaW.PrintMore Go.Proofs.Ytpbhepdgamoiaaa.Ml Go.Proofs.Ytpbhepdgamoiaaa.Mn Go.Proofs.Ytpbhepdgamoiaaa.Nd Go.Proofs.Ytpbhepdgamoiaaa.Z Go.Proofs.Ytpbhepdgamoiaaa.Nc Go.Proofs.Ytpbhepdgamoiaaa.Nb Go.Proofs.Ytpbhepdgamoiaaa.Qa Go.Proofs.Ytpbhepdgamoiaaa.Ea Go.Proofs.Ytpbhepdgamoiaaa.Ra Go.Proofs.Ytpbhepdgamoiaaa.Rf Go.Proofs.Ytpbhepdgamoiaaa.Er
set_option linter.unusedVariables false
set_option linter.unusedSimpArgs false
end Go.Proofs.Ytpbhepdgamoiaaa.Ew
namespace Go.Proofs.Ytpbhepdgamoiaaa.E
open Go.RowKit Go Go.Proofs.YtpbhepdgamoiaaaW.PrintWords Go.Proofs.YtpbhepdgamoiaaaW.PrintLast Go.Proofs.YtpbhepdgamoiaaaW.PrintMore Go.Proofs.Ytpbhepdgamoiaaa.Ml Go.Proofs.Ytpbhepdgamoiaaa.Mn Go.Proofs.Ytpbhepdgamoiaaa.Nd Go.Proofs.Ytpbhepdgamoiaaa.Z Go.Proofs.Ytpbhepdgamoiaaa.Nc Go.Proofs.Ytpbhepdgamoiaaa.Nb Go.Proofs.Ytpbhepdgamoiaaa.Qa Go.Proofs.Ytpbhepdgamoiaaa.Ea Go.Proofs.Ytpbhepdgamoiaaa.Ra Go.Proofs.Ytpbhepdgamoiaaa.Rf Go.Proofs.Ytpbhepdgamoiaaa.Er Go.Proofs.Ytpbhepdgamoiaaa.Ek Go.Proofs.Ytpbhepdgamoiaaa.Ew Go.Proofs.Ytpbhepdgamoiaaa.Et Go.Proofs.Ytpbhepdgamoiaaa.Pe
set_option linter.unusedVariables false
set_option linter.unusedSimpArgs false
def in64 (x : Int) : Bool := decide (-9223372036854775808 ≤ x) && decide (x ≤ 9223372036854775807)
theorem in64_iff {x : Int} : in64 x = true ↔ I64 x := by
 unfold in64
 simp only [Bool.and_eq_true, decide_eq_true_eq]
 exact ⟨fun h => ⟨h.1, h.2⟩, fun h => ⟨h.lo, h.hi⟩⟩
def rateOk (n e : Int) : Bool := decide (0 ≤ n) && (decide (n ≤ 1000000) && (decide (1 ≤ e) && decide (e ≤ 1000000)))
def edit_lowest.f (a0_0 : Int) (a0_1 : Int) (a0_2 : Int) (a0_3 : Int) : Option (Int × Int × Int × Int) := if rateOk a0_2 a0_3 = true then some (a0_0, a0_1, (qq a0_2 a0_3).num, ((qq a0_2 a0_3).den : Int)) else none
theorem edit_lowest.calls (a0_0 : Int) (a0_1 : Int) (a0_2 : Int) (a0_3 : Int) (r1 : Int) (r2 : Int) (r3 : Int) (r4 : Int) (w : World) (h : edit_lowest.f a0_0 a0_1 a0_2 a0_3 = some (r1, r2, r3, r4)) :
  Calls Try.prog 71 #[.agg #[.int .i64 a0_0, .int .i64 a0_1, .int .i64 a0_2, .int .i64 a0_3]] w fun e w' => e = .returned (.agg #[.int .i64 r1, .int .i64 r2, .int .i64 r3, .int .i64 r4]) ∧ Below w.heap.size w w' := by
 unfold edit_lowest.f rateOk at h
 simp only [Bool.and_eq_true, decide_eq_true_eq] at h
 split at h
 ·rename_i hc
  obtain ⟨h0, h1, h2, h3⟩ := hc
  simp only [Option.some.injEq, Prod.mk.injEq] at h
  obtain ⟨rfl, rfl, rfl, rfl⟩ := h
  exact lowest_n _ _ _ _ w h0 h1 h2 h3
 ·cases h
def overOk (ms ts d m n e m' : Int) : Bool := in64 ms && (in64 ts && (in64 d && (in64 m && (in64 n && (in64 e && (in64 m' && (decide (ms ≠ 0) && decide (e ≠ 0))))))))
def edit_clocks_over.f (a0_0 : Int) (a0_1 : Int) (a1_0 : Int) (a1_1 : Int) (a1_2 : Int) (a1_3 : Int) (a2_0 : Int) (a2_1 : Int) (a2_2 : Int) (a2_3 : Int) : Option (Bool) := if overOk a0_0 a0_1 a1_0 a1_1 a1_2 a1_3 a2_1 = true then some (overB a0_0 a0_1 a1_0 a1_1 a1_2 a1_3 a2_1 a2_2 a2_3) else none
theorem edit_clocks_over.calls (a0_0 : Int) (a0_1 : Int) (a1_0 : Int) (a1_1 : Int) (a1_2 : Int) (a1_3 : Int) (a2_0 : Int) (a2_1 : Int) (a2_2 : Int) (a2_3 : Int) (r : Bool) (w : World) (h : edit_clocks_over.f a0_0 a0_1 a1_0 a1_1 a1_2 a1_3 a2_0 a2_1 a2_2 a2_3 = some r) :
  Calls Try.prog 113 #[.agg #[.int .i64 a0_0, .int .i64 a0_1], .agg #[.int .i64 a1_0, .int .i64 a1_1, .int .i64 a1_2, .int .i64 a1_3], .agg #[.int .i64 a2_0, .int .i64 a2_1, .int .i64 a2_2, .int .i64 a2_3]] w fun e w' => e = .returned (.bool r) ∧ Below w.heap.size w w' := by
 unfold edit_clocks_over.f overOk at h
 split at h
 ·rename_i hc
  simp only [Bool.and_eq_true, decide_eq_true_eq, in64_iff] at hc
  obtain ⟨h1, h2, h3, h4, h5, h6, h7, h8, h9⟩ := hc
  simp only [Option.some.injEq] at h
  subst h
  exact over_n _ _ _ _ _ _ _ _ _ _ w ⟨h1, h8⟩ h2 h4 h5 ⟨h6, h9⟩ h3 h7
 ·cases h
theorem cmp_gt {q m : Int} (h : m < q) : cmpI q m = 1 := by unfold cmpI; rw [if_neg (by omega), if_pos h]
theorem cmp_le {q m : Int} (h : ¬ m < q) : ∃ c : Int, c ≤ 0 ∧ cmpI q m = c := by
 refine ⟨_, ?_, rfl⟩
 unfold cmpI
 by_cases h2 : q < m
 ·rw [if_pos h2]; decide
 ·rw [if_neg h2, if_neg h]; decide
def S2 (w0 : World) (p : Rat) (g1 : Nat) (q : Rat) (g2 : Nat) (w : World) : Prop := Below w0.heap.size w0 w ∧ (RQ w g1 p 2 ∧ RQ w g2 q 2)
end Go.Proofs.Ytpbhepdgamoiaaa.E
namespace Go.Proofs.Ytpbhepdgamoiaaa.E
open Go.Proofs.Ytpbhepdgamoiaaa.Z Go.RowKit Go.Proofs.YtpbhepdgamoiaaaW.PrintWords Go.Proofs.YtpbhepdgamoiaaaW.PrintLast Go.Proofs.YtpbhepdgamoiaaaW.PrintMore
attribute [local go_sem] max2_int min2_int max_two min_two max_three min_three max_four min_four
set_option linter.unusedVariables false
set_option linter.unusedSimpArgs false
mutual
def edit_clocks_normal.l0 : Nat → List (S77) → Int → List (S77) → Int → Int → Int → Int → Option ((List (S77)) × Int)
  | 0, _, _, _, _, _, _, _ => none
  | k + 1, x6, x7, x11, x12, x13, x113000, x113001 => if x13 < x12 then (if 0 ≤ x13 then (if x13 < (x11.length : Int) then ((edit_lowest.f ((rd_T77 x11 x13).f0) ((rd_T77 x11 x13).f1) ((rd_T77 x11 x13).f2) ((rd_T77 x11 x13).f3)).bind fun bt115 => (if (wrap64 (x7 + bt115.1)) > 1099511627776 then (some (([] : List (S77)), 2)) else (edit_clocks_normal.l1 k x6 (wrap64 (x7 + bt115.1)) (x6.length : Int) x11 x12 x13 x113000 x113001 bt115.1 bt115.2.1 bt115.2.2.1 bt115.2.2.2))) else (none)) else (none)) else (if (x6.length : Int) > 20 then (some (([] : List (S77)), 2)) else (some (x6, 0)))
def edit_clocks_normal.l1 : Nat → List (S77) → Int → Int → List (S77) → Int → Int → Int → Int → Int → Int → Int → Int → Option ((List (S77)) × Int)
  | 0, _, _, _, _, _, _, _, _, _, _, _, _ => none
  | k + 1, x6, x7, x10, x11, x12, x13, x113000, x113001, x115000, x115001, x115002, x115003 => if x10 > 0 then (if 0 ≤ (wrap64 (x10 - 1)) then (if (wrap64 (x10 - 1)) < (x6.length : Int) then ((edit_clocks_over.f x113000 x113001 ((rd_T77 x6 (wrap64 (x10 - 1))).f0) ((rd_T77 x6 (wrap64 (x10 - 1))).f1) ((rd_T77 x6 (wrap64 (x10 - 1))).f2) ((rd_T77 x6 (wrap64 (x10 - 1))).f3) x115000 x115001 x115002 x115003).bind fun t120 => (if t120 = true then (edit_clocks_normal.l0 k (x6.set ((wrap64 (x10 - 1)) : Int).toNat (⟨wrap64 (((rd_T77 x6 (wrap64 (x10 - 1))).f0) + x115000), (rd_T77 x6 (wrap64 (x10 - 1))).f1, (rd_T77 x6 (wrap64 (x10 - 1))).f2, (rd_T77 x6 (wrap64 (x10 - 1))).f3⟩ : S77)) x7 x11 x12 (wrap64 (x13 + 1)) x113000 x113001) else (if x6.length < 4398046511104 then (edit_clocks_normal.l0 k (x6 ++ [(⟨x115000, x115001, x115002, x115003⟩ : S77)]) x7 x11 x12 (wrap64 (x13 + 1)) x113000 x113001) else (none)))) else (none)) else (none)) else (if x6.length < 4398046511104 then (edit_clocks_normal.l0 k (x6 ++ [(⟨x115000, x115001, x115002, x115003⟩ : S77)]) x7 x11 x12 (wrap64 (x13 + 1)) x113000 x113001) else (none))
end
def edit_clocks_normal.f (k : Nat) (a0_0 : Int) (a0_1 : Int) (l1 : List (S77)) : Option ((List (S77)) × Int) := edit_clocks_normal.l0 k ([] : List (S77)) 0 l1 (l1.length : Int) 0 a0_0 a0_1
set_option maxHeartbeats 8000000 in
set_option maxRecDepth 100000 in
theorem edit_clocks_normal.calls (k : Nat) (a0_0 : Int) (a0_1 : Int) (A1 : Option Addr) (c1 : Nat) (l1 : List (S77)) (r1 : List (S77)) (r2 : Int) (w : World) (hr1 : Kd.C k77 w A1 l1.length l1) (hc1 : l1.length ≤ c1) (h : edit_clocks_normal.f k a0_0 a0_1 l1 = some (r1, r2)) :
  Calls Try.prog 57 #[.agg #[.int .i64 a0_0, .int .i64 a0_1], .slice A1 l1.length c1] w fun e w' => ∃ v0_ : Value, e = .returned (.tuple #[v0_, .int .i64 r2]) ∧ Kd.R k77 77 w' w.heap.size (fun _ => True) v0_ r1 ∧ Below w.heap.size w w' := by
 have hu79 := Try.underlying79; have hu77 := Try.underlying77; have HR1 := Aside0.mk hr1; have HC1 := Aside0.mk hc1; clear hr1 hc1; have HB := Aside0.mk (Below.refl w.heap.size w); have H : (edit_clocks_normal.l0 k ([] : List (S77)) 0 l1 (l1.length : Int) 0 a0_0 a0_1) = some (r1, r2) := h; clear h; have H' := Aside0.mk H; clear H
 go_enter Try.func57, Try.ntmps57
 go_wp2_with (first | ((with_reducible refine gate_dst (N := 2) rfl ?_); refine zB 2 79 #[.int .i64 a0_0, .int .i64 a0_1] ?_; intro gb112 hg w3 hbox hb; have BK112 := Aside0.mk hbox; have GW112 := gz hg; have GE112 := gz hg; replace HB := bp hb; clear hb hbox hg))
 go_step3
 go_wp2
 go_step3
 go_wp2
 go_loopg [6, 7, 13] k (fun kq v6 v7 v13 w' => ∃ (x6_1 : List (S77)) (x7_1 : Int) (x13_1 : Int), v7 = .int .i64 x7_1 ∧ v13 = .int .i64 x13_1 ∧ Aside0 (edit_clocks_normal.l0 kq x6_1 x7_1 l1 (l1.length : Int) x13_1 a0_0 a0_1 = some (r1, r2)) ∧ Aside0 (kq ≤ k) ∧ Aside0 (Kd.R k77 77 w' w.heap.size (fun _ => True) v6 x6_1) ∧ Aside0 (w'.heap[gb112]? = some (.cells #[.int .i64 a0_0, .int .i64 a0_1] 79 (0, 0))) ∧ Aside0 (Below w.heap.size w w'))
 case atStart => exact ⟨(([] : List (S77))), (0), (0), jz, jz, H', ⟨Nat.le_refl _⟩, ⟨by first | exact Kd.R_nil _ _ _ _ _ | exact Kd.N_nil _ _ _ _ _ | exact Kd.V_nil _ _ _ _ _ | exact Kd.Q_nil _ _ _ _ _ | exact Kd.S_nil _ _ _ _ _⟩, ⟨kz⟩, ⟨bz⟩⟩
 case round =>
  clear H'
  try clear c1
  try clear p2
  obtain ⟨x6_1, x7_1, x13_1, rfl, rfl, HA, HK1, HO_6, BK112, HB⟩ := hrel
  cases gk with
  | zero => exact absurd HA.out (by simp [edit_clocks_normal.l0])
  | succ k1 =>
   have H := HA.out; clear HA; simp only [edit_clocks_normal.l0] at H
   by_cases c4 : x13_1 < (l1.length : Int)
   ·rw [if_pos c4] at H; have c4b0 : decide (x13_1 < (l1.length : Int)) = true := decide_eq_true c4; clear c4
    by_cases c5 : 0 ≤ x13_1
    ·rw [if_pos c5] at H; have c5b0 : decide (0 ≤ x13_1) = true := decide_eq_true c5; clear c5
     by_cases c6 : x13_1 < (l1.length : Int)
     ·rw [if_pos c6] at H; have c6b0 : decide (x13_1 < (l1.length : Int)) = true := decide_eq_true c6; clear c6; obtain ⟨⟨t115, t116, t117, t118⟩, A7, H⟩ := ob H
      (try dsimp only at H)
      by_cases c8 : (wrap64 (x7_1 + t115)) > 1099511627776
      ·rw [if_pos c8] at H; have c8b0 : decide (1099511627776 < (wrap64 (x7_1 + t115))) = true := decide_eq_true c8; clear c8; simp only [Option.some.injEq, Prod.mk.injEq] at H; obtain ⟨rfl, rfl⟩ := H; have p113 : 0 ≤ (x13_1 : Int) := od; have q113 : x13_1 < (l1.length : Int) := od; obtain ⟨ad113, e113, hx113_0, hx113_1, hx113_2, hx113_3⟩ := at_T77 HR1.out x13_1 p113 q113
       cases e113
       replace hx113_0 := cl HB hx113_0; replace hx113_1 := cl HB hx113_1; replace hx113_2 := cl HB hx113_2; replace hx113_3 := cl HB hx113_3; replace p113 := eq_true p113; replace q113 := eq_true q113
       go_wp2_with (first | ((with_reducible refine gate_dst (N := 9) rfl ?_); refine zB 9 77 #[.int .i64 0, .int .i64 0, .int .i64 0, .int .i64 0] ?_; intro gb114 hg w9 hbox hb; replace HO_6 := Aside0.mk (Kd.R_below (Kd.R_elderB (rz HO_6) gb114 (Nat.le_of_eq hg.symm)) hb); have BK114 := Aside0.mk hbox; have GW114 := gz hg; have GE114 := gz hg; replace HB := bp hb; have NB112_114 := Aside0.mk ((by rw [hg]; exact Nat.ne_of_lt (bl BK112) : gb112 ≠ gb114)); have NB114_112 := Aside0.mk ((by rw [hg]; exact Nat.ne_of_gt (bl BK112) : gb114 ≠ gb112)); replace BK112 := kb BK112 hb; clear hb hbox hg; have hnb10 := NB114_112.out; have hnc10 := NB112_114.out; obtain ⟨hcz11_0, hcz11_1, hcz11_2, hcz11_3, hfz11_0, hfz11_1, hfz11_2, hfz11_3⟩ := xc4 BK114) | ((with_reducible refine gate_callee (f := 71) rfl ?_); refine zC 18 Try.func71 #[.agg #[.int .i64 ((rd_T77 l1 x13_1).f0), .int .i64 ((rd_T77 l1 x13_1).f1), .int .i64 ((rd_T77 l1 x13_1).f2), .int .i64 ((rd_T77 l1 x13_1).f3)]] ?_; (with_reducible refine (edit_lowest.calls ((rd_T77 l1 x13_1).f0) ((rd_T77 l1 x13_1).f1) ((rd_T77 l1 x13_1).f2) ((rd_T77 l1 x13_1).f3) t115 t116 t117 t118 _ A7.out).mono ?_); rintro e w12 ⟨rfl, hb⟩; refine ⟨_, rfl, ?_⟩; replace HO_6 := Aside0.mk (Kd.R_below (by (with_reducible repeat (first | apply Kd.R_alloc | apply Kd.R_drewN | apply Kd.R_drew)); exact (Kd.R_mono (Kd.R_far (p := ⟨gb114, 3, none⟩) (Kd.R_far (p := ⟨gb114, 2, none⟩) (Kd.R_far (p := ⟨gb114, 1, none⟩) (Kd.R_far (p := ⟨gb114, 0, none⟩) (Kd.R_mono HO_6.out (fun k_ hk => (⟨hk, hk.2⟩ : _ ∧ k_ ≠ gb114))) (fun _ hk => hk.2) (.int .i64 ((rd_T77 l1 x13_1).f0))) (fun _ hk => hk.2) (.int .i64 ((rd_T77 l1 x13_1).f1))) (fun _ hk => hk.2) (.int .i64 ((rd_T77 l1 x13_1).f2))) (fun _ hk => hk.2) (.int .i64 ((rd_T77 l1 x13_1).f3))) (fun _ h_ => h_.1))) hb); replace BK112 := Aside0.mk (blk_below (g := gb112) (o := .cells #[.int .i64 a0_0, .int .i64 a0_1] 79 (0, 0)) (by (with_reducible repeat (first | refine blk_drewN ?_ _ | refine blk_drew ?_ | refine blk_alloc ?_ _)); refine blk_far ?_ NB112_114.out _; (with_reducible repeat (first | refine blk_drewN ?_ _ | refine blk_drew ?_ | refine blk_alloc ?_ _)); refine blk_far ?_ NB112_114.out _; (with_reducible repeat (first | refine blk_drewN ?_ _ | refine blk_drew ?_ | refine blk_alloc ?_ _)); refine blk_far ?_ NB112_114.out _; (with_reducible repeat (first | refine blk_drewN ?_ _ | refine blk_drew ?_ | refine blk_alloc ?_ _)); refine blk_far ?_ NB112_114.out _; (with_reducible repeat (first | refine blk_drewN ?_ _ | refine blk_drew ?_ | refine blk_alloc ?_ _)); exact BK112.out) hb); replace BK114 := Aside0.mk (blk_below (g := gb114) (o := .cells #[.int .i64 ((rd_T77 l1 x13_1).f0), .int .i64 ((rd_T77 l1 x13_1).f1), .int .i64 ((rd_T77 l1 x13_1).f2), .int .i64 ((rd_T77 l1 x13_1).f3)] 77 (0, 0)) (by (with_reducible repeat (first | refine blk_drewN ?_ _ | refine blk_drew ?_ | refine blk_alloc ?_ _)); refine blk_put (cs := #[.int .i64 ((rd_T77 l1 x13_1).f0), .int .i64 ((rd_T77 l1 x13_1).f1), .int .i64 ((rd_T77 l1 x13_1).f2), .int .i64 0]) ?_ 3 _ rfl; (with_reducible repeat (first | refine blk_drewN ?_ _ | refine blk_drew ?_ | refine blk_alloc ?_ _)); refine blk_put (cs := #[.int .i64 ((rd_T77 l1 x13_1).f0), .int .i64 ((rd_T77 l1 x13_1).f1), .int .i64 0, .int .i64 0]) ?_ 2 _ rfl; (with_reducible repeat (first | refine blk_drewN ?_ _ | refine blk_drew ?_ | refine blk_alloc ?_ _)); refine blk_put (cs := #[.int .i64 ((rd_T77 l1 x13_1).f0), .int .i64 0, .int .i64 0, .int .i64 0]) ?_ 1 _ rfl; (with_reducible repeat (first | refine blk_drewN ?_ _ | refine blk_drew ?_ | refine blk_alloc ?_ _)); refine blk_put (cs := #[.int .i64 0, .int .i64 0, .int .i64 0, .int .i64 0]) ?_ 0 _ rfl; (with_reducible repeat (first | refine blk_drewN ?_ _ | refine blk_drew ?_ | refine blk_alloc ?_ _)); exact BK114.out) hb); replace HB := bp hb; clear hb; obtain ⟨hcz13_0, hcz13_1, hcz13_2, hcz13_3, hfz13_0, hfz13_1, hfz13_2, hfz13_3⟩ := xc4 BK114))
       (try rw [Exit.noGoto_ret])
       go_ret2
       exact ⟨_, ez, by first | exact Kd.R_nil _ _ _ _ _ | exact Kd.N_nil _ _ _ _ _ | exact Kd.V_nil _ _ _ _ _ | exact Kd.Q_nil _ _ _ _ _ | exact Kd.S_nil _ _ _ _ _, bz⟩
      ·rw [if_neg c8] at H; have c8b0 : decide (1099511627776 < (wrap64 (x7_1 + t115))) = false := decide_eq_false c8; clear c8; have H' := Aside0.mk H; clear H; have p113 : 0 ≤ (x13_1 : Int) := od; have q113 : x13_1 < (l1.length : Int) := od; obtain ⟨ad113, e113, hx113_0, hx113_1, hx113_2, hx113_3⟩ := at_T77 HR1.out x13_1 p113 q113
       cases e113
       replace hx113_0 := cl HB hx113_0; replace hx113_1 := cl HB hx113_1; replace hx113_2 := cl HB hx113_2; replace hx113_3 := cl HB hx113_3; replace p113 := eq_true p113; replace q113 := eq_true q113
       go_wp2_with (first | ((with_reducible refine gate_dst (N := 9) rfl ?_); refine zB 9 77 #[.int .i64 0, .int .i64 0, .int .i64 0, .int .i64 0] ?_; intro gb114 hg w14 hbox hb; replace HO_6 := Aside0.mk (Kd.R_below (Kd.R_elderB (rz HO_6) gb114 (Nat.le_of_eq hg.symm)) hb); have BK114 := Aside0.mk hbox; have GW114 := gz hg; have GE114 := gz hg; replace HB := bp hb; have NB112_114 := Aside0.mk ((by rw [hg]; exact Nat.ne_of_lt (bl BK112) : gb112 ≠ gb114)); have NB114_112 := Aside0.mk ((by rw [hg]; exact Nat.ne_of_gt (bl BK112) : gb114 ≠ gb112)); replace BK112 := kb BK112 hb; clear hb hbox hg; have hnb15 := NB114_112.out; have hnc15 := NB112_114.out; obtain ⟨hcz16_0, hcz16_1, hcz16_2, hcz16_3, hfz16_0, hfz16_1, hfz16_2, hfz16_3⟩ := xc4 BK114) | ((with_reducible refine gate_callee (f := 71) rfl ?_); refine zC 18 Try.func71 #[.agg #[.int .i64 ((rd_T77 l1 x13_1).f0), .int .i64 ((rd_T77 l1 x13_1).f1), .int .i64 ((rd_T77 l1 x13_1).f2), .int .i64 ((rd_T77 l1 x13_1).f3)]] ?_; (with_reducible refine (edit_lowest.calls ((rd_T77 l1 x13_1).f0) ((rd_T77 l1 x13_1).f1) ((rd_T77 l1 x13_1).f2) ((rd_T77 l1 x13_1).f3) t115 t116 t117 t118 _ A7.out).mono ?_); rintro e w17 ⟨rfl, hb⟩; refine ⟨_, rfl, ?_⟩; replace HO_6 := Aside0.mk (Kd.R_below (by (with_reducible repeat (first | apply Kd.R_alloc | apply Kd.R_drewN | apply Kd.R_drew)); exact (Kd.R_mono (Kd.R_far (p := ⟨gb114, 3, none⟩) (Kd.R_far (p := ⟨gb114, 2, none⟩) (Kd.R_far (p := ⟨gb114, 1, none⟩) (Kd.R_far (p := ⟨gb114, 0, none⟩) (Kd.R_mono HO_6.out (fun k_ hk => (⟨hk, hk.2⟩ : _ ∧ k_ ≠ gb114))) (fun _ hk => hk.2) (.int .i64 ((rd_T77 l1 x13_1).f0))) (fun _ hk => hk.2) (.int .i64 ((rd_T77 l1 x13_1).f1))) (fun _ hk => hk.2) (.int .i64 ((rd_T77 l1 x13_1).f2))) (fun _ hk => hk.2) (.int .i64 ((rd_T77 l1 x13_1).f3))) (fun _ h_ => h_.1))) hb); replace BK112 := Aside0.mk (blk_below (g := gb112) (o := .cells #[.int .i64 a0_0, .int .i64 a0_1] 79 (0, 0)) (by (with_reducible repeat (first | refine blk_drewN ?_ _ | refine blk_drew ?_ | refine blk_alloc ?_ _)); refine blk_far ?_ NB112_114.out _; (with_reducible repeat (first | refine blk_drewN ?_ _ | refine blk_drew ?_ | refine blk_alloc ?_ _)); refine blk_far ?_ NB112_114.out _; (with_reducible repeat (first | refine blk_drewN ?_ _ | refine blk_drew ?_ | refine blk_alloc ?_ _)); refine blk_far ?_ NB112_114.out _; (with_reducible repeat (first | refine blk_drewN ?_ _ | refine blk_drew ?_ | refine blk_alloc ?_ _)); refine blk_far ?_ NB112_114.out _; (with_reducible repeat (first | refine blk_drewN ?_ _ | refine blk_drew ?_ | refine blk_alloc ?_ _)); exact BK112.out) hb); replace BK114 := Aside0.mk (blk_below (g := gb114) (o := .cells #[.int .i64 ((rd_T77 l1 x13_1).f0), .int .i64 ((rd_T77 l1 x13_1).f1), .int .i64 ((rd_T77 l1 x13_1).f2), .int .i64 ((rd_T77 l1 x13_1).f3)] 77 (0, 0)) (by (with_reducible repeat (first | refine blk_drewN ?_ _ | refine blk_drew ?_ | refine blk_alloc ?_ _)); refine blk_put (cs := #[.int .i64 ((rd_T77 l1 x13_1).f0), .int .i64 ((rd_T77 l1 x13_1).f1), .int .i64 ((rd_T77 l1 x13_1).f2), .int .i64 0]) ?_ 3 _ rfl; (with_reducible repeat (first | refine blk_drewN ?_ _ | refine blk_drew ?_ | refine blk_alloc ?_ _)); refine blk_put (cs := #[.int .i64 ((rd_T77 l1 x13_1).f0), .int .i64 ((rd_T77 l1 x13_1).f1), .int .i64 0, .int .i64 0]) ?_ 2 _ rfl; (with_reducible repeat (first | refine blk_drewN ?_ _ | refine blk_drew ?_ | refine blk_alloc ?_ _)); refine blk_put (cs := #[.int .i64 ((rd_T77 l1 x13_1).f0), .int .i64 0, .int .i64 0, .int .i64 0]) ?_ 1 _ rfl; (with_reducible repeat (first | refine blk_drewN ?_ _ | refine blk_drew ?_ | refine blk_alloc ?_ _)); refine blk_put (cs := #[.int .i64 0, .int .i64 0, .int .i64 0, .int .i64 0]) ?_ 0 _ rfl; (with_reducible repeat (first | refine blk_drewN ?_ _ | refine blk_drew ?_ | refine blk_alloc ?_ _)); exact BK114.out) hb); replace HB := bp hb; clear hb; obtain ⟨hcz18_0, hcz18_1, hcz18_2, hcz18_3, hfz18_0, hfz18_1, hfz18_2, hfz18_3⟩ := xc4 BK114; obtain ⟨Ao19, co19, eo19⟩ := Kd.R_slice HO_6.out; subst eo19))
       go_loopg [] k1 (fun kq w' => ∃ (x6_2 : List (S77)) (x115000_2 : Int), Aside0 (edit_clocks_normal.l1 kq x6_2 (wrap64 (x7_1 + t115)) (x6_1.length : Int) l1 (l1.length : Int) x13_1 a0_0 a0_1 x115000_2 t116 t117 t118 = some (r1, r2)) ∧ Aside0 (kq ≤ k1) ∧ Aside0 (Kd.R k77 77 w' w.heap.size (fun k_ => k_ ≠ gb114) (.slice Ao19 x6_1.length co19) x6_2) ∧ Aside0 (w'.heap[gb112]? = some (.cells #[.int .i64 a0_0, .int .i64 a0_1] 79 (0, 0))) ∧ Aside0 (w'.heap[gb114]? = some (.cells #[.int .i64 x115000_2, .int .i64 t116, .int .i64 t117, .int .i64 t118] 77 (0, 0))) ∧ Aside0 (Below w.heap.size w w'))
       case atStart => exact ⟨(x6_1), (t115), H', ⟨Nat.le_refl _⟩, ⟨by (with_reducible repeat (first | apply Kd.R_alloc | apply Kd.R_drewN | apply Kd.R_drew)); exact Kd.R_mono (Kd.R_far (p := ⟨gb114, 3, none⟩) (Kd.R_far (p := ⟨gb114, 2, none⟩) (Kd.R_far (p := ⟨gb114, 1, none⟩) (Kd.R_far (p := ⟨gb114, 0, none⟩) (Kd.R_mono HO_6.out (fun k_ hk => (⟨hk, hk.2⟩ : _ ∧ k_ ≠ gb114))) (fun _ hk => hk.2) (.int .i64 t115)) (fun _ hk => hk.2) (.int .i64 t116)) (fun _ hk => hk.2) (.int .i64 t117)) (fun _ hk => hk.2) (.int .i64 t118)) (fun _ hk => hk.1.2)⟩, ⟨by (with_reducible repeat (first | refine blk_drewN ?_ _ | refine blk_drew ?_ | refine blk_alloc ?_ _)); refine blk_far ?_ NB112_114.out _; (with_reducible repeat (first | refine blk_drewN ?_ _ | refine blk_drew ?_ | refine blk_alloc ?_ _)); refine blk_far ?_ NB112_114.out _; (with_reducible repeat (first | refine blk_drewN ?_ _ | refine blk_drew ?_ | refine blk_alloc ?_ _)); refine blk_far ?_ NB112_114.out _; (with_reducible repeat (first | refine blk_drewN ?_ _ | refine blk_drew ?_ | refine blk_alloc ?_ _)); refine blk_far ?_ NB112_114.out _; (with_reducible repeat (first | refine blk_drewN ?_ _ | refine blk_drew ?_ | refine blk_alloc ?_ _)); exact BK112.out⟩, ⟨by (with_reducible repeat (first | refine blk_drewN ?_ _ | refine blk_drew ?_ | refine blk_alloc ?_ _)); refine blk_put (cs := #[.int .i64 t115, .int .i64 t116, .int .i64 t117, .int .i64 ((rd_T77 l1 x13_1).f3)]) ?_ 3 _ rfl; (with_reducible repeat (first | refine blk_drewN ?_ _ | refine blk_drew ?_ | refine blk_alloc ?_ _)); refine blk_put (cs := #[.int .i64 t115, .int .i64 t116, .int .i64 ((rd_T77 l1 x13_1).f2), .int .i64 ((rd_T77 l1 x13_1).f3)]) ?_ 2 _ rfl; (with_reducible repeat (first | refine blk_drewN ?_ _ | refine blk_drew ?_ | refine blk_alloc ?_ _)); refine blk_put (cs := #[.int .i64 t115, .int .i64 ((rd_T77 l1 x13_1).f1), .int .i64 ((rd_T77 l1 x13_1).f2), .int .i64 ((rd_T77 l1 x13_1).f3)]) ?_ 1 _ rfl; (with_reducible repeat (first | refine blk_drewN ?_ _ | refine blk_drew ?_ | refine blk_alloc ?_ _)); refine blk_put (cs := #[.int .i64 ((rd_T77 l1 x13_1).f0), .int .i64 ((rd_T77 l1 x13_1).f1), .int .i64 ((rd_T77 l1 x13_1).f2), .int .i64 ((rd_T77 l1 x13_1).f3)]) ?_ 0 _ rfl; (with_reducible repeat (first | refine blk_drewN ?_ _ | refine blk_drew ?_ | refine blk_alloc ?_ _)); exact BK114.out⟩, ⟨bz⟩⟩
       case round =>
        clear H'
        try clear c1
        try clear p1
        try clear q1
        try clear hx1
        try clear p2
        try clear c4
        try clear c4b0
        try clear c5
        try clear c5b0
        try clear c6
        try clear c6b0
        try clear p6
        try clear c7
        try clear c8
        try clear c8b0
        try clear c10
        try clear p11
        try clear q11
        try clear hx11
        try clear c15
        try clear hcz11_0
        try clear hcz11_1
        try clear hcz11_2
        try clear hcz11_3
        try clear hcz13_0
        try clear hcz13_1
        try clear hcz13_2
        try clear hcz13_3
        try clear hcz16_0
        try clear hcz16_1
        try clear hcz16_2
        try clear hcz16_3
        try clear hcz18_0
        try clear hcz18_1
        try clear hcz18_2
        try clear hcz18_3
        try clear hfz11_0
        try clear hfz11_1
        try clear hfz11_2
        try clear hfz11_3
        try clear hfz13_0
        try clear hfz13_1
        try clear hfz13_2
        try clear hfz13_3
        try clear hfz16_0
        try clear hfz16_1
        try clear hfz16_2
        try clear hfz16_3
        try clear hfz18_0
        try clear hfz18_1
        try clear hfz18_2
        try clear hfz18_3
        try clear hx113_0
        try clear hx113_1
        try clear hx113_2
        try clear hx113_3
        try clear p113
        try clear p2
        try clear q113
        obtain ⟨x6_2, x115000_2, HA, HK2, HO_6, BK112, BK114, HB⟩ := hrel; have hl6_2 := (Kd.R_reads' HO_6.out).1; rw [hl6_2] at HO_6
        (try simp only [hl6_2])
        (try simp only [hl6_2] at BK112)
        (try simp only [hl6_2] at BK114)
        cases gk with
        | zero => exact absurd HA.out (by simp [edit_clocks_normal.l1])
        | succ k2 =>
         have H := HA.out; clear HA; simp only [edit_clocks_normal.l1] at H
         (try simp only [hl6_2] at H)
         by_cases c20 : (x6_2.length : Int) > 0
         ·rw [if_pos c20] at H; have c20b0 : decide (0 < (x6_2.length : Int)) = true := decide_eq_true c20; have c20b1 : decide (0 < x6_2.length) = true := decide_eq_true (by omega); clear c20; obtain ⟨ji21, hji21⟩ : ∃ j_ : Int, (wrap64 ((x6_2.length : Int) - 1)) = j_ := ⟨_, rfl⟩; replace H : (if 0 ≤ (ji21) then (if (ji21) < (x6_2.length : Int) then ((edit_clocks_over.f a0_0 a0_1 ((rd_T77 x6_2 (ji21)).f0) ((rd_T77 x6_2 (ji21)).f1) ((rd_T77 x6_2 (ji21)).f2) ((rd_T77 x6_2 (ji21)).f3) x115000_2 t116 t117 t118).bind fun t120 => (if t120 = true then (edit_clocks_normal.l0 k2 (x6_2.set ((ji21) : Int).toNat (⟨wrap64 (((rd_T77 x6_2 (ji21)).f0) + x115000_2), (rd_T77 x6_2 (ji21)).f1, (rd_T77 x6_2 (ji21)).f2, (rd_T77 x6_2 (ji21)).f3⟩ : S77)) (wrap64 (x7_1 + t115)) l1 (l1.length : Int) (wrap64 (x13_1 + 1)) a0_0 a0_1) else (if x6_2.length < 4398046511104 then (edit_clocks_normal.l0 k2 (x6_2 ++ [(⟨x115000_2, t116, t117, t118⟩ : S77)]) (wrap64 (x7_1 + t115)) l1 (l1.length : Int) (wrap64 (x13_1 + 1)) a0_0 a0_1) else (none)))) else (none)) else (none)) = some (r1, r2) := by first | (rw [hji21] at H; exact H) | (simp only [hji21] at H ⊢; exact H)
          have hji21w : (IntKind.i64.wrap ((x6_2.length : Int) - 1)) = ji21 := (i64_w _).trans hji21
          by_cases c22 : 0 ≤ (ji21)
          ·rw [if_pos c22] at H; have c22b0 : decide (0 ≤ (ji21)) = true := decide_eq_true c22; clear c22
           by_cases c23 : (ji21) < (x6_2.length : Int)
           ·rw [if_pos c23] at H; have c23b0 : decide ((ji21) < (x6_2.length : Int)) = true := decide_eq_true c23; clear c23; obtain ⟨t120, A24, H⟩ := ob H
            by_cases c25 : t120 = true
            ·subst c25; rw [if_pos rfl] at H; obtain ⟨y122, hy122⟩ : ∃ y_ : List (S77), y_ = (x6_2.set ((ji21) : Int).toNat (⟨wrap64 (((rd_T77 x6_2 (ji21)).f0) + x115000_2), (rd_T77 x6_2 (ji21)).f1, (rd_T77 x6_2 (ji21)).f2, (rd_T77 x6_2 (ji21)).f3⟩ : S77)) := ⟨_, rfl⟩; replace H : (edit_clocks_normal.l0 k2 y122 (wrap64 (x7_1 + t115)) l1 (l1.length : Int) (wrap64 (x13_1 + 1)) a0_0 a0_1) = some (r1, r2) := by first | (rw [hy122]; with_reducible exact H) | (have H2_ := (Option.bind_some _ _).symm.trans H; rw [hy122]; with_reducible exact H2_) | (have H2_ := (Option.bind_some _ _).symm.trans H; with_reducible exact H2_) | with_reducible exact H | (rw [hy122]; exact H) | exact H
             have Ny122 := Aside0.mk hy122; clear hy122; have H' := Aside0.mk H; clear H
             try go_wp2
             replace HO_6 := Aside0.mk (Kd.R_drew HO_6.out); replace BK112 := Aside0.mk (blk_drew BK112.out); replace BK114 := Aside0.mk (blk_drew BK114.out); replace HB := Aside0.mk (below_drew1 HB.out); have p119 : 0 ≤ ((ji21) : Int) := od; have q119 : (ji21) < (x6_2.length : Int) := od; obtain ⟨ad119, e119, hx119_0, hx119_1, hx119_2, hx119_3⟩ := at_T77 (Kd.R_reads' HO_6.out).2.2 (ji21) p119 q119
             cases e119
             replace p119 := eq_true p119; replace q119 := eq_true q119; refine start_ (n := 12) (S := fun w' => w'.cell? ⟨gb112, 0, none⟩ = some (.int .i64 a0_0) ∧ w'.cell? ⟨gb112, 1, none⟩ = some (.int .i64 a0_1) ∧ w'.cell? ⟨gb114, 0, none⟩ = some (.int .i64 x115000_2) ∧ w'.cell? ⟨gb114, 1, none⟩ = some (.int .i64 t116) ∧ w'.cell? ⟨gb114, 2, none⟩ = some (.int .i64 t117) ∧ w'.cell? ⟨gb114, 3, none⟩ = some (.int .i64 t118) ∧ w'.cell? (ad119.add (((ji21)).toNat * 4)) = some (.int .i64 ((rd_T77 x6_2 (ji21)).f0)) ∧ w'.cell? ⟨(ad119.add (((ji21)).toNat * 4)).block, (ad119.add (((ji21)).toNat * 4)).off + 1, none⟩ = some (.int .i64 ((rd_T77 x6_2 (ji21)).f1)) ∧ w'.cell? ⟨(ad119.add (((ji21)).toNat * 4)).block, (ad119.add (((ji21)).toNat * 4)).off + 2, none⟩ = some (.int .i64 ((rd_T77 x6_2 (ji21)).f2)) ∧ w'.cell? ⟨(ad119.add (((ji21)).toNat * 4)).block, (ad119.add (((ji21)).toNat * 4)).off + 3, none⟩ = some (.int .i64 ((rd_T77 x6_2 (ji21)).f3))) (ds := []) (bs 12 0) (by kernel_rfl) rfl rfl ⟨ct BK112 0, ct BK112 1, ct BK114 0, ct BK114 1, ct BK114 2, ct BK114 3, hx119_0, hx119_1, hx119_2, hx119_3⟩ (fun hHeld => ?_)
             generalize wr.drew = w27 at HO_6 BK112 BK114 HB hx119_0 hx119_1 hx119_2 hx119_3 hHeld ⊢; refine zP 0 27 12 1 ?_; refine zP 1 28 12 3 ?_; refine zP 2 29 12 7 ?_; refine zP 4 31 12 23 ?_; refine zP 5 32 12 55 ?_; refine zP 6 33 12 119 ?_; refine zP 7 34 12 247 ?_; refine zT 3 30 12 255 hHeld ?_; refine zT 8 35 12 511 hHeld ?_; refine zT 9 36 12 1023 hHeld ?_; refine zN 10 (some 37) 12 2047 (fun K hK => ?_); refine goes_ Try.func113 (by kernel_rfl) rfl #[.agg #[.int .i64 a0_0, .int .i64 a0_1], .agg #[.int .i64 ((rd_T77 x6_2 (ji21)).f0), .int .i64 ((rd_T77 x6_2 (ji21)).f1), .int .i64 ((rd_T77 x6_2 (ji21)).f2), .int .i64 ((rd_T77 x6_2 (ji21)).f3)], .agg #[.int .i64 x115000_2, .int .i64 t116, .int .i64 t117, .int .i64 t118]] (by rfl) rfl rfl (by (try simp only [List.map_toArray, List.map_cons, List.map_nil]); first | done | (simp only [hji21]; rfl) | rfl | (simp only [List.length_drop, List.length_take]; rfl)) ?_
             with_reducible refine (edit_clocks_over.calls a0_0 a0_1 ((rd_T77 x6_2 (ji21)).f0) ((rd_T77 x6_2 (ji21)).f1) ((rd_T77 x6_2 (ji21)).f2) ((rd_T77 x6_2 (ji21)).f3) x115000_2 t116 t117 t118 true _ A24.out).mono ?_
             rintro e w28 ⟨rfl, hb⟩; have HS6_ := (hb.cell (World.block_lt_of_cell? _ _ (hHeld.2.2.2.2.2.2.1))).trans (hHeld.2.2.2.2.2.2.1); have HS7_ := (hb.cell (World.block_lt_of_cell? _ _ (hHeld.2.2.2.2.2.2.2.1))).trans (hHeld.2.2.2.2.2.2.2.1); have HS8_ := (hb.cell (World.block_lt_of_cell? _ _ (hHeld.2.2.2.2.2.2.2.2.1))).trans (hHeld.2.2.2.2.2.2.2.2.1); have HS9_ := (hb.cell (World.block_lt_of_cell? _ _ (hHeld.2.2.2.2.2.2.2.2.2))).trans (hHeld.2.2.2.2.2.2.2.2.2); refine ⟨_, rfl, ?_⟩; replace HO_6 := Aside0.mk (Kd.R_below (rz HO_6) hb); replace BK112 := kb BK112 hb; replace BK114 := kb BK114 hb; replace HB := bp hb; clear hb; refine hK.out _ _ ⟨ct BK112 0, ct BK112 1, ct BK114 0, ct BK114 1, ct BK114 2, ct BK114 3, HS6_, HS7_, HS8_, HS9_⟩ (fun hHeld => ?_); clear hK K; refine zM 37 ?_; refine zP 11 38 12 4095 ?_; refine done_ (by kernel_rfl) ?_
             try go_wp2
             replace HO_6 := Aside0.mk (Kd.R_drew HO_6.out); replace BK112 := Aside0.mk (blk_drew BK112.out); replace BK114 := Aside0.mk (blk_drew BK114.out); replace HB := Aside0.mk (below_drew1 HB.out); have p121 : 0 ≤ ((ji21) : Int) := od; have q121 : (ji21) < (x6_2.length : Int) := od; obtain ⟨ad121, e121, hx121_0, hx121_1, hx121_2, hx121_3⟩ := at_T77 (Kd.R_reads' HO_6.out).2.2 (ji21) p121 q121; obtain rfl : ad119 = ad121 := (by injection e121); replace p121 := eq_true p121; replace q121 := eq_true q121; have p26 : 0 ≤ ((ji21) : Int) := od; have q26 : ((ji21) : Int) < ((x6_2.length : Int) : Int) := od; obtain ⟨go26, co26, eo26, gb26, gl26, cl26, HG26⟩ := Kd.R_form HO_6.out (by omega)
             (first | cases eo26 | (injection eo26 with ea_ en_ ec_; (first | subst ea_ | (injection ea_ with ea_; subst ea_)); subst ec_; clear en_))
             have GB26 := Aside0.mk gb26; have GG26 := Aside0.mk HG26; clear gb26 gl26 HG26
             (first | simp only [add_plain] at hx119_0 | skip)
             (first | simp only [add_plain] at hx119_1 | skip)
             (first | simp only [add_plain] at hx119_2 | skip)
             (first | simp only [add_plain] at hx119_3 | skip)
             (first | simp only [add_plain] at hx121_0 | skip)
             (first | simp only [add_plain] at hx121_1 | skip)
             (first | simp only [add_plain] at hx121_2 | skip)
             (first | simp only [add_plain] at hx121_3 | skip)
             obtain ⟨ce26, hcl26, hM26, hcc26, hfr26⟩ := Kd.R_elem HO_6.out z77 ((ji21) : Int) p26 q26; obtain rfl := k77_openM hM26; have hx26_0 : World.cell? _ ⟨go26, ((ji21) : Int).toNat * 4, none⟩ = some (.int .i64 ((rd_T77 x6_2 (ji21)).f0)) := hcc26 0 _ rfl; have hx26_1 : World.cell? _ ⟨go26, ((ji21) : Int).toNat * 4 + 1, none⟩ = some (.int .i64 ((rd_T77 x6_2 (ji21)).f1)) := hcc26 1 _ rfl; have hx26_2 : World.cell? _ ⟨go26, ((ji21) : Int).toNat * 4 + 2, none⟩ = some (.int .i64 ((rd_T77 x6_2 (ji21)).f2)) := hcc26 2 _ rfl; have hx26_3 : World.cell? _ ⟨go26, ((ji21) : Int).toNat * 4 + 3, none⟩ = some (.int .i64 ((rd_T77 x6_2 (ji21)).f3)) := hcc26 3 _ rfl; have hf26_0 : World.frozen? _ ⟨go26, ((ji21) : Int).toNat * 4, none⟩ = false := hfr26 0; have hf26_1 : World.frozen? _ ⟨go26, ((ji21) : Int).toNat * 4 + 1, none⟩ = false := hfr26 1; have hf26_2 : World.frozen? _ ⟨go26, ((ji21) : Int).toNat * 4 + 2, none⟩ = false := hfr26 2; have hf26_3 : World.frozen? _ ⟨go26, ((ji21) : Int).toNat * 4 + 3, none⟩ = false := hfr26 3; clear hcl26 hcc26 hfr26 hM26; replace p26 := eq_true p26; replace q26 := eq_true q26; obtain ⟨ce30, hcl30, hM30, hcc30, hfr30⟩ := Kd.R_elem HO_6.out z77 ((ji21) : Int) (od) (by have h_ : ((ji21) : Int) < ((x6_2.length : Int) : Int) := od; first | exact h_ | (have e_ := (Kd.R_reads' HO_6.out).1; omega) | simpa using h_); obtain rfl := k77_openM hM30; have HP30 := (Kd.R_seg HO_6.out ((ji21) : Int) (od) (by have h_ : ((ji21) : Int) < ((x6_2.length : Int) : Int) := od; first | exact h_ | (have e_ := (Kd.R_reads' HO_6.out).1; omega) | simpa using h_) (seg := [.int .i64 (wrap64 (((rd_T77 x6_2 (ji21)).f0) + x115000_2))]) (j := 0) hcl30 hcc30 (show 1 ≤ 4 from by decide) (x' := (⟨wrap64 (((rd_T77 x6_2 (ji21)).f0) + x115000_2), (rd_T77 x6_2 (ji21)).f1, (rd_T77 x6_2 (ji21)).f2, (rd_T77 x6_2 (ji21)).f3⟩ : S77)) (k77_mkM _ _ _ (⟨wrap64 (((rd_T77 x6_2 (ji21)).f0) + x115000_2), (rd_T77 x6_2 (ji21)).f1, (rd_T77 x6_2 (ji21)).f2, (rd_T77 x6_2 (ji21)).f3⟩ : S77) ) (fun _ hk => hk)).1; rw [← Ny122.out] at HP30; have HQ30 := Aside0.mk HP30; clear hcl30 hcc30 hfr30 hM30 HP30; refine start_ (n := 12) (S := fun w' => w'.cell? ⟨gb114, 0, none⟩ = some (.int .i64 x115000_2) ∧ w'.cell? ⟨gb114, 1, none⟩ = some (.int .i64 t116) ∧ w'.cell? ⟨gb114, 2, none⟩ = some (.int .i64 t117) ∧ w'.cell? ⟨gb114, 3, none⟩ = some (.int .i64 t118) ∧ w'.cell? ⟨go26, (((ji21)) : Int).toNat * 4, none⟩ = some (.int .i64 ((rd_T77 x6_2 (ji21)).f0)) ∧ w'.cell? ⟨go26, (((ji21)) : Int).toNat * 4 + 1, none⟩ = some (.int .i64 ((rd_T77 x6_2 (ji21)).f1)) ∧ w'.cell? ⟨go26, (((ji21)) : Int).toNat * 4 + 2, none⟩ = some (.int .i64 ((rd_T77 x6_2 (ji21)).f2)) ∧ w'.cell? ⟨go26, (((ji21)) : Int).toNat * 4 + 3, none⟩ = some (.int .i64 ((rd_T77 x6_2 (ji21)).f3))) (ds := [11]) (bs 12 0) (by kernel_rfl) rfl rfl ⟨ct BK114 0, ct BK114 1, ct BK114 2, ct BK114 3, hx121_0, hx121_1, hx121_2, hx121_3⟩ (fun hHeld => ?_)
             generalize w28.drew = w29 at HO_6 BK112 BK114 HB GG26 HQ30 hf26_0 hf26_1 hf26_2 hf26_3 hx119_0 hx119_1 hx119_2 hx119_3 hx121_0 hx121_1 hx121_2 hx121_3 hx26_0 hx26_1 hx26_2 hx26_3 hHeld ⊢; refine zP 0 39 12 1 ?_; refine zP 1 40 12 3 ?_; refine zP 2 41 12 7 ?_; refine zP 3 42 12 15 ?_; refine zP 4 43 12 31 ?_; refine zP 6 45 12 95 ?_; refine zT 5 44 12 127 hHeld ?_; refine zT 7 46 12 255 hHeld ?_; refine zP 8 47 12 511 ?_; refine zP 9 48 12 1023 ?_; refine zP 10 49 12 2047 ?_; refine zL 11 none 12 4095 (fun K hK => ?_); refine skip_ (w1 := ?_) (by rfl) rfl ?_ ?_
             rotate_left
             ·go_simp
              rfl
             refine hK.out _ _ ?_; clear hK K; refine done_ (by kernel_rfl) ?_
             try go_wp2
             (try simp only [← hl6_2])
             go_roundg k2
             case measure => have := HK1.out; have := HK2.out; omega
             case rel => exact ⟨(y122), ((wrap64 (x7_1 + t115))), (wrap64 (x13_1 + 1)), jz, jz, H', ⟨by have := HK1.out; have := HK2.out; omega⟩, ⟨by (try simp only [hl6_2]); (with_reducible repeat (first | apply Kd.R_alloc | apply Kd.R_drewN | apply Kd.R_drew)); exact Kd.R_mono HQ30.out (fun _ hk => trivial)⟩, ⟨by (try simp only [hl6_2]); (with_reducible repeat (first | refine blk_drewN ?_ _ | refine blk_drew ?_ | refine blk_alloc ?_ _)); refine blk_far ?_ (by have h_ := Kd.R_ne HO_6.out BK112.out (by decide); intro e_; exact h_ (by rw [e_]; rfl)) _; (with_reducible repeat (first | refine blk_drewN ?_ _ | refine blk_drew ?_ | refine blk_alloc ?_ _)); exact BK112.out⟩, ⟨by repeat (first | (with_reducible first | exact HB.out | apply below_alloc | apply pw_below_drewN | apply below_drew1 | refine below_set ?_ GB26.out | refine below_set ?_ GE112.out | refine below_set ?_ GE114.out) | exact HB.out)⟩⟩
            ·obtain rfl := bf c25; rw [if_neg (show ¬ (false = true) by decide)] at H
             by_cases c31 : x6_2.length < 4398046511104
             ·rw [if_pos c31] at H; have LMc31 := Aside0.mk c31; clear c31; obtain ⟨y123, hy123⟩ : ∃ y_ : List (S77), y_ = (x6_2 ++ [(⟨x115000_2, t116, t117, t118⟩ : S77)]) := ⟨_, rfl⟩; replace H : (edit_clocks_normal.l0 k2 y123 (wrap64 (x7_1 + t115)) l1 (l1.length : Int) (wrap64 (x13_1 + 1)) a0_0 a0_1) = some (r1, r2) := by first | (rw [hy123]; with_reducible exact H) | (have H2_ := (Option.bind_some _ _).symm.trans H; rw [hy123]; with_reducible exact H2_) | (have H2_ := (Option.bind_some _ _).symm.trans H; with_reducible exact H2_) | with_reducible exact H | (rw [hy123]; exact H) | exact H
              have Ny123 := Aside0.mk hy123; clear hy123; have H' := Aside0.mk H; clear H
              try go_wp2
              replace HO_6 := Aside0.mk (Kd.R_drew HO_6.out); replace BK112 := Aside0.mk (blk_drew BK112.out); replace BK114 := Aside0.mk (blk_drew BK114.out); replace HB := Aside0.mk (below_drew1 HB.out); have p119 : 0 ≤ ((ji21) : Int) := od; have q119 : (ji21) < (x6_2.length : Int) := od; obtain ⟨ad119, e119, hx119_0, hx119_1, hx119_2, hx119_3⟩ := at_T77 (Kd.R_reads' HO_6.out).2.2 (ji21) p119 q119
              cases e119
              replace p119 := eq_true p119; replace q119 := eq_true q119; refine start_ (n := 12) (S := fun w' => w'.cell? ⟨gb112, 0, none⟩ = some (.int .i64 a0_0) ∧ w'.cell? ⟨gb112, 1, none⟩ = some (.int .i64 a0_1) ∧ w'.cell? ⟨gb114, 0, none⟩ = some (.int .i64 x115000_2) ∧ w'.cell? ⟨gb114, 1, none⟩ = some (.int .i64 t116) ∧ w'.cell? ⟨gb114, 2, none⟩ = some (.int .i64 t117) ∧ w'.cell? ⟨gb114, 3, none⟩ = some (.int .i64 t118) ∧ w'.cell? (ad119.add (((ji21)).toNat * 4)) = some (.int .i64 ((rd_T77 x6_2 (ji21)).f0)) ∧ w'.cell? ⟨(ad119.add (((ji21)).toNat * 4)).block, (ad119.add (((ji21)).toNat * 4)).off + 1, none⟩ = some (.int .i64 ((rd_T77 x6_2 (ji21)).f1)) ∧ w'.cell? ⟨(ad119.add (((ji21)).toNat * 4)).block, (ad119.add (((ji21)).toNat * 4)).off + 2, none⟩ = some (.int .i64 ((rd_T77 x6_2 (ji21)).f2)) ∧ w'.cell? ⟨(ad119.add (((ji21)).toNat * 4)).block, (ad119.add (((ji21)).toNat * 4)).off + 3, none⟩ = some (.int .i64 ((rd_T77 x6_2 (ji21)).f3))) (ds := []) (bs 12 0) (by kernel_rfl) rfl rfl ⟨ct BK112 0, ct BK112 1, ct BK114 0, ct BK114 1, ct BK114 2, ct BK114 3, hx119_0, hx119_1, hx119_2, hx119_3⟩ (fun hHeld => ?_)
              generalize wr.drew = w32 at HO_6 BK112 BK114 HB hx119_0 hx119_1 hx119_2 hx119_3 hHeld ⊢; refine zP 0 27 12 1 ?_; refine zP 1 28 12 3 ?_; refine zP 2 29 12 7 ?_; refine zP 4 31 12 23 ?_; refine zP 5 32 12 55 ?_; refine zP 6 33 12 119 ?_; refine zP 7 34 12 247 ?_; refine zT 3 30 12 255 hHeld ?_; refine zT 8 35 12 511 hHeld ?_; refine zT 9 36 12 1023 hHeld ?_; refine zN 10 (some 37) 12 2047 (fun K hK => ?_); refine goes_ Try.func113 (by kernel_rfl) rfl #[.agg #[.int .i64 a0_0, .int .i64 a0_1], .agg #[.int .i64 ((rd_T77 x6_2 (ji21)).f0), .int .i64 ((rd_T77 x6_2 (ji21)).f1), .int .i64 ((rd_T77 x6_2 (ji21)).f2), .int .i64 ((rd_T77 x6_2 (ji21)).f3)], .agg #[.int .i64 x115000_2, .int .i64 t116, .int .i64 t117, .int .i64 t118]] (by rfl) rfl rfl (by (try simp only [List.map_toArray, List.map_cons, List.map_nil]); first | done | (simp only [hji21]; rfl) | rfl | (simp only [List.length_drop, List.length_take]; rfl)) ?_
              with_reducible refine (edit_clocks_over.calls a0_0 a0_1 ((rd_T77 x6_2 (ji21)).f0) ((rd_T77 x6_2 (ji21)).f1) ((rd_T77 x6_2 (ji21)).f2) ((rd_T77 x6_2 (ji21)).f3) x115000_2 t116 t117 t118 false _ A24.out).mono ?_
              rintro e w33 ⟨rfl, hb⟩; have HS6_ := (hb.cell (World.block_lt_of_cell? _ _ (hHeld.2.2.2.2.2.2.1))).trans (hHeld.2.2.2.2.2.2.1); have HS7_ := (hb.cell (World.block_lt_of_cell? _ _ (hHeld.2.2.2.2.2.2.2.1))).trans (hHeld.2.2.2.2.2.2.2.1); have HS8_ := (hb.cell (World.block_lt_of_cell? _ _ (hHeld.2.2.2.2.2.2.2.2.1))).trans (hHeld.2.2.2.2.2.2.2.2.1); have HS9_ := (hb.cell (World.block_lt_of_cell? _ _ (hHeld.2.2.2.2.2.2.2.2.2))).trans (hHeld.2.2.2.2.2.2.2.2.2); refine ⟨_, rfl, ?_⟩; replace HO_6 := Aside0.mk (Kd.R_below (rz HO_6) hb); replace BK112 := kb BK112 hb; replace BK114 := kb BK114 hb; replace HB := bp hb; clear hb; refine hK.out _ _ ⟨ct BK112 0, ct BK112 1, ct BK114 0, ct BK114 1, ct BK114 2, ct BK114 3, HS6_, HS7_, HS8_, HS9_⟩ (fun hHeld => ?_); clear hK K; refine zM 37 ?_; refine zP 11 38 12 4095 ?_; refine done_ (by kernel_rfl) ?_; have hnb34 := NB114_112.out; have hnc34 := NB112_114.out; obtain ⟨hcz35_0, hcz35_1, hcz35_2, hcz35_3, hfz35_0, hfz35_1, hfz35_2, hfz35_3⟩ := xc4 BK114
              try go_wp2_with (first | ((with_reducible refine gate_builtin (b := .append) (xs := #[.tmp 50, .tmp 52]) rfl ?_); at_builtin; refine Kd.R_append k77 (w0 := w) w.heap.size rfl (.tmp 50) (.tmp 52) 22 77 (.agg #[(.int .i64 0), (.int .i64 0), (.int .i64 0), (.int .i64 0)]) 32 rfl Try.underlying22 info77 rfl (by decide) (by omega) (.slice (some ad119) x6_2.length co19) x6_2 (⟨x115000_2, t116, t117, t118⟩ : S77) [.int .i64 x115000_2, .int .i64 t116, .int .i64 t117, .int .i64 t118] (fun k_ => k_ ≠ gb114) (fun _ => False) rfl rfl ?aP (fun _ hk => hk.elim) ?aF ?aO ?aB ?aS ?aL ?_; (case aP => exact k77_mkM _ _ _ (⟨x115000_2, t116, t117, t118⟩ : S77)); (case aB => exact bz); (case aF => exact (fun k_ hk => Kd.freshB (g := gb114) (o := .cells #[.int .i64 x115000_2, .int .i64 t116, .int .i64 t117, .int .i64 t118] 77 (0, 0)) kz k_ hk)); (case aO => exact (rz HO_6)); (case aS => exact sz); (case aL => have := LMc31.out; omega); intro v124 w36 ho hb hg hat; rw [← Ny123.out] at ho; have n0_ := Aside0.mk (blk_grown (g := gb112) (o := .cells #[.int .i64 a0_0, .int .i64 a0_1] 79 (0, 0)) kz hg (Kd.R_ne HO_6.out BK112.out (by decide))); have n1_ := Aside0.mk (blk_grown (g := gb114) (o := .cells #[.int .i64 x115000_2, .int .i64 t116, .int .i64 t117, .int .i64 t118] 77 (0, 0)) kz hg (Kd.R_away HO_6.out (fun _ hk => hk))); have n2_ := Aside0.mk (hb); have n3_ := Aside0.mk (ho); clear BK112; clear BK114; clear HB; clear HO_6; have BK112 := n0_; have BK114 := n1_; have HB := n2_; have HO125 := n3_; clear n0_ n1_ n2_ n3_; clear ho hb hg hat))
              (try simp only [← hl6_2])
              go_roundg k2
              case measure => have := HK1.out; have := HK2.out; omega
              case rel => exact ⟨(y123), ((wrap64 (x7_1 + t115))), (wrap64 (x13_1 + 1)), jz, jz, H', ⟨by have := HK1.out; have := HK2.out; omega⟩, ⟨by (try simp only [hl6_2]); (with_reducible repeat (first | apply Kd.R_alloc | apply Kd.R_drewN | apply Kd.R_drew)); exact Kd.R_mono HO125.out (fun _ hk => trivial)⟩, ⟨by (try simp only [hl6_2]); (with_reducible repeat (first | refine blk_drewN ?_ _ | refine blk_drew ?_ | refine blk_alloc ?_ _)); exact BK112.out⟩, ⟨bz⟩⟩
             ·rw [if_neg c31] at H
              exact absurd H (by simp)
           ·rw [if_neg c23] at H
            exact absurd H (by simp)
          ·rw [if_neg c22] at H
           exact absurd H (by simp)
         ·rw [if_neg c20] at H; have c20b0 : decide (0 < (x6_2.length : Int)) = false := decide_eq_false c20; have c20b1 : decide (0 < x6_2.length) = false := decide_eq_false (by omega); clear c20
          by_cases c37 : x6_2.length < 4398046511104
          ·rw [if_pos c37] at H; have LMc37 := Aside0.mk c37; clear c37; obtain ⟨y126, hy126⟩ : ∃ y_ : List (S77), y_ = (x6_2 ++ [(⟨x115000_2, t116, t117, t118⟩ : S77)]) := ⟨_, rfl⟩; replace H : (edit_clocks_normal.l0 k2 y126 (wrap64 (x7_1 + t115)) l1 (l1.length : Int) (wrap64 (x13_1 + 1)) a0_0 a0_1) = some (r1, r2) := by first | (rw [hy126]; with_reducible exact H) | (have H2_ := (Option.bind_some _ _).symm.trans H; rw [hy126]; with_reducible exact H2_) | (have H2_ := (Option.bind_some _ _).symm.trans H; with_reducible exact H2_) | with_reducible exact H | (rw [hy126]; exact H) | exact H
           have Ny126 := Aside0.mk hy126; clear hy126; have H' := Aside0.mk H; clear H
           try go_wp2
           replace HO_6 := Aside0.mk (Kd.R_drew HO_6.out); replace BK112 := Aside0.mk (blk_drew BK112.out); replace BK114 := Aside0.mk (blk_drew BK114.out); replace HB := Aside0.mk (below_drew1 HB.out); refine start_ (n := 12) (S := fun w' => True) (ds := []) (bs 12 0) (by kernel_rfl) rfl rfl trivial (fun hHeld => ?_); generalize wr.drew = w38 at HO_6 BK112 BK114 HB hHeld ⊢; refine zP 0 27 12 1 ?_; refine zP 1 28 12 3 ?_; refine zP 2 29 12 7 ?_; refine zO 3 30 12 15 ?_; refine zO 4 31 12 31 ?_; refine zO 5 32 12 63 ?_; refine zO 6 33 12 127 ?_; refine zO 7 34 12 255 ?_; refine zO 8 35 12 511 ?_; refine zO 9 36 12 1023 ?_; refine zO 10 37 12 2047 ?_; refine zP 11 38 12 4095 ?_; refine done_ (by kernel_rfl) ?_; have hnb39 := NB114_112.out; have hnc39 := NB112_114.out; obtain ⟨hcz40_0, hcz40_1, hcz40_2, hcz40_3, hfz40_0, hfz40_1, hfz40_2, hfz40_3⟩ := xc4 BK114
           try go_wp2_with (first | ((with_reducible refine gate_builtin (b := .append) (xs := #[.tmp 50, .tmp 52]) rfl ?_); at_builtin; refine Kd.R_append k77 (w0 := w) w.heap.size rfl (.tmp 50) (.tmp 52) 22 77 (.agg #[(.int .i64 0), (.int .i64 0), (.int .i64 0), (.int .i64 0)]) 32 rfl Try.underlying22 info77 rfl (by decide) (by omega) (.slice Ao19 x6_2.length co19) x6_2 (⟨x115000_2, t116, t117, t118⟩ : S77) [.int .i64 x115000_2, .int .i64 t116, .int .i64 t117, .int .i64 t118] (fun k_ => k_ ≠ gb114) (fun _ => False) rfl rfl ?aP (fun _ hk => hk.elim) ?aF ?aO ?aB ?aS ?aL ?_; (case aP => exact k77_mkM _ _ _ (⟨x115000_2, t116, t117, t118⟩ : S77)); (case aB => exact bz); (case aF => exact (fun k_ hk => Kd.freshB (g := gb114) (o := .cells #[.int .i64 x115000_2, .int .i64 t116, .int .i64 t117, .int .i64 t118] 77 (0, 0)) kz k_ hk)); (case aO => exact (rz HO_6)); (case aS => exact sz); (case aL => have := LMc37.out; omega); intro v127 w41 ho hb hg hat; rw [← Ny126.out] at ho; have n0_ := Aside0.mk (blk_grown (g := gb112) (o := .cells #[.int .i64 a0_0, .int .i64 a0_1] 79 (0, 0)) kz hg (Kd.R_ne HO_6.out BK112.out (by decide))); have n1_ := Aside0.mk (blk_grown (g := gb114) (o := .cells #[.int .i64 x115000_2, .int .i64 t116, .int .i64 t117, .int .i64 t118] 77 (0, 0)) kz hg (Kd.R_away HO_6.out (fun _ hk => hk))); have n2_ := Aside0.mk (hb); have n3_ := Aside0.mk (ho); clear BK112; clear BK114; clear HB; clear HO_6; have BK112 := n0_; have BK114 := n1_; have HB := n2_; have HO128 := n3_; clear n0_ n1_ n2_ n3_; clear ho hb hg hat))
           (try simp only [← hl6_2])
           go_roundg k2
           case measure => have := HK1.out; have := HK2.out; omega
           case rel => exact ⟨(y126), ((wrap64 (x7_1 + t115))), (wrap64 (x13_1 + 1)), jz, jz, H', ⟨by have := HK1.out; have := HK2.out; omega⟩, ⟨by (try simp only [hl6_2]); (with_reducible repeat (first | apply Kd.R_alloc | apply Kd.R_drewN | apply Kd.R_drew)); exact Kd.R_mono HO128.out (fun _ hk => trivial)⟩, ⟨by (try simp only [hl6_2]); (with_reducible repeat (first | refine blk_drewN ?_ _ | refine blk_drew ?_ | refine blk_alloc ?_ _)); exact BK112.out⟩, ⟨bz⟩⟩
          ·rw [if_neg c37] at H
           exact absurd H (by simp)
     ·rw [if_neg c6] at H
      exact absurd H (by simp)
    ·rw [if_neg c5] at H
     exact absurd H (by simp)
   ·rw [if_neg c4] at H; have c4b0 : decide (x13_1 < (l1.length : Int)) = false := decide_eq_false c4; clear c4
    by_cases c42 : (x6_1.length : Int) > 20
    ·rw [if_pos c42] at H; have c42b0 : decide (20 < (x6_1.length : Int)) = true := decide_eq_true c42; have c42b1 : decide (20 < x6_1.length) = true := decide_eq_true (by omega); clear c42; simp only [Option.some.injEq, Prod.mk.injEq] at H; obtain ⟨rfl, rfl⟩ := H; obtain ⟨Ao43, co43, eo43⟩ := Kd.R_slice HO_6.out; subst eo43
     go_wp2
     (try rw [Exit.noGoto_ret])
     go_ret2
     exact ⟨_, ez, by first | exact Kd.R_nil _ _ _ _ _ | exact Kd.N_nil _ _ _ _ _ | exact Kd.V_nil _ _ _ _ _ | exact Kd.Q_nil _ _ _ _ _ | exact Kd.S_nil _ _ _ _ _, bz⟩
    ·rw [if_neg c42] at H; have c42b0 : decide (20 < (x6_1.length : Int)) = false := decide_eq_false c42; have c42b1 : decide (20 < x6_1.length) = false := decide_eq_false (by omega); clear c42; simp only [Option.some.injEq, Prod.mk.injEq] at H; obtain ⟨rfl, rfl⟩ := H; obtain ⟨Ao44, co44, eo44⟩ := Kd.R_slice HO_6.out; subst eo44
     go_wp2
     (try rw [Exit.noGoto_ret])
     go_ret2
     exact ⟨_, ez, by (with_reducible repeat (first | apply Kd.R_alloc | apply Kd.R_drewN | apply Kd.R_drew)); exact HO_6.out, bz⟩
def edit_Normal.f (k : Nat) (l0 : List (S77)) (a1 : Int) (a2 : Int) : Option ((List (S77)) × Int) := (edit_Check.f k l0 a1 a2).bind fun t129 => (if t129 = 0 then ((edit_clocks_normal.f k a1 a2 l0).bind fun bt130 => (some (bt130.1, bt130.2))) else (some (([] : List (S77)), t129)))
set_option maxHeartbeats 8000000 in
set_option maxRecDepth 100000 in
theorem edit_Normal.calls (k : Nat) (A0 : Option Addr) (c0 : Nat) (l0 : List (S77)) (a1 : Int) (a2 : Int) (r1 : List (S77)) (r2 : Int) (w : World) (hr0 : Kd.C k77 w A0 l0.length l0) (hc0 : l0.length ≤ c0) (h : edit_Normal.f k l0 a1 a2 = some (r1, r2)) :
  Calls Try.prog 21 #[.slice A0 l0.length c0, .int .i64 a1, .int .i64 a2] w fun e w' => ∃ v0_ : Value, e = .returned (.tuple #[v0_, .int .i64 r2]) ∧ Kd.R k77 77 w' w.heap.size (fun _ => True) v0_ r1 ∧ Below w.heap.size w w' := by
 have hu79 := Try.underlying79; have HR0 := Aside0.mk hr0; have HC0 := Aside0.mk hc0; clear hr0 hc0; have HB := Aside0.mk (Below.refl w.heap.size w); have H : ((edit_Check.f k l0 a1 a2).bind fun t129 => (if t129 = 0 then ((edit_clocks_normal.f k a1 a2 l0).bind fun bt130 => (some (bt130.1, bt130.2))) else (some (([] : List (S77)), t129)))) = some (r1, r2) := h
 clear h; obtain ⟨t129, A4, H⟩ := ob H
 by_cases c5 : t129 = 0
 ·rw [if_pos c5] at H; have c5b0 : (t129 == 0) = true := beq_iff_eq.mpr c5; have c5b1 : (t129 != 0) = false := bne_eq_false_iff_eq.mpr c5; clear c5; obtain ⟨⟨t130, t133⟩, A6, H⟩ := ob H
  (try dsimp only at H)
  simp only [Option.some.injEq, Prod.mk.injEq] at H; obtain ⟨rfl, rfl⟩ := H
  go_enter Try.func21, Try.ntmps21
  go_wp2_with (first | ((with_reducible refine gate_callee (f := 24) rfl ?_); refine zC 12 Try.func24 #[.slice A0 l0.length c0, .int .i64 a1, .int .i64 a2] ?_; (with_reducible refine (edit_Check.calls k _ _ l0 a1 a2 t129 _ ?side1 ?side2 A4.out).mono ?_); (case side1 => repeat (first | exact HR0.out | (with_reducible refine Kd.C_alloc ?_ _) | (with_reducible refine Kd.C_drewN ?_ _) | (with_reducible refine Kd.C_drew ?_))); (case side2 => exact HC0.out); rintro e w7 ⟨rfl, hb⟩; refine ⟨_, rfl, ?_⟩; replace HB := bp hb; clear hb) | ((with_reducible refine gate_callee (f := 57) rfl ?_); refine zC 20 Try.func57 #[.agg #[.int .i64 a1, .int .i64 a2], .slice A0 l0.length c0] ?_; (with_reducible refine (edit_clocks_normal.calls k a1 a2 _ _ l0 t130 t133 _ ?side1 ?side2 A6.out).mono ?_); (case side1 => exact cz HR0); (case side2 => exact HC0.out); rintro e w8 ⟨v131, rfl, ho0, hb⟩; refine ⟨_, rfl, ?_⟩; have HO132 := Aside0.mk (Kd.R_lower ho0 sz); replace HB := bp hb; clear hb ho0))
  go_ret2
  exact ⟨_, ez, by (with_reducible repeat (first | apply Kd.R_alloc | apply Kd.R_drewN | apply Kd.R_drew)); exact HO132.out, bz⟩
 ·rw [if_neg c5] at H; have c5b0 : (t129 == 0) = false := beq_eq_false_iff_ne.mpr c5; have c5b1 : (t129 != 0) = true := bne_iff_ne.mpr c5; simp only [Option.some.injEq, Prod.mk.injEq] at H; obtain ⟨rfl, rfl⟩ := H
  go_enter Try.func21, Try.ntmps21
  go_wp2_with (first | ((with_reducible refine gate_callee (f := 24) rfl ?_); refine zC 12 Try.func24 #[.slice A0 l0.length c0, .int .i64 a1, .int .i64 a2] ?_; (with_reducible refine (edit_Check.calls k _ _ l0 a1 a2 t129 _ ?side1 ?side2 A4.out).mono ?_); (case side1 => repeat (first | exact HR0.out | (with_reducible refine Kd.C_alloc ?_ _) | (with_reducible refine Kd.C_drewN ?_ _) | (with_reducible refine Kd.C_drew ?_))); (case side2 => exact HC0.out); rintro e w9 ⟨rfl, hb⟩; refine ⟨_, rfl, ?_⟩; replace HB := bp hb; clear hb))
  go_ret2
  exact ⟨_, ez, by first | exact Kd.R_nil _ _ _ _ _ | exact Kd.N_nil _ _ _ _ _ | exact Kd.V_nil _ _ _ _ _ | exact Kd.Q_nil _ _ _ _ _ | exact Kd.S_nil _ _ _ _ _, bz⟩
end Go.Proofs.Ytpbhepdgamoiaaa.E

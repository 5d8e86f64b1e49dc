/-
  Fractions of package num: SetFrac brings two whole numbers to lowest terms. The rational number that two whole ones make. Fractions of package num as rational numbers: NewRat, Mul, Add, Sub, Cmp, IsInt. edit's rational numbers: ratio, mul, add, and the media tick behind an edit's begin. edit's lowest rate of an edit, what two edits have in common, and whether one goes over into the next. Lists of edits as plain values: the first error, the normal list, the length; and that the code tells them. Fractions of package num: Sub. edit's number of a time, time of a number, difference of numbers. edit.Media: the walk. edit's whole of a rational number that is not below 0. edit's lowest, over and Length, told as functions of numbers and lists. Edits that come in, opened: a list of edits, a list with its clocks, two numbers. edit.Back: the walk. Spans as pairs of rational numbers: the clean list is told by the times that are in it; stretches between ends; lengths.
-/
import Derived.Test.YtekommcfpjonmaaGreatQREditBackb
import Derived.Test.YtekommcfpjonmaaGreatQREditBackWEqStruct
import Derived.Outline
import Derived.Test.YtekommcfpjonmaaGreatQREditBacka
import Derived.Test.YtekommcfpjonmaaGreatChecked
import Derived.Lib.SmallJoins
import Derived.ProofKit
import Derived.Deep.Slices
import Derived.Deep.Fields
import Derived.ChangeSame
import Derived.Below
set_option linter.unusedVariables false
set_option linter.unusedSimpArgs false
set_option maxHeartbeats 16000000
set_option maxRecDepth 100000
namespace Go.Proofs.YtekommcfpjonmaaGreat.Ra
open RowKit Go YtekommcfpjonmaaGreatW.PrintWords YtekommcfpjonmaaGreatW.PrintLast YtekommcfpjonmaaGreatW.PrintMore Ml Mn Nd Z P Nc Nb Da Qa Qb Ea
def ratN (n d : Int) : Int := if d < 0 then lowN (-n) (-d) else lowN n d
def ratD (n d : Int) : Int := if d < 0 then lowD (-n) (-d) else lowD n d
structure GcI (w0 w : World) (a b : Int) (n : Nat) (vg vr : Value) (k : Nat) : Prop where mk ::
 at_ : ∃ Ag cg lg Ar cr lr, vg = .slice Ag (List.length lg) cg ∧ vr = .slice Ar (List.length lr) cr ∧ lg.length ≤ cg ∧ lr.length ≤ cr ∧ Kd.C (Kd.int .u32) w Ag lg.length lg ∧ Kd.C (Kd.int .u32) w Ar lr.length lr ∧ Cn 4294967296 lg ∧ Cn 4294967296 lr ∧ lg.length ≤ n ∧ lr.length ≤ n ∧ Int.gcd (dv 4294967296 lg) (dv 4294967296 lr) = Int.gcd a b ∧ dv 4294967296 lr ≤ (k : Int)
 b : Below w0.heap.size w0 w
theorem dv_pos {l : List Int} (h : Cn 4294967296 l) (hl : l ≠ []) : 0 < dv 4294967296 l := by
 have h1 := dv_len (a := []) (by decide) (Dg.nil _) h (by cases l with | nil => exact absurd rfl hl | cons x t => simp)
 simpa only [dv] using h1
theorem gcd_step {x y q r : Int} (h : x = q * y + r) : Int.gcd y r = Int.gcd x y := by
 rw [h, Int.gcd_comm (q * y + r) y, Int.mul_comm]
 simp
theorem quo_exact {x g q r : Int} (hg : 0 < g) (hd : g ∣ x) (h0 : 0 ≤ r) (h1 : r < g) (h : x = q * g + r) : q = x / g := by
 have : x / g = q := by
  rw [h, Int.add_comm, Int.add_mul_ediv_right _ _ (by omega), Int.ediv_eq_zero_of_lt h0 h1]
  omega
 exact this.symm
theorem sg_quo {na nb : Bool} {a b A B G : Int} (ha : a = sg na A) (hb : b = sg nb B) (hA : 0 ≤ A) (hB : 0 < B) (hG : G = (Int.gcd a b : Nat)) : sg (!(na == nb)) (A / G) = ratN a b ∧ B / G = ratD a b := by
 have e : ∀ n : Int, Int.gcd (-n) b = Int.gcd n b := fun n => Int.neg_gcd
 have dA : G ∣ A := by
  have : G ∣ a := by rw [hG]; exact Int.gcd_dvd_left _ _
  rw [ha] at this
  cases na
  ·simpa [sg] using this
  simpa [sg] using this
 unfold ratN ratD lowN lowD
 cases nb with
 | true =>
  have hb' : b = -B := by simpa [sg] using hb
  rw [if_pos (by omega), if_pos (by omega)]
  rw [show Int.gcd (-a) (-b) = Int.gcd a b by rw [Int.neg_gcd, Int.gcd_neg], ← hG, hb', Int.neg_neg]
  cases na with
  | true =>
   have ha' : a = -A := by simpa [sg] using ha
   rw [ha', Int.neg_neg]
   exact ⟨rfl, rfl⟩
  | false =>
   have ha' : a = A := by simpa [sg] using ha
   rw [ha', Int.neg_ediv_of_dvd dA]
   exact ⟨rfl, rfl⟩
 | false =>
  have hb' : b = B := by simpa [sg] using hb
  rw [if_neg (by omega), if_neg (by omega), ← hG, hb']
  cases na with
  | true =>
   have ha' : a = -A := by simpa [sg] using ha
   rw [ha', Int.neg_ediv_of_dvd dA]
   exact ⟨rfl, rfl⟩
  | false =>
   have ha' : a = A := by simpa [sg] using ha
   rw [ha']
   exact ⟨rfl, rfl⟩
theorem sg_dvd {s : Bool} {x z g : Int} (h : z = sg s x) (hd : g ∣ z) : g ∣ x := by
 subst h
 cases s
 ·simpa [sg] using hd
 simpa [sg] using hd
def SfP (w : World) (gx : Nat) (a b : Int) (na nb B : Nat) (e : Ending) (w' : World) : Prop := e = .returned (.pointer (some ⟨gx, 0, none⟩)) ∧ Below B w w' ∧ IsN w' gx 0 (ratN a b) na ∧ IsN w' gx 2 (ratD a b) nb
theorem sg_bne (a b : Bool) : (a != b) = !(a == b) := by cases a <;> cases b <;> rfl
theorem setFrac_n (gx ga oa gb ob : Nat) (a b : Int) (na nb B : Nat) (w : World) (hx0 : Room w gx 0) (hx2 : Room w gx 2) (ha : IsN w ga oa a na) (hb : IsN w gb ob b nb) (hbp : b ≠ 0) (hl : na + nb ≤ 1000) (hB1 : B ≤ gx) :
  Calls Tryz.prog 135 #[.pointer (some ⟨gx, 0, none⟩), .pointer (some ⟨ga, oa, none⟩), .pointer (some ⟨gb, ob, none⟩)] w (SfP w gx a b na nb B) := by
 obtain ⟨nega, Aa, cca, la, sa, hca, ra, ca, hla, hza, qa⟩ := ha.open
 obtain ⟨negb, Ab, ccb, lb, sb, hcb, rb, cb, hlb, hzb, qb⟩ := hb.open
 have a1 := sa.cell1
 have b1 := sb.cell1
 have lgx := hx0.lt
 go_enter Tryz.func135, Tryz.ntmps135
 go_wp2_with fail
 refine start_ (n := 11) (S := fun w' => w'.cell? ⟨ga, oa + 1, none⟩ = some (.slice Aa la.length cca) ∧ w'.cell? ⟨gb, ob + 1, none⟩ = some (.slice Ab lb.length ccb)) (ds := []) (bs 11 0) (by kernel_rfl) rfl rfl ⟨a1, b1⟩ (fun hHeld => ?_)
 refine zP 0 16 11 1 ?_
 refine zP 1 17 11 3 ?_
 refine zP 2 18 11 7 ?_
 refine zP 5 21 11 39 ?_
 refine zP 6 22 11 103 ?_
 refine zP 7 23 11 231 ?_
 refine zT 3 19 11 239 hHeld ?_
 refine zT 8 24 11 495 hHeld ?_
 refine zN 4 (some 20) 11 511 (fun K hK => ?_)
 refine zG Tryz.func158 #[.slice Aa la.length cca] ?_
 with_reducible refine (clone_n Aa cca la w.drew hca (Kd.C_drew ra) (by omega)).mono ?_
 rintro e w2 ⟨v4, rfl, hM4, hb4⟩
 refine ⟨_, rfl, ?_⟩
 have hb4' := below_drew' hb4
 refine hK.out _ _ ⟨(sa.below hb4').cell1, (sb.below hb4').cell1⟩ (fun hHeld => ?_)
 clear hK K
 refine zM 20 ?_
 refine zP 9 7 11 1023 ?_
 refine zP 10 8 11 2047 ?_
 refine done_ (by kernel_rfl) ?_
 obtain ⟨A4, c4, rfl, hc4, r4⟩ := hM4
 have HI := aS (show GcI w w2 a b (na + nb) (.slice A4 la.length c4) (.slice Ab lb.length ccb) (dv 4294967296 lb).toNat from
  ⟨⟨A4, c4, la, Ab, ccb, lb, rfl, rfl, hc4, hcb, r4, Kd.C_below rb hb4', ca, cb, by omega, by omega, by
   have p0 := dv_nonneg (by decide) ca.dg
   have p1 := dv_nonneg (by decide) cb.dg
   rw [hza, hzb]
   cases nega <;> cases negb <;> simp [sg, Int.neg_gcd, Int.gcd_neg], by have := dv_nonneg (by decide) cb.dg; omega⟩, hb4'⟩)
 have HH := aS (And.intro ha (And.intro hb (And.intro hx0 hx2)))
 clear hHeld r4 hb4 hb4' hc4 a1 b1
 go_wp2_with fail
 go_loopg [7, 8] (dv 4294967296 lb).toNat (fun kq v7 v8 w' => Aside0 (GcI w w' a b (na + nb) v7 v8 kq))
 case atStart => exact HI
 case round =>
  clear HI
  obtain ⟨⟨⟨Ag, cg, lg, Ar, cr, lr, rfl, rfl, hcg, hcr, rg, rr, cag, car, hlg, hlr, hgc, hk⟩, hbw⟩⟩ := hrel
  by_cases hr : lr = []
  ·subst hr
   have hG : dv 4294967296 lg = (Int.gcd a b : Nat) := by
    have h0 := dv_nonneg (by decide) cag.dg
    rw [← hgc]
    simp only [dv, Int.gcd_zero]
    omega
   have hgp : 0 < dv 4294967296 lg := by
    have := Int.gcd_pos_of_ne_zero_right a hbp
    omega
   have hgn : lg ≠ [] := by rintro rfl; simp [dv] at hgp
   have sa' := sa.below hbw
   have sb' := sb.below hbw
   have a1 := sa'.cell1
   have b1 := sb'.cell1
   have RA := aS (And.intro (Kd.C_below ra hbw) (And.intro (Kd.C_below rb hbw) rg))
   have HW := aS (And.intro hbw (And.intro hG hgp))
   clear hbw hG hgp hgc hk rr rg
   go_wp2_with fail
   refine (divMag_n Aa cca la Ag cg lg wr hca RA.out.1 hcg RA.out.2.2 ca cag hgn (by omega) (by omega)).mono ?_
   rintro e w3 ⟨v0, v1, q1, r1, rfl, hq1, hr1, cq1, cr1, lq1, lr1, eq1, lt1, hb3⟩
   have a1' := (sa'.below hb3).cell1
   have b1' := (sb'.below hb3).cell1
   have K1 := aS (And.intro hq1 (And.intro (quo_exact HW.out.2.2 (sg_dvd hza (HW.out.2.1 ▸ Int.gcd_dvd_left _ _)) (dv_nonneg (by decide) cr1.dg) lt1 eq1) hb3))
   clear hq1 hr1 cr1 lr1 eq1 lt1 a1 b1
   have hbw3 := HW.out.1.trans (hb3.mono HW.out.1.size)
   have HB3 := aS hbw3
   go_wp2_with fail
   refine (divMag_n Ab ccb lb Ag cg lg w3 hcb (Kd.C_below RA.out.2.1 hb3) hcg (Kd.C_below RA.out.2.2 hb3) cb cag hgn (by omega) (by omega)).mono ?_
   rintro e w4 ⟨v2, v3, q2, r2, rfl, hq2, hr2, cq2, cr2, lq2, lr2, eq2, lt2, hb4⟩
   have hbw4 := hbw3.trans (hb4.mono hbw3.size)
   have sa4 := sa.below hbw4
   have sb4 := sb.below hbw4
   have a0 := sa4.cell0
   have b0 := sb4.cell0
   have K2 := aS (And.intro hq2 (And.intro (quo_exact HW.out.2.2 (sg_dvd hzb (HW.out.2.1 ▸ Int.gcd_dvd_right _ _)) (dv_nonneg (by decide) cr2.dg) lt2 eq2) hb4))
   have HB4 := aS hbw4
   clear hq2 hr2 cr2 lr2 eq2 lt2 a1' b1' hb3 hb4 hbw3 hbw4 sa' sb' HB3
   go_wp2_with fail
   refine start_ (n := 10) (S := fun w' => w'.cell? ⟨ga, oa, none⟩ = some (.bool nega) ∧ w'.cell? ⟨gb, ob, none⟩ = some (.bool negb)) (ds := []) (bs 10 0) (by kernel_rfl) rfl rfl ⟨a0, b0⟩ (fun hHeld => ?_)
   refine zP 0 54 10 1 ?_
   refine zP 1 55 10 3 ?_
   refine zP 2 56 10 7 ?_
   refine zP 4 58 10 23 ?_
   refine zP 5 59 10 55 ?_
   refine zP 6 60 10 119 ?_
   refine zT 3 57 10 127 hHeld ?_
   refine zT 7 61 10 255 hHeld ?_
   refine zP 8 62 10 511 ?_
   refine zP 9 15 10 1023 ?_
   refine done_ (by kernel_rfl) ?_
   have X := HH.out.2.2
   have hb5 : Below w4.heap.size w4 w4.drew := below_drew' (Below.refl _ _)
   have hbw5 := HB4.out.trans (hb5.mono HB4.out.size)
   go_wp2_with fail
   refine (set_n gx 0 v0 q1 (nega != negb) na w4.drew (X.1.below hbw5) ((K1.out.1.below K2.out.2.2).below hb5) cq1 (by omega)).mono ?_
   rintro e w6 ⟨rfl, hw6, hN6⟩
   have K3 := aS (And.intro hw6 (And.intro hN6 (And.intro hbw5 ((K2.out.1.below hb5)))))
   clear hw6 hN6 hbw5 hb5 X
   go_wp2_with fail
   have hr2' : Room w6 gx 2 := by
    obtain ⟨n2, v2', h2⟩ := HH.out.2.2.2.below K3.out.2.2.1
    exact ⟨n2, v2', K3.out.1.slot h2 (.inr (by omega))⟩
   refine (set_n gx 2 v2 q2 false nb w6 hr2' (K3.out.1.mag (HH.out.2.2.1.below K3.out.2.2.1) K3.out.2.2.2) cq2 (by omega)).mono ?_
   rintro e w7 ⟨rfl, hw7, hN7⟩
   have K4 := aS (And.intro hw7 hN7)
   clear hw7 hN7
   go_wp2_with fail
   go_ret
   have hsq := sg_quo hza hzb (dv_nonneg (by decide) ca.dg) (dv_pos cb (by rintro rfl; cases negb <;> simp [dv, sg] at hzb <;> exact hbp hzb)) HW.out.2.1
   rw [← K1.out.2.1, ← K2.out.2.1, ← sg_bne] at hsq
   have hs0 := K3.out.2.2.1.size
   refine ⟨rfl, ?_, hsq.1 ▸ K4.out.1.isN hr2' K3.out.2.1 (.inr (by omega)), hsq.2 ▸ K4.out.2⟩
   have hB : Below B w w4.drew := ⟨K3.out.2.2.1.os, K3.out.2.2.1.tape, K3.out.2.2.1.output, K3.out.2.2.1.size, fun i hi => K3.out.2.2.1.block i (by omega)⟩
   exact hB.trans ((K3.out.1.below hB1 (by omega)).trans (K4.out.1.below hB1 (by have := K3.out.1.size; omega)))
  cases gk with
  | zero =>
   exfalso
   have := dv_pos car hr
   omega
  | succ k1 =>
   have hpos : 0 < lr.length := by cases lr with | nil => exact absurd rfl hr | cons x t => simp
   have HW := aS (And.intro hbw (And.intro hgc hk))
   have HR := aS rr
   have HG := aS rg
   clear hbw hgc hk rr rg
   go_wp2_with fail
   refine (divMag_n Ag cg lg Ar cr lr wr hcg HG.out hcr HR.out cag car hr (by omega) (by omega)).mono ?_
   rintro e w3 ⟨v0, v1, q1, r1, rfl, hq1, hr1, cq1, cr1, lq1, lr1, eq1, lt1, hb3⟩
   obtain ⟨A5, c5, rfl, hc5, r5⟩ := hr1
   have HW3 := aS (HW.out.1.trans (hb3.mono HW.out.1.size))
   have HN := aS (show GcI w w3 a b (na + nb) (.slice Ar lr.length cr) (.slice A5 r1.length c5) k1 from
    ⟨⟨Ar, cr, lr, A5, c5, r1, rfl, rfl, hcr, hc5, Kd.C_below HR.out hb3, r5, car, cr1, hlr, by omega, (gcd_step eq1).trans HW.out.2.1, by have := HW.out.2.2; omega⟩, HW3.out⟩)
   clear hq1 eq1 lt1 hb3 r5
   go_wp2_with fail
   go_roundg k1
   case measure => omega
   case rel => exact HN
theorem down_n (gx : Nat) (z : Int) (n : Nat) (w : World) (h : IsN w gx 2 z n) (hz : z ≠ 0) :
  Calls Tryz.prog 115 #[.pointer (some ⟨gx, 0, none⟩)] w (fun e w' => e = .returned (.pointer (some ⟨gx, 2, none⟩)) ∧ w = w') := by
 obtain ⟨neg, A, c, l, s, hc, r, cn, hl, hz2, q⟩ := h.open
 have a1 := s.cell1
 have hln : ((l.length : Int) == 0) = false := by
  cases l with
  | nil => exfalso; cases neg <;> simp [dv, sg] at hz2 <;> exact hz hz2
  | cons x t => simp; omega
 go_enter Tryz.func115, Tryz.ntmps115
 go_wp2_with fail
 go_ret
 exact ⟨rfl, rfl⟩
theorem denom_n (gx : Nat) (z : Int) (n : Nat) (w : World) (h : IsN w gx 2 z n) (hz : z ≠ 0) :
  Calls Tryz.prog 117 #[.pointer (some ⟨gx, 0, none⟩)] w (fun e w' => e = .returned (.pointer (some ⟨gx, 2, none⟩)) ∧ w = w') := by
 have HD := aS (down_n gx z n w h hz)
 go_enter Tryz.func117, Tryz.ntmps117
 go_wp2_with fail
 refine HD.out.mono ?_
 rintro e w2 ⟨rfl, rfl⟩
 go_wp2_with fail
 go_ret
 exact ⟨rfl, rfl⟩
theorem num_n (gx : Nat) (w : World) :
  Calls Tryz.prog 116 #[.pointer (some ⟨gx, 0, none⟩)] w (fun e w' => e = .returned (.pointer (some ⟨gx, 0, none⟩)) ∧ w = w') := by
 go_enter Tryz.func116, Tryz.ntmps116
 go_wp2_with fail
 go_ret
 exact ⟨rfl, rfl⟩
end Go.Proofs.YtekommcfpjonmaaGreat.Ra
namespace Go.Proofs.YtekommcfpjonmaaGreat.Rf
open RowKit Go YtekommcfpjonmaaGreatW.PrintWords YtekommcfpjonmaaGreatW.PrintLast YtekommcfpjonmaaGreatW.PrintMore Ml Mn Nd Z Ea Ra
def qq (a b : Int) : Rat := Rat.divInt a b
theorem rat_low {a b : Int} (hb : b ≠ 0) : ratN a b = (qq a b).num ∧ ratD a b = ((qq a b).den : Int) := by
 unfold qq ratN ratD lowN lowD
 rw [Rat.num_divInt, Rat.den_divInt, if_neg hb]
 rcases Int.lt_or_le b 0 with h | h
 ·rw [if_pos h, if_pos h, Int.sign_eq_neg_one_of_neg h, Int.neg_gcd, Int.gcd_neg, Int.gcd_comm b a]
  refine ⟨by rw [Int.neg_one_mul], ?_⟩
  rw [Int.natCast_ediv, Int.ofNat_natAbs_of_nonpos (by omega)]
 rw [if_neg (by omega), if_neg (by omega), Int.sign_eq_one_of_pos (by omega), Int.gcd_comm b a]
 refine ⟨by rw [Int.one_mul], ?_⟩
 rw [Int.natCast_ediv, Int.natAbs_of_nonneg h]
def cmpQ (p q : Rat) : Int := if p < q then -1 else if q < p then 1 else 0
theorem cmp_q (p q : Rat) : cmpI (p.num * (q.den : Int)) (q.num * (p.den : Int)) = cmpQ p q := by
 unfold cmpI cmpQ
 simp only [Rat.lt_iff]
end Go.Proofs.YtekommcfpjonmaaGreat.Rf
namespace Go.Proofs.YtekommcfpjonmaaGreat.Rf
open RowKit Go YtekommcfpjonmaaGreatW.PrintWords YtekommcfpjonmaaGreatW.PrintLast YtekommcfpjonmaaGreatW.PrintMore Ml Mn Nd Z P Nc Nb Qa Ea Ra
structure RQ (w : World) (g : Nat) (q : Rat) (n : Nat) : Prop where
 num : IsN w g 0 q.num n
 den : IsN w g 2 (q.den : Int) n
theorem RQ.below {w w' : World} {g : Nat} {q : Rat} {n : Nat} (h : RQ w g q n) (hb : Below w.heap.size w w') : RQ w' g q n := ⟨h.num.below hb, h.den.below hb⟩
theorem RQ.mono {w : World} {g : Nat} {q : Rat} {n m : Nat} (h : RQ w g q n) (hm : n ≤ m) : RQ w g q m := ⟨h.num.mono hm, h.den.mono hm⟩
theorem RQ.lt {w : World} {g : Nat} {q : Rat} {n : Nat} (h : RQ w g q n) : g < w.heap.size := h.num.lt
theorem den0 (q : Rat) : ((q.den : Int)) ≠ 0 := by have := q.den_pos; omega
theorem qq_mul (p q : Rat) : qq (p.num * q.num) ((p.den : Int) * (q.den : Int)) = p * q := by
 unfold qq
 rw [← Rat.divInt_mul_divInt, Rat.num_divInt_den, Rat.num_divInt_den]
theorem qq_add (p q : Rat) : qq (p.num * (q.den : Int) + q.num * (p.den : Int)) ((p.den : Int) * (q.den : Int)) = p + q := by
 unfold qq
 rw [← Rat.divInt_add_divInt _ _ (den0 p) (den0 q), Rat.num_divInt_den, Rat.num_divInt_den]
theorem qq_sub (p q : Rat) : qq (p.num * (q.den : Int) - q.num * (p.den : Int)) ((p.den : Int) * (q.den : Int)) = p - q := by
 unfold qq
 rw [← Rat.divInt_sub_divInt _ _ (den0 p) (den0 q), Rat.num_divInt_den, Rat.num_divInt_den]
def QP (w : World) (q : Rat) (n : Nat) (e : Ending) (w' : World) : Prop := ∃ g, w.heap.size ≤ g ∧ e = .returned (.pointer (some ⟨g, 0, none⟩)) ∧ Below w.heap.size w w' ∧ RQ w' g q n
def QS (w : World) (g : Nat) (q : Rat) (n B : Nat) (e : Ending) (w' : World) : Prop := e = .returned (.pointer (some ⟨g, 0, none⟩)) ∧ Below B w w' ∧ RQ w' g q n
theorem setQ_n (gx ga oa gb ob : Nat) (a b : Int) (n B : Nat) (w : World) (hx0 : Room w gx 0) (hx2 : Room w gx 2) (ha : IsN w ga oa a n) (hb : IsN w gb ob b n) (hbp : b ≠ 0) (hl : n ≤ 500) (hB1 : B ≤ gx) :
  Calls Tryz.prog 135 #[.pointer (some ⟨gx, 0, none⟩), .pointer (some ⟨ga, oa, none⟩), .pointer (some ⟨gb, ob, none⟩)] w (QS w gx (qq a b) n B) :=
 (setFrac_n gx ga oa gb ob a b n n B w hx0 hx2 ha hb hbp (by omega) hB1).mono fun e w' ⟨h1, h2, h3, h4⟩ => ⟨h1, h2, (rat_low hbp).1 ▸ h3, (rat_low hbp).2 ▸ h4⟩
theorem room_rat0 (w : World) : Room (w.alloc (.cells #[.bool false, .slice none 0 0, .bool false, .slice none 0 0] 121)) w.heap.size 0 :=
 ⟨false, .slice none 0 0, ⟨_, 121, blk_new w _, ⟨none, 0, 0, rfl⟩, rfl, rfl⟩⟩
theorem room_rat2 (w : World) : Room (w.alloc (.cells #[.bool false, .slice none 0 0, .bool false, .slice none 0 0] 121)) w.heap.size 2 :=
 ⟨false, .slice none 0 0, ⟨_, 121, blk_new w _, ⟨none, 0, 0, rfl⟩, rfl, rfl⟩⟩
theorem prod_n (ga oa gb ob : Nat) (a b : Int) (na nb : Nat) (w : World) (ha : IsN w ga oa a na) (hb : IsN w gb ob b nb) (hl : na + nb ≤ 1000) :
  Calls Tryz.prog 114 #[.pointer (some ⟨ga, oa, none⟩), .pointer (some ⟨gb, ob, none⟩)] w (NewP w (a * b) (na + nb)) := by
 have hb1 : Below w.heap.size w (w.alloc (.cells #[.bool false, .slice none 0 0] 119)) := below_alloc (Below.refl _ w) _
 have HM := aS (mul_n w.heap.size 0 ga oa gb ob a b na nb _ (room_new w) (ha.below hb1) (hb.below hb1) hl)
 have HB := aS hb1
 clear ha hb hb1
 go_enter Tryz.func114, Tryz.ntmps114
 go_wp2_with fail
 refine HM.out.mono ?_
 rintro e w2 ⟨rfl, hw, hN⟩
 have H := aS (And.intro hw hN)
 clear hw hN
 go_wp2_with fail
 go_ret
 exact ⟨_, Nat.le_refl _, rfl, HB.out.trans (H.out.1.below (Nat.le_refl _) HB.out.size), H.out.2⟩
theorem newRat_n (a b : Int) (w : World) (a0 : -9223372036854775808 ≤ a) (a1 : a ≤ 9223372036854775807) (b0 : -9223372036854775808 ≤ b) (b1 : b ≤ 9223372036854775807) (hb : b ≠ 0) :
  Calls Tryz.prog 109 #[.int .i64 a, .int .i64 b] w (QP w (qq a b) 2) := by
 have hb1 : Below w.heap.size w (w.alloc (.cells #[.bool false, .slice none 0 0, .bool false, .slice none 0 0] 121)) := below_alloc (Below.refl _ w) _
 have HR := aS (And.intro (room_rat0 w) (And.intro (room_rat2 w) hb1))
 have HA := aS (And.intro (And.intro a0 a1) (And.intro (And.intro b0 b1) hb))
 clear a0 a1 b0 b1 hb hb1
 go_enter Tryz.func109, Tryz.ntmps109
 go_wp2_with fail
 generalize hW : w.alloc (.cells #[.bool false, .slice none 0 0, .bool false, .slice none 0 0] 121) = W at *
 refine (newInt_n a W HA.out.1.1 HA.out.1.2).mono ?_
 rintro e w2 ⟨g2, hg2, rfl, hb2, hN2⟩
 have H2 := aS (And.intro hb2 hN2)
 clear hb2 hN2
 go_wp2_with fail
 refine (newInt_n b w2 HA.out.2.1.1 HA.out.2.1.2).mono ?_
 rintro e w3 ⟨g3, hg3, rfl, hb3, hN3⟩
 have H3 := aS (And.intro hb3 hN3)
 clear hb3 hN3
 go_wp2_with fail
 refine (setQ_n w.heap.size g2 0 g3 0 a b 2 w.heap.size w3 ((HR.out.1.below H2.out.1).below H3.out.1) ((HR.out.2.1.below H2.out.1).below H3.out.1) (H2.out.2.below H3.out.1) H3.out.2 HA.out.2.2 (by omega) (Nat.le_refl _)).mono ?_
 rintro e w4 ⟨rfl, hb4, hQ⟩
 have H4 := aS (And.intro hb4 hQ)
 clear hb4 hQ
 go_wp2_with fail
 go_ret
 have s1 := HR.out.2.2.size
 have s2 := H2.out.1.size
 exact ⟨_, Nat.le_refl _, rfl, HR.out.2.2.trans ((H2.out.1.mono s1).trans ((H3.out.1.mono (by omega)).trans H4.out.1)), H4.out.2⟩
theorem mulQ_n (gx gy gz : Nat) (p q : Rat) (n m B : Nat) (w : World) (hx0 : Room w gx 0) (hx2 : Room w gx 2) (hy : RQ w gy p n) (hz : RQ w gz q m) (hl : n + m ≤ 400) (hB : B ≤ gx) :
  Calls Tryz.prog 113 #[.pointer (some ⟨gx, 0, none⟩), .pointer (some ⟨gy, 0, none⟩), .pointer (some ⟨gz, 0, none⟩)] w (QS w gx (p * q) (n + m) B) := by
 have HX := aS (And.intro (And.intro hx0 hx2) (And.intro hy hz))
 have hgx := hx0.lt
 clear hx0 hx2 hy hz
 go_enter Tryz.func113, Tryz.ntmps113
 go_wp2_with fail
 have hb0 : Below w.heap.size w w.drew := below_drew' (Below.refl _ _)
 refine start_ (n := 15) (S := fun w' => True) (ds := []) (bs 15 0) (by kernel_rfl) rfl rfl trivial (fun hHeld => ?_)
 refine zP 0 7 15 1 ?_
 refine zP 1 8 15 3 ?_
 refine zP 2 9 15 7 ?_
 refine zP 3 10 15 15 ?_
 refine zP 4 11 15 31 ?_
 refine zP 5 12 15 63 ?_
 refine zP 6 13 15 127 ?_
 refine zP 8 15 15 383 ?_
 refine zP 10 17 15 1407 ?_
 refine zN 7 (some 14) 15 1535 (fun K hK => ?_)
 refine zG Tryz.func114 #[.pointer (some ⟨gy, 0, none⟩), .pointer (some ⟨gz, 0, none⟩)] ?_
 with_reducible refine (prod_n gy 0 gz 0 p.num q.num n m w.drew (HX.out.2.1.num.below hb0) (HX.out.2.2.num.below hb0) (by omega)).mono ?_
 rintro e w4 ⟨g4, hg4, rfl, hb4, hN4⟩
 refine ⟨_, rfl, ?_⟩
 have hb4' := below_drew' hb4
 have H4 := aS (And.intro hb4' hN4)
 clear hb4 hN4 hb4'
 refine hK.out _ _ trivial (fun hHeld => ?_)
 clear hK K
 refine zM 14 ?_
 refine zN 9 (some 16) 15 2047 (fun K hK => ?_)
 refine zG Tryz.func115 #[.pointer (some ⟨gy, 0, none⟩)] ?_
 with_reducible refine (down_n gy _ n w4 (HX.out.2.1.den.below H4.out.1) (den0 p)).mono ?_
 rintro e w5 ⟨rfl, rfl⟩
 refine ⟨_, rfl, ?_⟩
 refine hK.out _ _ trivial (fun hHeld => ?_)
 clear hK K
 refine zM 16 ?_
 refine zN 11 (some 18) 15 4095 (fun K hK => ?_)
 refine zG Tryz.func115 #[.pointer (some ⟨gz, 0, none⟩)] ?_
 with_reducible refine (down_n gz _ m w4 (HX.out.2.2.den.below H4.out.1) (den0 q)).mono ?_
 rintro e w5 ⟨rfl, rfl⟩
 refine ⟨_, rfl, ?_⟩
 refine hK.out _ _ trivial (fun hHeld => ?_)
 clear hK K
 refine zM 18 ?_
 refine zN 12 (some 19) 15 8191 (fun K hK => ?_)
 refine zG Tryz.func114 #[.pointer (some ⟨gy, 2, none⟩), .pointer (some ⟨gz, 2, none⟩)] ?_
 with_reducible refine (prod_n gy 2 gz 2 p.den q.den n m w4 (HX.out.2.1.den.below H4.out.1) (HX.out.2.2.den.below H4.out.1) (by omega)).mono ?_
 rintro e w5 ⟨g5, hg5, rfl, hb5, hN5⟩
 refine ⟨_, rfl, ?_⟩
 have H5 := aS (And.intro (H4.out.1.trans (hb5.mono H4.out.1.size)) (And.intro (H4.out.2.below hb5) hN5))
 clear hb5 hN5
 refine hK.out _ _ trivial (fun hHeld => ?_)
 clear hK K
 refine zM 19 ?_
 refine zN 13 (some 20) 15 16383 (fun K hK => ?_)
 refine zG Tryz.func135 #[.pointer (some ⟨gx, 0, none⟩), .pointer (some ⟨g4, 0, none⟩), .pointer (some ⟨g5, 0, none⟩)] ?_
 with_reducible refine (setQ_n gx g4 0 g5 0 (p.num * q.num) ((p.den : Int) * (q.den : Int)) (n + m) B w5 (HX.out.1.1.below H5.out.1) (HX.out.1.2.below H5.out.1) H5.out.2.1 H5.out.2.2 (Int.mul_ne_zero (den0 p) (den0 q)) (by omega) hB).mono ?_
 rintro e w6 ⟨rfl, hb6, hQ6⟩
 refine ⟨_, rfl, ?_⟩
 rw [qq_mul] at hQ6
 have H6 := aS (And.intro hb6 hQ6)
 clear hb6 hQ6
 refine hK.out _ _ trivial (fun hHeld => ?_)
 clear hK K
 refine zM 20 ?_
 refine zP 14 6 15 32767 ?_
 refine done_ (by kernel_rfl) ?_
 go_wp2_with fail
 go_ret
 exact ⟨rfl, (H5.out.1.mono (by omega)).trans H6.out.1, H6.out.2⟩
theorem addQ_n (gx gy gz : Nat) (p q : Rat) (n m B : Nat) (w : World) (hx0 : Room w gx 0) (hx2 : Room w gx 2) (hy : RQ w gy p n) (hz : RQ w gz q m) (hl : n + m ≤ 400) (hB : B ≤ gx) :
  Calls Tryz.prog 112 #[.pointer (some ⟨gx, 0, none⟩), .pointer (some ⟨gy, 0, none⟩), .pointer (some ⟨gz, 0, none⟩)] w (QS w gx (p + q) (n + m + 1) B) := by
 have HX := aS (And.intro (And.intro hx0 hx2) (And.intro hy hz))
 have hgx := hx0.lt
 clear hx0 hx2 hy hz
 go_enter Tryz.func112, Tryz.ntmps112
 go_wp2_with fail
 have hb0 : Below w.heap.size w w.drew := below_drew' (Below.refl _ _)
 refine start_ (n := 7) (S := fun w' => True) (ds := []) (bs 7 0) (by kernel_rfl) rfl rfl trivial (fun hHeld => ?_)
 refine zP 0 8 7 1 ?_
 refine zP 1 9 7 3 ?_
 refine zP 2 10 7 7 ?_
 refine zP 3 11 7 15 ?_
 refine zN 4 (some 12) 7 31 (fun K hK => ?_)
 refine zG Tryz.func115 #[.pointer (some ⟨gz, 0, none⟩)] ?_
 with_reducible refine (down_n gz _ m w.drew (HX.out.2.2.den.below hb0) (den0 q)).mono ?_
 rintro e w4 ⟨rfl, rfl⟩
 refine ⟨_, rfl, ?_⟩
 refine hK.out _ _ trivial (fun hHeld => ?_)
 clear hK K
 refine zM 12 ?_
 refine zN 5 (some 13) 7 63 (fun K hK => ?_)
 refine zG Tryz.func114 #[.pointer (some ⟨gy, 0, none⟩), .pointer (some ⟨gz, 2, none⟩)] ?_
 with_reducible refine (prod_n gy 0 gz 2 p.num q.den n m w.drew (HX.out.2.1.num.below hb0) (HX.out.2.2.den.below hb0) (by omega)).mono ?_
 rintro e w4 ⟨g4, hg4, rfl, hb4, hN4⟩
 refine ⟨_, rfl, ?_⟩
 have hb4' := below_drew' hb4
 have H4 := aS (And.intro hb4' hN4)
 have hg4' : w.heap.size ≤ g4 := hg4
 clear hb4 hN4 hb4' hg4
 refine hK.out _ _ trivial (fun hHeld => ?_)
 clear hK K
 refine zM 13 ?_
 refine zP 6 7 7 127 ?_
 refine done_ (by kernel_rfl) ?_
 go_wp2_with fail
 have hb1 : Below w4.heap.size w4 w4.drew := below_drew' (Below.refl _ _)
 have hbw := H4.out.1.trans (hb1.mono H4.out.1.size)
 have K4 := aS (And.intro hbw (H4.out.2.below hb1))
 have hlt4 := H4.out.2.lt
 clear hb0 hb1 hbw
 refine start_ (n := 9) (S := fun w' => True) (ds := []) (bs 9 0) (by kernel_rfl) rfl rfl trivial (fun hHeld => ?_)
 refine zP 0 14 9 1 ?_
 refine zP 1 15 9 3 ?_
 refine zP 2 16 9 7 ?_
 refine zP 3 17 9 15 ?_
 refine zP 4 18 9 31 ?_
 refine zP 5 19 9 63 ?_
 refine zN 6 (some 20) 9 127 (fun K hK => ?_)
 refine zG Tryz.func115 #[.pointer (some ⟨gy, 0, none⟩)] ?_
 with_reducible refine (down_n gy _ n w4.drew (HX.out.2.1.den.below K4.out.1) (den0 p)).mono ?_
 rintro e w5 ⟨rfl, rfl⟩
 refine ⟨_, rfl, ?_⟩
 refine hK.out _ _ trivial (fun hHeld => ?_)
 clear hK K
 refine zM 20 ?_
 refine zN 7 (some 21) 9 255 (fun K hK => ?_)
 refine zG Tryz.func114 #[.pointer (some ⟨gz, 0, none⟩), .pointer (some ⟨gy, 2, none⟩)] ?_
 with_reducible refine (prod_n gz 0 gy 2 q.num p.den m n w4.drew (HX.out.2.2.num.below K4.out.1) (HX.out.2.1.den.below K4.out.1) (by omega)).mono ?_
 rintro e w5 ⟨g5, hg5, rfl, hb5, hN5⟩
 refine ⟨_, rfl, ?_⟩
 have H5 := aS (And.intro (K4.out.1.trans (hb5.mono K4.out.1.size)) (And.intro (K4.out.2.below hb5) hN5))
 clear hb5 hN5
 refine hK.out _ _ trivial (fun hHeld => ?_)
 clear hK K
 refine zM 21 ?_
 refine zN 8 (some 22) 9 511 (fun K hK => ?_)
 refine zG Tryz.func90 #[.pointer (some ⟨g4, 0, none⟩), .pointer (some ⟨g4, 0, none⟩), .pointer (some ⟨g5, 0, none⟩)] ?_
 with_reducible refine (add_n g4 0 g4 0 g5 0 (p.num * (q.den : Int)) (q.num * (p.den : Int)) (n + m) (m + n) w5 H5.out.2.1.room H5.out.2.1 H5.out.2.2.w (by omega)).mono ?_
 rintro e w6 ⟨rfl, hw6, hN6⟩
 refine ⟨_, rfl, ?_⟩
 have H6 := aS (And.intro (show Below w.heap.size w w6 from H5.out.1.trans (hw6.below hg4' H5.out.1.size)) (hN6.mono (m := n + m + 1) (by omega)))
 clear hw6 hN6
 refine hK.out _ _ trivial (fun hHeld => ?_)
 clear hK K
 refine zM 22 ?_
 refine done_ (by kernel_rfl) ?_
 go_wp2_with fail
 refine (down_n gy _ n w6 (HX.out.2.1.den.below H6.out.1) (den0 p)).mono ?_
 rintro e w7 ⟨rfl, rfl⟩
 go_wp2_with fail
 refine (down_n gz _ m w6 (HX.out.2.2.den.below H6.out.1) (den0 q)).mono ?_
 rintro e w7 ⟨rfl, rfl⟩
 go_wp2_with fail
 refine (prod_n gy 2 gz 2 p.den q.den n m w6 (HX.out.2.1.den.below H6.out.1) (HX.out.2.2.den.below H6.out.1) (by omega)).mono ?_
 rintro e w7 ⟨g7, hg7, rfl, hb7, hN7⟩
 have H7 := aS (And.intro (H6.out.1.trans (hb7.mono H6.out.1.size)) (And.intro (H6.out.2.below hb7) hN7))
 clear hb7 hN7
 go_wp2_with fail
 refine (setQ_n gx g4 0 g7 0 (p.num * (q.den : Int) + q.num * (p.den : Int)) ((p.den : Int) * (q.den : Int)) (n + m + 1) B w7 (HX.out.1.1.below H7.out.1) (HX.out.1.2.below H7.out.1) H7.out.2.1 (H7.out.2.2.mono (by omega)) (Int.mul_ne_zero (den0 p) (den0 q)) (by omega) hB).mono ?_
 rintro e w8 ⟨rfl, hb8, hQ8⟩
 rw [qq_add] at hQ8
 have H8 := aS (And.intro hb8 hQ8)
 clear hb8 hQ8
 go_wp2_with fail
 go_ret
 exact ⟨rfl, (H7.out.1.mono (by omega)).trans H8.out.1, H8.out.2⟩
theorem cmpQ_n (gy gz : Nat) (p q : Rat) (n m : Nat) (w : World) (hy : RQ w gy p n) (hz : RQ w gz q m) (hl : n + m ≤ 400) :
  Calls Tryz.prog 65 #[.pointer (some ⟨gy, 0, none⟩), .pointer (some ⟨gz, 0, none⟩)] w (ValP w (.int .i64 (cmpQ p q))) := by
 have HX := aS (And.intro hy hz)
 have HV := aS (cmp_q p q)
 generalize cmpQ p q = V at *
 clear hy hz
 go_enter Tryz.func65, Tryz.ntmps65
 go_wp2_with fail
 have hb0 : Below w.heap.size w w.drew := below_drew' (Below.refl _ _)
 refine start_ (n := 14) (S := fun w' => True) (ds := []) (bs 14 0) (by kernel_rfl) rfl rfl trivial (fun hHeld => ?_)
 refine zP 0 5 14 1 ?_
 refine zP 1 6 14 3 ?_
 refine zP 2 7 14 7 ?_
 refine zP 3 8 14 15 ?_
 refine zP 6 11 14 79 ?_
 refine zP 7 12 14 207 ?_
 refine zP 8 13 14 463 ?_
 refine zP 9 14 14 975 ?_
 refine zN 4 (some 9) 14 991 (fun K hK => ?_)
 refine zG Tryz.func115 #[.pointer (some ⟨gz, 0, none⟩)] ?_
 with_reducible refine (down_n gz _ m w.drew (HX.out.2.den.below hb0) (den0 q)).mono ?_
 rintro e w4 ⟨rfl, rfl⟩
 refine ⟨_, rfl, ?_⟩
 refine hK.out _ _ trivial (fun hHeld => ?_)
 clear hK K
 refine zM 9 ?_
 refine zN 5 (some 10) 14 1023 (fun K hK => ?_)
 refine zG Tryz.func114 #[.pointer (some ⟨gy, 0, none⟩), .pointer (some ⟨gz, 2, none⟩)] ?_
 with_reducible refine (prod_n gy 0 gz 2 p.num q.den n m w.drew (HX.out.1.num.below hb0) (HX.out.2.den.below hb0) (by omega)).mono ?_
 rintro e w4 ⟨g4, hg4, rfl, hb4, hN4⟩
 refine ⟨_, rfl, ?_⟩
 have hb4' := below_drew' hb4
 have H4 := aS (And.intro hb4' hN4)
 clear hb4 hN4 hb4' hg4
 refine hK.out _ _ trivial (fun hHeld => ?_)
 clear hK K
 refine zM 10 ?_
 refine zN 10 (some 15) 14 2047 (fun K hK => ?_)
 refine zG Tryz.func115 #[.pointer (some ⟨gy, 0, none⟩)] ?_
 with_reducible refine (down_n gy _ n w4 (HX.out.1.den.below H4.out.1) (den0 p)).mono ?_
 rintro e w5 ⟨rfl, rfl⟩
 refine ⟨_, rfl, ?_⟩
 refine hK.out _ _ trivial (fun hHeld => ?_)
 clear hK K
 refine zM 15 ?_
 refine zN 11 (some 16) 14 4095 (fun K hK => ?_)
 refine zG Tryz.func114 #[.pointer (some ⟨gz, 0, none⟩), .pointer (some ⟨gy, 2, none⟩)] ?_
 with_reducible refine (prod_n gz 0 gy 2 q.num p.den m n w4 (HX.out.2.num.below H4.out.1) (HX.out.1.den.below H4.out.1) (by omega)).mono ?_
 rintro e w5 ⟨g5, hg5, rfl, hb5, hN5⟩
 refine ⟨_, rfl, ?_⟩
 have H5 := aS (And.intro (H4.out.1.trans (hb5.mono H4.out.1.size)) (And.intro (H4.out.2.below hb5) hN5))
 clear hb5 hN5
 refine hK.out _ _ trivial (fun hHeld => ?_)
 clear hK K
 refine zM 16 ?_
 refine zN 12 (some 17) 14 8191 (fun K hK => ?_)
 refine zG Tryz.func100 #[.pointer (some ⟨g4, 0, none⟩), .pointer (some ⟨g5, 0, none⟩)] ?_
 with_reducible refine (cmp_n g4 0 g5 0 (p.num * (q.den : Int)) (q.num * (p.den : Int)) (n + m) (m + n) w5 H5.out.2.1 H5.out.2.2 (by omega)).mono ?_
 rintro e w6 ⟨rfl, hb6⟩
 refine ⟨_, rfl, ?_⟩
 rw [HV.out]
 have H6 := aS (H5.out.1.trans (hb6.mono H5.out.1.size))
 clear hb6
 refine hK.out _ _ trivial (fun hHeld => ?_)
 clear hK K
 refine zM 17 ?_
 refine zP 13 4 14 16383 ?_
 refine done_ (by kernel_rfl) ?_
 go_wp2_with fail
 go_ret
 exact ⟨rfl, H6.out⟩
end Go.Proofs.YtekommcfpjonmaaGreat.Rf
namespace Go.Proofs.YtekommcfpjonmaaGreat.Er
open RowKit Go YtekommcfpjonmaaGreatW.PrintWords YtekommcfpjonmaaGreatW.PrintLast YtekommcfpjonmaaGreatW.PrintMore Ml Mn Nd Z P Nc Nb Qa Ea Ra Rf
structure I64 (x : Int) : Prop where
 lo : -9223372036854775808 ≤ x
 hi : x ≤ 9223372036854775807
def edO (d m n e : Int) : Obj := .cells #[.int .i64 d, .int .i64 m, .int .i64 n, .int .i64 e] 67 (0, 0)
def clO (ms ts : Int) : Obj := .cells #[.int .i64 ms, .int .i64 ts] 114 (0, 0)
theorem ed_cells {w : World} {g : Nat} {d m n e : Int} (h : w.heap[g]? = some (edO d m n e)) : w.cell? ⟨g, 0, none⟩ = some (.int .i64 d) ∧ w.cell? ⟨g, 1, none⟩ = some (.int .i64 m) ∧ w.cell? ⟨g, 2, none⟩ = some (.int .i64 n) ∧ w.cell? ⟨g, 3, none⟩ = some (.int .i64 e) :=
 ⟨(blk_cell h 0).trans rfl, (blk_cell h 1).trans rfl, (blk_cell h 2).trans rfl, (blk_cell h 3).trans rfl⟩
theorem ed_free {w : World} {g : Nat} {d m n e : Int} (h : w.heap[g]? = some (edO d m n e)) : w.frozen? ⟨g, 0, none⟩ = false ∧ w.frozen? ⟨g, 1, none⟩ = false ∧ w.frozen? ⟨g, 2, none⟩ = false ∧ w.frozen? ⟨g, 3, none⟩ = false :=
 ⟨blk_frozen h 0, blk_frozen h 1, blk_frozen h 2, blk_frozen h 3⟩
theorem cl_cells {w : World} {g : Nat} {ms ts : Int} (h : w.heap[g]? = some (clO ms ts)) : w.cell? ⟨g, 0, none⟩ = some (.int .i64 ms) ∧ w.cell? ⟨g, 1, none⟩ = some (.int .i64 ts) :=
 ⟨(blk_cell h 0).trans rfl, (blk_cell h 1).trans rfl⟩
theorem ratioE_n (a b : Int) (w : World) (ha : I64 a) (hb : I64 b) (hz : b ≠ 0) :
  Calls Tryz.prog 59 #[.int .i64 a, .int .i64 b] w (QP w (qq a b) 2) := by
 have HC := aS (newRat_n a b w ha.lo ha.hi hb.lo hb.hi hz)
 clear hz
 go_enter Tryz.func59, Tryz.ntmps59
 go_wp2_with fail
 refine HC.out.mono ?_
 rintro e w2 ⟨g, hg, rfl, hb2, hN⟩
 have H := aS (And.intro hg (And.intro hb2 hN))
 clear hg hb2 hN
 go_wp2_with fail
 go_ret
 exact ⟨g, H.out.1, rfl, H.out.2.1, H.out.2.2⟩
theorem mulE_n (gy gz : Nat) (p q : Rat) (n m : Nat) (w : World) (hy : RQ w gy p n) (hz : RQ w gz q m) (hl : n + m ≤ 400) :
  Calls Tryz.prog 64 #[.pointer (some ⟨gy, 0, none⟩), .pointer (some ⟨gz, 0, none⟩)] w (QP w (p * q) (n + m)) := by
 have hb1 : Below w.heap.size w (w.alloc (.cells #[.bool false, .slice none 0 0, .bool false, .slice none 0 0] 121)) := below_alloc (Below.refl _ w) _
 have HC := aS (mulQ_n w.heap.size gy gz p q n m w.heap.size _ (room_rat0 w) (room_rat2 w) (hy.below hb1) (hz.below hb1) hl (Nat.le_refl _))
 have HB := aS hb1
 clear hb1 hy hz
 go_enter Tryz.func64, Tryz.ntmps64
 go_wp2_with fail
 refine HC.out.mono ?_
 rintro e w2 ⟨rfl, hb2, hN⟩
 have H := aS (And.intro hb2 hN)
 clear hb2 hN
 go_wp2_with fail
 go_ret
 exact ⟨_, Nat.le_refl _, rfl, HB.out.trans H.out.1, H.out.2⟩
theorem addE_n (gy gz : Nat) (p q : Rat) (n m : Nat) (w : World) (hy : RQ w gy p n) (hz : RQ w gz q m) (hl : n + m ≤ 400) :
  Calls Tryz.prog 63 #[.pointer (some ⟨gy, 0, none⟩), .pointer (some ⟨gz, 0, none⟩)] w (QP w (p + q) (n + m + 1)) := by
 have hb1 : Below w.heap.size w (w.alloc (.cells #[.bool false, .slice none 0 0, .bool false, .slice none 0 0] 121)) := below_alloc (Below.refl _ w) _
 have HC := aS (addQ_n w.heap.size gy gz p q n m w.heap.size _ (room_rat0 w) (room_rat2 w) (hy.below hb1) (hz.below hb1) hl (Nat.le_refl _))
 have HB := aS hb1
 clear hb1 hy hz
 go_enter Tryz.func63, Tryz.ntmps63
 go_wp2_with fail
 refine HC.out.mono ?_
 rintro e w2 ⟨rfl, hb2, hN⟩
 have H := aS (And.intro hb2 hN)
 clear hb2 hN
 go_wp2_with fail
 go_ret
 exact ⟨_, Nat.le_refl _, rfl, HB.out.trans H.out.1, H.out.2⟩
structure Bx (w W : World) (ms ts d m n e : Int) : Prop where
 c : W.heap[w.heap.size]? = some (clO ms ts)
 e : W.heap[w.heap.size + 1]? = some (edO d m n e)
 below : Below w.heap.size w W
theorem Bx.start (w : World) (ms ts d m n e : Int) : Bx w ((w.alloc (clO ms ts)).alloc (edO d m n e)) ms ts d m n e := by
 have e1 : (w.alloc (clO ms ts)).heap.size = w.heap.size + 1 := by simp
 have k2 := blk_new (w.alloc (clO ms ts)) (edO d m n e)
 rw [e1] at k2
 exact ⟨blk_alloc (blk_new w _) _, k2, below_alloc (below_alloc (Below.refl _ w) _) _⟩
theorem Bx.step {w W W2 : World} {ms ts d m n e : Int} (h : Bx w W ms ts d m n e) (hb : Below W.heap.size W W2) : Bx w W2 ms ts d m n e :=
 ⟨blk_below h.c hb, blk_below h.e hb, h.below.trans (hb.mono h.below.size)⟩
theorem Bx.cells {w W : World} {ms ts d m n e : Int} (h : Bx w W ms ts d m n e) : W.cell? ⟨w.heap.size, 0, none⟩ = some (.int .i64 ms) ∧ W.cell? ⟨w.heap.size, 1, none⟩ = some (.int .i64 ts) ∧ W.cell? ⟨w.heap.size + 1, 1, none⟩ = some (.int .i64 m) ∧ W.cell? ⟨w.heap.size + 1, 2, none⟩ = some (.int .i64 n) ∧ W.cell? ⟨w.heap.size + 1, 3, none⟩ = some (.int .i64 e) := by
 obtain ⟨c0, c1⟩ := cl_cells h.c
 obtain ⟨e0, e1, e2, e3⟩ := ed_cells h.e
 exact ⟨c0, c1, e1, e2, e3⟩
def afterQ (ms ts m n e k : Int) : Rat := qq k ms * qq n e * qq ts 1 + qq m 1
theorem i1 : I64 1 := ⟨by decide, by decide⟩
theorem after_n (ms ts d m n e k : Int) (w : World) (h1 : I64 ms ∧ ms ≠ 0) (h2 : I64 ts) (h3 : I64 m) (h4 : I64 n) (h5 : I64 e ∧ e ≠ 0) (h6 : I64 k) :
  Calls Tryz.prog 179 #[.agg #[.int .i64 ms, .int .i64 ts], .agg #[.int .i64 d, .int .i64 m, .int .i64 n, .int .i64 e], .int .i64 k] w (QP w (afterQ ms ts m n e k) 9) := by
 have hu := Tryz.underlying67
 have hu2 := Tryz.underlying114
 have HH := aS (And.intro (And.intro h1 h2) (And.intro (And.intro h3 h4) (And.intro h5 h6)))
 have hQ := aS (Bx.start w ms ts d m n e)
 clear h1 h2 h3 h4 h5 h6
 go_enter Tryz.func179, Tryz.ntmps179
 go_wp2_with fail
 generalize hW : World.alloc (World.alloc _ _) _ = W
 have HQ := aS (show Bx w W ms ts d m n e by rw [← hW]; exact hQ.out)
 clear hW hQ
 have hb0 : Below W.heap.size W W.drew := below_drew' (Below.refl _ _)
 refine start_ (n := 15) (S := fun w' => w'.cell? ⟨w.heap.size, 0, none⟩ = some (.int .i64 ms) ∧ w'.cell? ⟨w.heap.size, 1, none⟩ = some (.int .i64 ts) ∧ w'.cell? ⟨w.heap.size + 1, 1, none⟩ = some (.int .i64 m) ∧ w'.cell? ⟨w.heap.size + 1, 2, none⟩ = some (.int .i64 n) ∧ w'.cell? ⟨w.heap.size + 1, 3, none⟩ = some (.int .i64 e)) (ds := []) (bs 15 0) (by kernel_rfl) rfl rfl (HQ.out.step hb0).cells (fun hHeld => ?_)
 refine zP 0 8 15 1 ?_
 refine zP 1 9 15 3 ?_
 refine zP 4 12 15 19 ?_
 refine zP 6 14 15 83 ?_
 refine zP 10 18 15 1107 ?_
 refine zT 2 10 15 1111 hHeld ?_
 refine zT 5 13 15 1143 hHeld ?_
 refine zT 7 15 15 1271 hHeld ?_
 refine zT 11 19 15 3319 hHeld ?_
 refine zN 3 (some 11) 15 3327 (fun K hK => ?_)
 refine zG Tryz.func59 #[.int .i64 k, .int .i64 ms] ?_
 with_reducible refine (ratioE_n k ms W.drew HH.out.2.2.2 HH.out.1.1.1 HH.out.1.1.2).mono ?_
 rintro e w3 ⟨g3, hg3, rfl, hb3, hN3⟩
 refine ⟨_, rfl, ?_⟩
 have hb3' := below_drew' hb3
 have H3 := aS (And.intro hN3 (HQ.out.step hb3'))
 clear hb3 hN3 hb3' hg3
 refine hK.out _ _ H3.out.2.cells (fun hHeld => ?_)
 clear hK K
 refine zM 11 ?_
 refine zN 8 (some 16) 15 3583 (fun K hK => ?_)
 refine zG Tryz.func59 #[.int .i64 n, .int .i64 e] ?_
 with_reducible refine (ratioE_n n e w3 HH.out.2.1.2 HH.out.2.2.1.1 HH.out.2.2.1.2).mono ?_
 rintro e w4 ⟨g4, hg4, rfl, hb4, hN4⟩
 refine ⟨_, rfl, ?_⟩
 have H4 := aS (And.intro (H3.out.1.below hb4) (And.intro hN4 (H3.out.2.step hb4)))
 clear hb4 hN4 hg4
 refine hK.out _ _ H4.out.2.2.cells (fun hHeld => ?_)
 clear hK K
 refine zM 16 ?_
 refine zN 9 (some 17) 15 4095 (fun K hK => ?_)
 refine zG Tryz.func64 #[.pointer (some ⟨g3, 0, none⟩), .pointer (some ⟨g4, 0, none⟩)] ?_
 with_reducible refine (mulE_n g3 g4 _ _ 2 2 w4 H4.out.1 H4.out.2.1 (by decide)).mono ?_
 rintro e w5 ⟨g5, hg5, rfl, hb5, hN5⟩
 refine ⟨_, rfl, ?_⟩
 have H5 := aS (And.intro hN5 (H4.out.2.2.step hb5))
 clear hb5 hN5 hg5
 refine hK.out _ _ H5.out.2.cells (fun hHeld => ?_)
 clear hK K
 refine zM 17 ?_
 refine zN 12 (some 20) 15 8191 (fun K hK => ?_)
 refine zG Tryz.func59 #[.int .i64 ts, .int .i64 1] ?_
 with_reducible refine (ratioE_n ts 1 w5 HH.out.1.2 i1 (by decide)).mono ?_
 rintro e w6 ⟨g6, hg6, rfl, hb6, hN6⟩
 refine ⟨_, rfl, ?_⟩
 have H6 := aS (And.intro (H5.out.1.below hb6) (And.intro hN6 (H5.out.2.step hb6)))
 clear hb6 hN6 hg6
 refine hK.out _ _ H6.out.2.2.cells (fun hHeld => ?_)
 clear hK K
 refine zM 20 ?_
 refine zN 13 (some 21) 15 16383 (fun K hK => ?_)
 refine zG Tryz.func64 #[.pointer (some ⟨g5, 0, none⟩), .pointer (some ⟨g6, 0, none⟩)] ?_
 with_reducible refine (mulE_n g5 g6 _ _ 4 2 w6 H6.out.1 H6.out.2.1 (by decide)).mono ?_
 rintro e w7 ⟨g7, hg7, rfl, hb7, hN7⟩
 refine ⟨_, rfl, ?_⟩
 have H7 := aS (And.intro hN7 (H6.out.2.2.step hb7))
 clear hb7 hN7 hg7
 refine hK.out _ _ H7.out.2.cells (fun hHeld => ?_)
 clear hK K
 refine zM 21 ?_
 refine zP 14 7 15 32767 ?_
 refine done_ (by kernel_rfl) ?_
 obtain ⟨c0, c1, e1, e2, e3⟩ := H7.out.2.cells
 clear hb0
 go_wp2_with fail
 refine (ratioE_n m 1 w7 HH.out.2.1.1 i1 (by decide)).mono ?_
 rintro e w8 ⟨g8, hg8, rfl, hb8, hN8⟩
 have H8 := aS (And.intro (H7.out.1.below hb8) (And.intro hN8 (H7.out.2.step hb8)))
 clear hb8 hN8 hg8 c0 c1 e1 e2 e3
 go_wp2_with fail
 refine (addE_n g7 g8 _ _ 6 2 w8 H8.out.1 H8.out.2.1 (by decide)).mono ?_
 rintro e w9 ⟨g9, hg9, rfl, hb9, hN9⟩
 have H9 := aS (And.intro hN9 (H8.out.2.2.step hb9))
 have HG := aS hg9
 have HL := aS H8.out.2.2.below.size
 clear hb9 hN9 hg9
 go_wp2_with fail
 go_ret
 exact ⟨g9, Nat.le_trans HL.out HG.out, rfl, H9.out.2.below, H9.out.1⟩
end Go.Proofs.YtekommcfpjonmaaGreat.Er
namespace Go.Proofs.YtekommcfpjonmaaGreat.Ek
open RowKit Go YtekommcfpjonmaaGreatW.PrintWords YtekommcfpjonmaaGreatW.PrintLast YtekommcfpjonmaaGreatW.PrintMore Ml Mn Nd Z P Nc Nb Qa Ea Ra Rf Er
theorem qq_low {n e : Int} (h0 : 0 ≤ n) (he : 1 ≤ e) : 0 ≤ (qq n e).num ∧ (qq n e).num ≤ n ∧ 1 ≤ ((qq n e).den : Int) ∧ ((qq n e).den : Int) ≤ e := by
 obtain ⟨h1, h2⟩ := rat_low (a := n) (b := e) (by omega)
 rw [← h1, ← h2]
 unfold ratN ratD lowN lowD
 rw [if_neg (by omega), if_neg (by omega)]
 have hg : 0 < ((Int.gcd n e : Nat) : Int) := by
  have := Int.gcd_pos_of_ne_zero_right n (show e ≠ 0 by omega)
  omega
 refine ⟨Int.ediv_nonneg h0 (by omega), Int.ediv_le_self _ h0, ?_, Int.ediv_le_self _ (by omega)⟩
 have h3 := Int.ediv_mul_cancel (Int.gcd_dvd_right n e)
 refine Int.le_of_not_gt fun h => ?_
 have : e / (Int.gcd n e : Int) * (Int.gcd n e : Int) ≤ 0 * (Int.gcd n e : Int) := Int.mul_le_mul_of_nonneg_right (by omega) (by omega)
 omega
theorem blk_four {w : World} {g : Nat} {t : TypeId} {a b c d x y z u : Value} (h : w.heap[g]? = some (.cells #[a, b, c, d] t (0, 0))) : ((((w.setCell ⟨g, 0, none⟩ x).setCell ⟨g, 1, none⟩ y).setCell ⟨g, 2, none⟩ z).setCell ⟨g, 3, none⟩ u).heap[g]? = some (.cells #[x, y, z, u] t (0, 0)) :=
 blk_put (cs := #[x, y, z, d]) (blk_put (cs := #[x, y, c, d]) (blk_put (cs := #[x, b, c, d]) (blk_put (cs := #[a, b, c, d]) h 0 x rfl) 1 y rfl) 2 z rfl) 3 u rfl
structure Lx (w W : World) (d m n e : Int) (o : Obj) : Prop where
 e : W.heap[w.heap.size]? = some (edO d m n e)
 r : W.heap[w.heap.size + 1]? = some o
 below : Below w.heap.size w W
theorem Lx.start (w : World) (d m n e : Int) (o : Obj) : Lx w ((w.alloc (edO d m n e)).alloc o) d m n e o := by
 have e1 : (w.alloc (edO d m n e)).heap.size = w.heap.size + 1 := by simp
 have k2 := blk_new (w.alloc (edO d m n e)) o
 rw [e1] at k2
 exact ⟨blk_alloc (blk_new w _) _, k2, below_alloc (below_alloc (Below.refl _ w) _) _⟩
theorem Lx.step {w W W2 : World} {d m n e : Int} {o : Obj} (h : Lx w W d m n e o) (hb : Below W.heap.size W W2) : Lx w W2 d m n e o :=
 ⟨blk_below h.e hb, blk_below h.r hb, h.below.trans (hb.mono h.below.size)⟩
theorem set_other {w : World} {g g' o : Nat} {v : Value} {x : Obj} (h : w.heap[g]? = some x) (hne : g ≠ g') : (w.setCell ⟨g', o, none⟩ v).heap[g]? = some x := by
 rw [Below.heap_setCell _ _ _ _ hne]; exact h
theorem lowest_n (d m n e : Int) (w : World) (h0 : 0 ≤ n) (h1 : n ≤ 1000000) (h2 : 1 ≤ e) (h3 : e ≤ 1000000) :
  Calls Tryz.prog 149 #[.agg #[.int .i64 d, .int .i64 m, .int .i64 n, .int .i64 e]] w (fun e' w' => e' = .returned (.agg #[.int .i64 d, .int .i64 m, .int .i64 (qq n e).num, .int .i64 ((qq n e).den : Int)]) ∧ Below w.heap.size w w') := by
 have hu := Tryz.underlying67
 have hq := qq_low h0 h2
 have HC := aS (fun W => ratioE_n n e W ⟨by omega, by omega⟩ ⟨by omega, by omega⟩ (by omega))
 have HQ := aS (And.intro (And.intro (show -9223372036854775807 ≤ (qq n e).num by omega) (show (qq n e).num ≤ 9223372036854775807 by omega)) (And.intro (show -9223372036854775807 ≤ ((qq n e).den : Int) by omega) (show ((qq n e).den : Int) ≤ 9223372036854775807 by omega)))
 have hL := aS (Lx.start w d m n e (edO 0 0 0 0))
 clear hq h0 h1 h2 h3
 generalize qq n e = Q at *
 go_enter Tryz.func149, Tryz.ntmps149
 go_wp2_with fail
 generalize hW : World.alloc (World.alloc _ _) _ = W
 have HL := aS (show Lx w W d m n e (edO 0 0 0 0) by rw [← hW]; exact hL.out)
 clear hW hL
 refine (HC.out W).mono ?_
 rintro e3 w3 ⟨g3, hg3, rfl, hb3, hN3⟩
 have H3 := aS (And.intro hN3 (HL.out.step hb3))
 clear hb3 hN3 hg3 HC
 go_wp2_with fail
 refine (num_n g3 w3).mono ?_
 rintro e4 w4 ⟨rfl, rfl⟩
 go_wp2_with fail
 refine (int64_n g3 0 Q.num 2 w3 H3.out.1.num HQ.out.1.1 HQ.out.1.2 (by decide)).mono ?_
 rintro e4 w4 ⟨rfl, hb4⟩
 have H4 := aS (And.intro (H3.out.1.below hb4) (H3.out.2.step hb4))
 clear hb4
 go_wp2_with fail
 refine (denom_n g3 _ 2 w4 H4.out.1.den (den0 Q)).mono ?_
 rintro e5 w5 ⟨rfl, rfl⟩
 go_wp2_with fail
 refine (int64_n g3 2 Q.den 2 w4 H4.out.1.den HQ.out.2.1 HQ.out.2.2 (by decide)).mono ?_
 rintro e5 w5 ⟨rfl, hb5⟩
 have H5 := aS (H4.out.2.step hb5)
 clear hb5
 obtain ⟨c0, c1, c2, c3⟩ := ed_cells H5.out.e
 obtain ⟨f0, f1, f2, f3⟩ := ed_free H5.out.e
 obtain ⟨r0, r1, r2, r3⟩ := ed_cells (d := 0) (m := 0) (n := 0) (e := 0) H5.out.r
 obtain ⟨s0, s1, s2, s3⟩ := ed_free (d := 0) (m := 0) (n := 0) (e := 0) H5.out.r
 go_wp2_with fail
 have hr : ((w5.setCell ⟨w.heap.size, 2, none⟩ (.int .i64 Q.num)).setCell ⟨w.heap.size, 3, none⟩ (.int .i64 (Q.den : Int))).heap[w.heap.size + 1]? = some (edO 0 0 0 0) :=
  set_other (set_other H5.out.r (by omega)) (by omega)
 refine bodyPost_ret (results_single rfl (.cell (w.heap.size + 1) 67 #[.int .i64 d, .int .i64 m, .int .i64 Q.num, .int .i64 (Q.den : Int)] (0, 0) _ rfl (blk_four hr) Tryz.underlying67 rfl (by kernel_rfl) .nil)) rfl ?_
 have hB := H5.out.below
 exact ⟨rfl, (((((hB.setCell (Nat.le_refl _) _).setCell (Nat.le_refl _) _).setCell (Nat.le_succ _) _).setCell (Nat.le_succ _) _).setCell (Nat.le_succ _) _).setCell (Nat.le_succ _) _⟩
def kdO (b : Bool) (s n e : Int) : Obj := .cells #[.bool b, .int .i64 s, .int .i64 n, .int .i64 e] 175 (0, 0)
def kB (m n e : Int) : Bool := decide (m < 0)
def kS (m n e : Int) : Int := if m < 0 then 0 else if n = 0 then m else 0
def kN (m n e : Int) : Int := if m < 0 then 0 else if n = 0 then 0 else n
def kE (m n e : Int) : Int := if m < 0 then 0 else if n = 0 then 0 else e
theorem kindOf_n (d m n e : Int) (w : World) :
  Calls Tryz.prog 178 #[.agg #[.int .i64 d, .int .i64 m, .int .i64 n, .int .i64 e]] w (fun e' w' => e' = .returned (.agg #[.bool (kB m n e), .int .i64 (kS m n e), .int .i64 (kN m n e), .int .i64 (kE m n e)]) ∧ Below w.heap.size w w') := by
 have hu := Tryz.underlying67
 have hu2 := Tryz.underlying175
 go_enter Tryz.func178, Tryz.ntmps178
 go_wp2
 ·refine bodyPost_ret (results_single rfl (.cell (w.heap.size + 1) 175 #[.bool true, .int .i64 0, .int .i64 0, .int .i64 0] (0, 0) _ rfl (Lx.start w d m n e (kdO true 0 0 0)).r Tryz.underlying175 rfl (by kernel_rfl) .nil)) rfl ?_
  refine ⟨?_, (Lx.start w d m n e (kdO true 0 0 0)).below⟩
  unfold kB kS kN kE
  simp_all
 ·refine bodyPost_ret (results_single rfl (.cell (w.heap.size + 1) 175 #[.bool false, .int .i64 m, .int .i64 0, .int .i64 0] (0, 0) _ rfl (Lx.start w d m n e (kdO false m 0 0)).r Tryz.underlying175 rfl (by kernel_rfl) .nil)) rfl ?_
  refine ⟨?_, (Lx.start w d m n e (kdO false m 0 0)).below⟩
  have h0 : ¬ m < 0 := by omega
  have hn : n = 0 := by simp_all
  unfold kB kS kN kE
  simp [h0, hn]
 refine bodyPost_ret (results_single rfl (.cell (w.heap.size + 1) 175 #[.bool false, .int .i64 0, .int .i64 n, .int .i64 e] (0, 0) _ rfl (Lx.start w d m n e (kdO false 0 n e)).r Tryz.underlying175 rfl (by kernel_rfl) .nil)) rfl ?_
 refine ⟨?_, (Lx.start w d m n e (kdO false 0 n e)).below⟩
 have h0 : ¬ m < 0 := by omega
 have hn : n ≠ 0 := by simp_all
 unfold kB kS kN kE
 simp [h0, hn]
theorem eqA175 (d : Nat) (w : World) (x0 y0 : Bool) (x1 y1 : Int) (x2 y2 : Int) (x3 y3 : Int) :
  (Op.equalIn (d + 2) 175 (.agg #[.bool x0, .int .i64 x1, .int .i64 x2, .int .i64 x3]) (.agg #[.bool y0, .int .i64 y1, .int .i64 y2, .int .i64 y3])).run Tryz.prog w = .ok (x0 == y0 && (x1 == y1 && (x2 == y2 && (x3 == y3)))) w := by
 refine eqA_of Tryz.underlying175 (by kernel_rfl) ?_
 refine eqf_cons (by rfl) (by go_simp; rfl) (by go_simp; rfl) (by go_simp) ?_
 refine eqf_cons (by rfl) (by go_simp; rfl) (by go_simp; rfl) (by go_simp) ?_
 refine eqf_cons (by rfl) (by go_simp; rfl) (by go_simp; rfl) (by go_simp) ?_
 exact eqf_last (by rfl) (by go_simp; rfl) (by go_simp; rfl) (by go_simp)
attribute [local go_sem high] eqA175
structure Ox (w W : World) (ms ts d m n e d' m' n' e' : Int) : Prop where
 c : W.heap[w.heap.size]? = some (clO ms ts)
 a : W.heap[w.heap.size + 1]? = some (edO d m n e)
 b : W.heap[w.heap.size + 1 + 1]? = some (edO d' m' n' e')
 below : Below w.heap.size w W
theorem Ox.start (w : World) (ms ts d m n e d' m' n' e' : Int) : Ox w (((w.alloc (clO ms ts)).alloc (edO d m n e)).alloc (edO d' m' n' e')) ms ts d m n e d' m' n' e' := by
 have e1 : (w.alloc (clO ms ts)).heap.size = w.heap.size + 1 := by simp
 have e2 : ((w.alloc (clO ms ts)).alloc (edO d m n e)).heap.size = w.heap.size + 1 + 1 := by simp
 have k2 := blk_new (w.alloc (clO ms ts)) (edO d m n e)
 have k3 := blk_new ((w.alloc (clO ms ts)).alloc (edO d m n e)) (edO d' m' n' e')
 rw [e1] at k2
 rw [e2] at k3
 exact ⟨blk_alloc (blk_alloc (blk_new w _) _) _, blk_alloc k2 _, k3, below_alloc (below_alloc (below_alloc (Below.refl _ w) _) _) _⟩
theorem Ox.step {w W W2 : World} {ms ts d m n e d' m' n' e' : Int} (h : Ox w W ms ts d m n e d' m' n' e') (hb : Below W.heap.size W W2) : Ox w W2 ms ts d m n e d' m' n' e' :=
 ⟨blk_below h.c hb, blk_below h.a hb, blk_below h.b hb, h.below.trans (hb.mono h.below.size)⟩
theorem Ox.cells {w W : World} {ms ts d m n e d' m' n' e' : Int} (h : Ox w W ms ts d m n e d' m' n' e') : W.cell? ⟨w.heap.size, 0, none⟩ = some (.int .i64 ms) ∧ W.cell? ⟨w.heap.size, 1, none⟩ = some (.int .i64 ts) ∧ W.cell? ⟨w.heap.size + 1, 0, none⟩ = some (.int .i64 d) ∧ W.cell? ⟨w.heap.size + 1, 1, none⟩ = some (.int .i64 m) ∧ W.cell? ⟨w.heap.size + 1, 2, none⟩ = some (.int .i64 n) ∧ W.cell? ⟨w.heap.size + 1, 3, none⟩ = some (.int .i64 e) ∧ W.cell? ⟨w.heap.size + 1 + 1, 0, none⟩ = some (.int .i64 d') ∧ W.cell? ⟨w.heap.size + 1 + 1, 1, none⟩ = some (.int .i64 m') ∧ W.cell? ⟨w.heap.size + 1 + 1, 2, none⟩ = some (.int .i64 n') ∧ W.cell? ⟨w.heap.size + 1 + 1, 3, none⟩ = some (.int .i64 e') := by
 obtain ⟨c0, c1⟩ := cl_cells h.c
 obtain ⟨e0, e1, e2, e3⟩ := ed_cells h.a
 obtain ⟨f0, f1, f2, f3⟩ := ed_cells h.b
 exact ⟨c0, c1, e0, e1, e2, e3, f0, f1, f2, f3⟩
def kinB (m n e m' n' e' : Int) : Bool := (kB m n e == kB m' n' e') && ((kS m n e == kS m' n' e') && ((kN m n e == kN m' n' e') && (kE m n e == kE m' n' e')))
def overB (ms ts d m n e m' n' e' : Int) : Bool := kinB m n e m' n' e' && (decide (m < 0) || (n == 0) || (cmpQ (afterQ ms ts m n e d) (qq m' 1) == 0))
theorem over_n (ms ts d m n e d' m' n' e' : Int) (w : World) (h1 : I64 ms ∧ ms ≠ 0) (h2 : I64 ts) (h3 : I64 m) (h4 : I64 n) (h5 : I64 e ∧ e ≠ 0) (h6 : I64 d) (h7 : I64 m') :
  Calls Tryz.prog 150 #[.agg #[.int .i64 ms, .int .i64 ts], .agg #[.int .i64 d, .int .i64 m, .int .i64 n, .int .i64 e], .agg #[.int .i64 d', .int .i64 m', .int .i64 n', .int .i64 e']] w (ValP w (.bool (overB ms ts d m n e m' n' e'))) := by
 have hu := Tryz.underlying67
 have hu2 := Tryz.underlying175
 have hu3 := Tryz.underlying114
 have HH := aS (And.intro h1 (And.intro h2 (And.intro h3 (And.intro h4 (And.intro h5 (And.intro h6 h7))))))
 have hQ := aS (Ox.start w ms ts d m n e d' m' n' e')
 have HV := aS (show overB ms ts d m n e m' n' e' = (kinB m n e m' n' e' && (decide (m < 0) || (n == 0) || (cmpQ (afterQ ms ts m n e d) (qq m' 1) == 0))) from rfl)
 generalize overB ms ts d m n e m' n' e' = V at *
 have hk := aS (show kinB m n e m' n' e' = ((kB m n e == kB m' n' e') && ((kS m n e == kS m' n' e') && ((kN m n e == kN m' n' e') && (kE m n e == kE m' n' e')))) from rfl)
 clear h1 h2 h3 h4 h5 h6 h7
 go_enter Tryz.func150, Tryz.ntmps150
 go_wp2_with fail
 generalize hW : World.alloc (World.alloc (World.alloc _ _) _) _ = W
 have HQ := aS (show Ox w W ms ts d m n e d' m' n' e' by rw [← hW]; exact hQ.out)
 clear hW hQ
 have hb0 : Below W.heap.size W W.drew := below_drew' (Below.refl _ _)
 refine start_ (n := 5) (S := fun w' => w'.cell? ⟨w.heap.size + 1, 0, none⟩ = some (.int .i64 d) ∧ w'.cell? ⟨w.heap.size + 1, 1, none⟩ = some (.int .i64 m) ∧ w'.cell? ⟨w.heap.size + 1, 2, none⟩ = some (.int .i64 n) ∧ w'.cell? ⟨w.heap.size + 1, 3, none⟩ = some (.int .i64 e) ∧ w'.cell? ⟨w.heap.size + 1 + 1, 0, none⟩ = some (.int .i64 d') ∧ w'.cell? ⟨w.heap.size + 1 + 1, 1, none⟩ = some (.int .i64 m') ∧ w'.cell? ⟨w.heap.size + 1 + 1, 2, none⟩ = some (.int .i64 n') ∧ w'.cell? ⟨w.heap.size + 1 + 1, 3, none⟩ = some (.int .i64 e')) (ds := []) (bs 5 0) (by kernel_rfl) rfl rfl (HQ.out.step hb0).cells.2.2 (fun hHeld => ?_)
 refine zT 0 7 5 1 hHeld ?_
 refine zT 2 9 5 5 hHeld ?_
 refine zN 1 (some 8) 5 7 (fun K hK => ?_)
 refine zG Tryz.func178 #[.agg #[.int .i64 d, .int .i64 m, .int .i64 n, .int .i64 e]] ?_
 with_reducible refine (kindOf_n d m n e W.drew).mono ?_
 rintro e3 w3 ⟨rfl, hb3⟩
 refine ⟨_, rfl, ?_⟩
 have hb3' := below_drew' hb3
 have H3 := aS (HQ.out.step hb3')
 clear hb3 hb3'
 refine hK.out _ _ H3.out.cells.2.2 (fun hHeld => ?_)
 clear hK K
 refine zM 8 ?_
 refine zN 3 (some 10) 5 15 (fun K hK => ?_)
 refine zG Tryz.func178 #[.agg #[.int .i64 d', .int .i64 m', .int .i64 n', .int .i64 e']] ?_
 with_reducible refine (kindOf_n d' m' n' e' w3).mono ?_
 rintro e4 w4 ⟨rfl, hb4⟩
 refine ⟨_, rfl, ?_⟩
 have H4 := aS (H3.out.step hb4)
 clear hb4
 refine hK.out _ _ H4.out.cells.2.2 (fun hHeld => ?_)
 clear hK K
 refine zM 10 ?_
 refine zP 4 11 5 31 ?_
 refine done_ (by kernel_rfl) ?_
 have hn : (!kB m n e == kB m' n' e' || (!kS m n e == kS m' n' e' || (!kN m n e == kN m' n' e' || !kE m n e == kE m' n' e'))) = !kinB m n e m' n' e' := by rw [hk.out]; simp only [Bool.not_and]
 rw [hn]
 clear hn hk hHeld hb0
 cases hK : kinB m n e m' n' e' with
 | false =>
  have HV2 := aS (show V = false by rw [HV.out, hK]; rfl)
  clear HV hK
  simp only [Bool.not_false]
  go_wp2_with fail
  go_ret
  exact ⟨ret_b HV2.out.symm, H4.out.below⟩
 | true =>
  have HV2 := aS (show V = (decide (m < 0) || (n == 0) || (cmpQ (afterQ ms ts m n e d) (qq m' 1) == 0)) by rw [HV.out, hK]; rfl)
  clear HV hK H3
  simp only [Bool.not_true]
  by_cases hm : m < 0
  ·have hm1 : decide (m < 0) = true := decide_eq_true hm
   have HV3 := aS (show V = true by rw [HV2.out, hm1]; rfl)
   clear HV2 hm
   go_wp2_with fail
   refine start_ (n := 21) (S := fun w' => w'.cell? ⟨w.heap.size, 0, none⟩ = some (.int .i64 ms) ∧ w'.cell? ⟨w.heap.size, 1, none⟩ = some (.int .i64 ts) ∧ w'.cell? ⟨w.heap.size + 1, 0, none⟩ = some (.int .i64 d) ∧ w'.cell? ⟨w.heap.size + 1, 1, none⟩ = some (.int .i64 m) ∧ w'.cell? ⟨w.heap.size + 1, 2, none⟩ = some (.int .i64 n) ∧ w'.cell? ⟨w.heap.size + 1, 3, none⟩ = some (.int .i64 e) ∧ w'.cell? ⟨w.heap.size + 1 + 1, 0, none⟩ = some (.int .i64 d') ∧ w'.cell? ⟨w.heap.size + 1 + 1, 1, none⟩ = some (.int .i64 m') ∧ w'.cell? ⟨w.heap.size + 1 + 1, 2, none⟩ = some (.int .i64 n') ∧ w'.cell? ⟨w.heap.size + 1 + 1, 3, none⟩ = some (.int .i64 e')) (ds := []) (bs 21 0) (by kernel_rfl) rfl rfl (H4.out.step (below_drew' (Below.refl _ _))).cells (fun hHeld => ?_)
   refine zP 0 12 21 1 ?_
   refine zT 1 13 21 3 hHeld ?_
   refine zP 2 14 21 7 ?_
   refine zP 3 15 21 15 ?_
   refine zO 4 16 21 31 ?_
   refine zO 5 17 21 63 ?_
   refine zO 6 18 21 127 ?_
   refine zP 7 19 21 255 ?_
   refine zP 8 20 21 511 ?_
   refine zO 9 21 21 1023 ?_
   refine zO 10 22 21 2047 ?_
   refine zO 11 23 21 4095 ?_
   refine zO 12 24 21 8191 ?_
   refine zO 13 25 21 16383 ?_
   refine zO 14 26 21 32767 ?_
   refine zO 15 27 21 65535 ?_
   refine zO 16 28 21 131071 ?_
   refine zO 17 29 21 262143 ?_
   refine zO 18 30 21 524287 ?_
   refine zP 19 31 21 1048575 ?_
   refine zP 20 6 21 2097151 ?_
   refine done_ (by kernel_rfl) ?_
   go_wp2_with fail
   go_ret
   exact ⟨ret_b HV3.out.symm, (H4.out.step (below_drew' (Below.refl _ _))).below⟩
  have hm1 : decide (m < 0) = false := decide_eq_false hm
  clear hm
  by_cases hz : n = 0
  ·have hz1 : (n == 0) = true := by simpa using hz
   have HV3 := aS (show V = true by rw [HV2.out, hz1]; simp)
   clear HV2 hz
   go_wp2_with fail
   refine start_ (n := 21) (S := fun w' => w'.cell? ⟨w.heap.size, 0, none⟩ = some (.int .i64 ms) ∧ w'.cell? ⟨w.heap.size, 1, none⟩ = some (.int .i64 ts) ∧ w'.cell? ⟨w.heap.size + 1, 0, none⟩ = some (.int .i64 d) ∧ w'.cell? ⟨w.heap.size + 1, 1, none⟩ = some (.int .i64 m) ∧ w'.cell? ⟨w.heap.size + 1, 2, none⟩ = some (.int .i64 n) ∧ w'.cell? ⟨w.heap.size + 1, 3, none⟩ = some (.int .i64 e) ∧ w'.cell? ⟨w.heap.size + 1 + 1, 0, none⟩ = some (.int .i64 d') ∧ w'.cell? ⟨w.heap.size + 1 + 1, 1, none⟩ = some (.int .i64 m') ∧ w'.cell? ⟨w.heap.size + 1 + 1, 2, none⟩ = some (.int .i64 n') ∧ w'.cell? ⟨w.heap.size + 1 + 1, 3, none⟩ = some (.int .i64 e')) (ds := []) (bs 21 0) (by kernel_rfl) rfl rfl (H4.out.step (below_drew' (Below.refl _ _))).cells (fun hHeld => ?_)
   refine zP 0 12 21 1 ?_
   refine zT 1 13 21 3 hHeld ?_
   refine zP 2 14 21 7 ?_
   refine zP 3 15 21 15 ?_
   refine zP 4 16 21 31 ?_
   refine zT 5 17 21 63 hHeld ?_
   refine zP 6 18 21 127 ?_
   refine zP 7 19 21 255 ?_
   refine zP 8 20 21 511 ?_
   refine zO 9 21 21 1023 ?_
   refine zO 10 22 21 2047 ?_
   refine zO 11 23 21 4095 ?_
   refine zO 12 24 21 8191 ?_
   refine zO 13 25 21 16383 ?_
   refine zO 14 26 21 32767 ?_
   refine zO 15 27 21 65535 ?_
   refine zO 16 28 21 131071 ?_
   refine zO 17 29 21 262143 ?_
   refine zO 18 30 21 524287 ?_
   refine zP 19 31 21 1048575 ?_
   refine zP 20 6 21 2097151 ?_
   refine done_ (by kernel_rfl) ?_
   go_wp2_with fail
   go_ret
   exact ⟨ret_b HV3.out.symm, (H4.out.step (below_drew' (Below.refl _ _))).below⟩
  have hz1 : (n == 0) = false := by simpa using hz
  have HV3 := aS (show V = (cmpQ (afterQ ms ts m n e d) (qq m' 1) == 0) by rw [HV2.out, hm1, hz1]; rfl)
  clear HV2 hz
  go_wp2_with fail
  refine start_ (n := 21) (S := fun w' => w'.cell? ⟨w.heap.size, 0, none⟩ = some (.int .i64 ms) ∧ w'.cell? ⟨w.heap.size, 1, none⟩ = some (.int .i64 ts) ∧ w'.cell? ⟨w.heap.size + 1, 0, none⟩ = some (.int .i64 d) ∧ w'.cell? ⟨w.heap.size + 1, 1, none⟩ = some (.int .i64 m) ∧ w'.cell? ⟨w.heap.size + 1, 2, none⟩ = some (.int .i64 n) ∧ w'.cell? ⟨w.heap.size + 1, 3, none⟩ = some (.int .i64 e) ∧ w'.cell? ⟨w.heap.size + 1 + 1, 0, none⟩ = some (.int .i64 d') ∧ w'.cell? ⟨w.heap.size + 1 + 1, 1, none⟩ = some (.int .i64 m') ∧ w'.cell? ⟨w.heap.size + 1 + 1, 2, none⟩ = some (.int .i64 n') ∧ w'.cell? ⟨w.heap.size + 1 + 1, 3, none⟩ = some (.int .i64 e')) (ds := []) (bs 21 0) (by kernel_rfl) rfl rfl (H4.out.step (below_drew' (Below.refl _ _))).cells (fun hHeld => ?_)
  refine zP 0 12 21 1 ?_
  refine zT 1 13 21 3 hHeld ?_
  refine zP 2 14 21 7 ?_
  refine zP 3 15 21 15 ?_
  refine zP 4 16 21 31 ?_
  refine zT 5 17 21 63 hHeld ?_
  refine zP 6 18 21 127 ?_
  refine zP 7 19 21 255 ?_
  refine zP 8 20 21 511 ?_
  refine zP 11 23 21 2559 ?_
  refine zP 14 26 21 18943 ?_
  refine zT 9 21 21 19455 hHeld ?_
  refine zT 10 22 21 20479 hHeld ?_
  refine zT 12 24 21 24575 hHeld ?_
  refine zT 15 27 21 57343 hHeld ?_
  refine zN 13 (some 25) 21 65535 (fun K hK => ?_)
  refine zG Tryz.func179 #[.agg #[.int .i64 ms, .int .i64 ts], .agg #[.int .i64 d, .int .i64 m, .int .i64 n, .int .i64 e], .int .i64 d] ?_
  with_reducible refine (after_n ms ts d m n e d w4.drew HH.out.1 HH.out.2.1 HH.out.2.2.1 HH.out.2.2.2.1 HH.out.2.2.2.2.1 HH.out.2.2.2.2.2.1).mono ?_
  rintro e5 w5 ⟨g5, hg5, rfl, hb5, hN5⟩
  refine ⟨_, rfl, ?_⟩
  have hb5' := below_drew' hb5
  have H5 := aS (And.intro hN5 (H4.out.step hb5'))
  clear hb5 hb5' hN5 hg5
  refine hK.out _ _ H5.out.2.cells (fun hHeld => ?_)
  clear hK K
  refine zM 25 ?_
  refine zN 16 (some 28) 21 131071 (fun K hK => ?_)
  refine zG Tryz.func59 #[.int .i64 m', .int .i64 1] ?_
  with_reducible refine (ratioE_n m' 1 w5 HH.out.2.2.2.2.2.2 i1 (by decide)).mono ?_
  rintro e6 w6 ⟨g6, hg6, rfl, hb6, hN6⟩
  refine ⟨_, rfl, ?_⟩
  have H6 := aS (And.intro (H5.out.1.below hb6) (And.intro hN6 (H5.out.2.step hb6)))
  clear hb6 hN6 hg6
  refine hK.out _ _ H6.out.2.2.cells (fun hHeld => ?_)
  clear hK K
  refine zM 28 ?_
  refine zN 17 (some 29) 21 262143 (fun K hK => ?_)
  refine zG Tryz.func65 #[.pointer (some ⟨g5, 0, none⟩), .pointer (some ⟨g6, 0, none⟩)] ?_
  with_reducible refine (cmpQ_n g5 g6 _ _ 9 2 w6 H6.out.1 H6.out.2.1 (by decide)).mono ?_
  rintro e7 w7 ⟨rfl, hb7⟩
  refine ⟨_, rfl, ?_⟩
  have H7 := aS (H6.out.2.2.step hb7)
  clear hb7
  refine hK.out _ _ H7.out.cells (fun hHeld => ?_)
  clear hK K
  refine zM 29 ?_
  refine zP 18 30 21 524287 ?_
  refine zP 19 31 21 1048575 ?_
  refine zP 20 6 21 2097151 ?_
  refine done_ (by kernel_rfl) ?_
  go_wp2_with fail
  go_ret
  exact ⟨ret_b HV3.out.symm, H7.out.below⟩
end Go.Proofs.YtekommcfpjonmaaGreat.Ek
namespace Go.Proofs.YtekommcfpjonmaaGreat.Pe
open RowKit Go YtekommcfpjonmaaGreatW.PrintWords YtekommcfpjonmaaGreatW.PrintLast YtekommcfpjonmaaGreatW.PrintMore Mn Rf Er Ek E
abbrev Ed := S67
def sumD : List S67 → Int
 | [] => 0
 | x :: t => x.f0 + sumD t
theorem sumD_app (a b : List S67) : sumD (a ++ b) = sumD a + sumD b := by
 induction a with
 | nil => simp [sumD]
 | cons x t ih => simp only [List.cons_append, sumD, ih]; omega
theorem sumD_take (l : List S67) (i : Nat) (hi : i < l.length) : sumD (l.take (i + 1)) = sumD (l.take i) + (l.getD i z67).f0 := by
 rw [List.take_add_one, sumD_app]
 have : l[i]?.toList = [l.getD i z67] := by
  rw [List.getElem?_eq_getElem hi, List.getD_eq_getElem?_getD, List.getElem?_eq_getElem hi]
  rfl
 rw [this]
 simp [sumD]
structure Vd (x : Ed) : Prop where
 d0 : 1 ≤ x.f0
 d1 : x.f0 ≤ 1099511627776
 m0 : -1 ≤ x.f1
 m1 : x.f1 ≤ 1099511627776
 n0 : 0 ≤ x.f2
 n1 : x.f2 ≤ 1000
 e0 : 1 ≤ x.f3
 e1 : x.f3 ≤ 1000
 em : x.f1 < 0 → x.f2 = 1 ∧ x.f3 = 1
instance (x : Ed) : Decidable (Vd x) :=
 decidable_of_iff (1 ≤ x.f0 ∧ x.f0 ≤ 1099511627776 ∧ -1 ≤ x.f1 ∧ x.f1 ≤ 1099511627776 ∧ 0 ≤ x.f2 ∧ x.f2 ≤ 1000 ∧ 1 ≤ x.f3 ∧ x.f3 ≤ 1000 ∧ (x.f1 < 0 → x.f2 = 1 ∧ x.f3 = 1))
  ⟨fun ⟨a, b, c, d, e, f, g, h, i⟩ => ⟨a, b, c, d, e, f, g, h, i⟩, fun h => ⟨h.d0, h.d1, h.m0, h.m1, h.n0, h.n1, h.e0, h.e1, h.em⟩⟩
structure Ck (ms ts : Int) : Prop where
 m0 : 1 ≤ ms
 m1 : ms ≤ 1000000
 t0 : 1 ≤ ts
 t1 : ts ≤ 1000000
instance (ms ts : Int) : Decidable (Ck ms ts) :=
 decidable_of_iff (1 ≤ ms ∧ ms ≤ 1000000 ∧ 1 ≤ ts ∧ ts ≤ 1000000) ⟨fun ⟨a, b, c, d⟩ => ⟨a, b, c, d⟩, fun h => ⟨h.m0, h.m1, h.t0, h.t1⟩⟩
theorem valid_f (x : Ed) : edit_valid.f x.f0 x.f1 x.f2 x.f3 = some true ∧ Vd x ∨ edit_valid.f x.f0 x.f1 x.f2 x.f3 = some false ∧ ¬ Vd x := by
 unfold edit_valid.f
 by_cases h1 : x.f0 < 1
 ·rw [if_pos h1]; exact .inr ⟨rfl, fun h => by have := h.d0; omega⟩
 rw [if_neg h1]
 by_cases h2 : x.f0 > 1099511627776
 ·rw [if_pos h2]; exact .inr ⟨rfl, fun h => by have := h.d1; omega⟩
 rw [if_neg h2]
 by_cases h3 : x.f1 < -1
 ·rw [if_pos h3]; exact .inr ⟨rfl, fun h => by have := h.m0; omega⟩
 rw [if_neg h3]
 by_cases h4 : x.f1 > 1099511627776
 ·rw [if_pos h4]; exact .inr ⟨rfl, fun h => by have := h.m1; omega⟩
 rw [if_neg h4]
 by_cases h5 : x.f2 < 0
 ·rw [if_pos h5]; exact .inr ⟨rfl, fun h => by have := h.n0; omega⟩
 rw [if_neg h5]
 by_cases h6 : x.f2 > 1000
 ·rw [if_pos h6]; exact .inr ⟨rfl, fun h => by have := h.n1; omega⟩
 rw [if_neg h6]
 by_cases h7 : x.f3 < 1
 ·rw [if_pos h7]; exact .inr ⟨rfl, fun h => by have := h.e0; omega⟩
 rw [if_neg h7]
 by_cases h8 : x.f3 > 1000
 ·rw [if_pos h8]; exact .inr ⟨rfl, fun h => by have := h.e1; omega⟩
 rw [if_neg h8]
 by_cases h9 : x.f1 ≥ 0
 ·rw [if_pos h9]; exact .inl ⟨rfl, ⟨by omega, by omega, by omega, by omega, by omega, by omega, by omega, by omega, fun h => by omega⟩⟩
 rw [if_neg h9]
 by_cases h10 : x.f2 = 1
 ·rw [if_pos h10]
  by_cases h11 : x.f3 = 1
  ·rw [h11]; exact .inl ⟨rfl, ⟨by omega, by omega, by omega, by omega, by omega, by omega, by omega, by omega, fun h => by omega⟩⟩
  exact .inr ⟨by simp [h11], fun h => by have := h.em (by omega); omega⟩
 rw [if_neg h10]; exact .inr ⟨rfl, fun h => by have := h.em (by omega); omega⟩
def chk (l : List Ed) (ms ts : Int) : Int := if ¬ Ck ms ts then 1 else if 20 < l.length then 2 else if (∀ x ∈ l, Vd x) ∧ sumD l ≤ 1099511627776 then 0 else 33
theorem chk_ok {l : List Ed} {ms ts : Int} : chk l ms ts = 0 ↔ Ck ms ts ∧ l.length ≤ 20 ∧ (∀ x ∈ l, Vd x) ∧ sumD l ≤ 1099511627776 := by
 unfold chk
 constructor
 ·intro h
  by_cases h1 : Ck ms ts
  ·rw [if_neg (not_not_intro h1)] at h
   by_cases h2 : 20 < l.length
   ·rw [if_pos h2] at h; cases h
   rw [if_neg h2] at h
   by_cases h3 : (∀ x ∈ l, Vd x) ∧ sumD l ≤ 1099511627776
   ·exact ⟨h1, by omega, h3.1, h3.2⟩
   rw [if_neg h3] at h; cases h
  rw [if_pos h1] at h; cases h
 rintro ⟨h1, h2, h3, h4⟩
 rw [if_neg (not_not_intro h1), if_neg (by omega), if_pos ⟨h3, h4⟩]
theorem rd_at (pre : List Ed) (x : Ed) (rest : List Ed) : rd_T67 (pre ++ x :: rest) (pre.length : Int) = x := by
 unfold rd_T67
 simp [List.getD_eq_getElem?_getD]
theorem sumD_nonneg {l : List Ed} (h : ∀ x ∈ l, Vd x) : 0 ≤ sumD l := by
 induction l with
 | nil => simp [sumD]
 | cons x t ih =>
  have h1 := (h x (by simp)).d0
  have h2 := ih (fun y hy => h y (by simp [hy]))
  simp only [sumD]
  omega
theorem sumD_le {l : List Ed} (h : ∀ x ∈ l, Vd x) : sumD l ≤ 1099511627776 * l.length := by
 induction l with
 | nil => simp [sumD]
 | cons x t ih =>
  have h1 := (h x (by simp)).d1
  have h2 := ih (fun y hy => h y (by simp [hy]))
  simp only [sumD, List.length_cons]
  omega
theorem check_l (l : List Ed) (hl : l.length ≤ 20) (rest : List Ed) : ∀ pre, l = pre ++ rest → (∀ x ∈ pre, Vd x) → Ev (fun k => edit_Check.l0 k (sumD pre) l (l.length : Int) (pre.length : Int)) (if (∀ x ∈ rest, Vd x) ∧ sumD l ≤ 1099511627776 then 0 else 33) := by
 induction rest with
 | nil =>
  intro pre he hp
  subst he
  refine Ev.step (f := fun _ => some (if (∀ x ∈ ([] : List Ed), Vd x) ∧ sumD (pre ++ []) ≤ 1099511627776 then 0 else 33)) (fun k => ?_) (Ev.now _)
  simp only [edit_Check.l0, List.append_nil]
  rw [if_neg (by omega)]
  by_cases h : sumD pre > 1099511627776
  ·rw [if_pos h, if_neg (by intro hh; omega)]
  rw [if_neg h, if_pos ⟨by simp, by omega⟩]
 | cons x t ih =>
  intro pre he hp
  have hlen : l.length = pre.length + (t.length + 1) := by rw [he]; simp
  have hx : rd_T67 l (pre.length : Int) = x := by rw [he]; exact rd_at pre x t
  rcases valid_f x with ⟨hv, hV⟩ | ⟨hv, hV⟩
  ·have hs : sumD (pre ++ [x]) = sumD pre + x.f0 := by rw [sumD_app]; simp [sumD]
   have hb := sumD_le hp
   have h0 := sumD_nonneg hp
   have hr := ih (pre ++ [x]) (by rw [he]; simp) (by intro y hy; simp only [List.mem_append, List.mem_singleton] at hy; rcases hy with hy | rfl; exact hp y hy; exact hV)
   refine Ev.step (fun k => ?_) (Ev.congr (f := fun k => edit_Check.l0 k (sumD (pre ++ [x])) l (l.length : Int) ((pre ++ [x]).length : Int)) (fun k => rfl) ?_)
   ·simp only [edit_Check.l0]
    rw [if_pos (by omega), if_pos (by omega), if_pos (by omega), hx, hv]
    simp only [Option.bind_some, if_true]
    rw [w64 (by have := hV.d0; omega) (by have := hV.d1; omega), w64 (by omega) (by omega), hs]
    simp
   have e : ((∀ y ∈ x :: t, Vd y) ∧ sumD l ≤ 1099511627776) = ((∀ y ∈ t, Vd y) ∧ sumD l ≤ 1099511627776) := by
    apply propext
    constructor
    ·rintro ⟨h1, h2⟩; exact ⟨fun y hy => h1 y (by simp [hy]), h2⟩
    rintro ⟨h1, h2⟩; exact ⟨fun y hy => by simp only [List.mem_cons] at hy; rcases hy with rfl | hy; exact hV; exact h1 y hy, h2⟩
   simp only [e]
   exact hr
  refine Ev.step (f := fun _ => some 33) (fun k => ?_) ?_
  ·simp only [edit_Check.l0]
   rw [if_pos (by omega), if_pos (by omega), if_pos (by omega), hx, hv]
   simp
  rw [if_neg (fun h => hV (h.1 x (by simp)))]
  exact Ev.now _
theorem scale_f (n : Int) : edit_isScale.f n = some (decide (1 ≤ n ∧ n ≤ 1000000)) := by
 unfold edit_isScale.f
 by_cases h : n ≥ 1
 ·rw [if_pos h]; simp; omega
 rw [if_neg h]; simp; omega
theorem check_f (l : List Ed) (ms ts : Int) : Ev (fun k => edit_Check.f k l ms ts) (chk l ms ts) := by
 have h0 : ∀ b, Ev (fun k => edit_Check.j0 k l b) (if b = true then 1 else if 20 < l.length then 2 else if (∀ x ∈ l, Vd x) ∧ sumD l ≤ 1099511627776 then 0 else 33) := by
  intro b
  by_cases hb : b = true
  ·rw [if_pos hb]
   refine Ev.step (f := fun _ => some 1) (fun k => ?_) (Ev.now _)
   simp only [edit_Check.j0]
   rw [if_pos hb]
  rw [if_neg hb]
  by_cases hl : 20 < l.length
  ·rw [if_pos hl]
   refine Ev.step (f := fun _ => some 2) (fun k => ?_) (Ev.now _)
   simp only [edit_Check.j0]
   rw [if_neg hb, if_pos (by omega)]
  rw [if_neg hl]
  refine Ev.step (fun k => ?_) (check_l l (by omega) l [] rfl (by simp))
  simp only [edit_Check.j0]
  rw [if_neg hb, if_neg (by omega)]
  rfl
 unfold chk
 by_cases h1 : 1 ≤ ms ∧ ms ≤ 1000000
 ·by_cases h2 : 1 ≤ ts ∧ ts ≤ 1000000
  ·rw [if_neg (not_not_intro ⟨h1.1, h1.2, h2.1, h2.2⟩)]
   refine Ev.congr (fun k => ?_) (h0 false)
   unfold edit_Check.f
   rw [scale_f, scale_f, decide_eq_true h1, decide_eq_true h2]
   rfl
  rw [if_pos (fun h => h2 ⟨h.t0, h.t1⟩)]
  refine Ev.congr (fun k => ?_) (h0 true)
  unfold edit_Check.f
  rw [scale_f, scale_f, decide_eq_true h1, decide_eq_false h2]
  rfl
 rw [if_pos (fun h => h1 ⟨h.m0, h.m1⟩)]
 refine Ev.congr (fun k => ?_) (h0 true)
 unfold edit_Check.f
 rw [scale_f, decide_eq_false h1]
 rfl
end Go.Proofs.YtekommcfpjonmaaGreat.Pe
namespace Go.Proofs.YtekommcfpjonmaaGreat.Rg
open RowKit Go YtekommcfpjonmaaGreatW.PrintWords YtekommcfpjonmaaGreatW.PrintLast YtekommcfpjonmaaGreatW.PrintMore Ml Mn Nd Z P Nc Nb Qa Ea Ra Rf
theorem subQ_n (gx gy gz : Nat) (p q : Rat) (n m B : Nat) (w : World) (hx0 : Room w gx 0) (hx2 : Room w gx 2) (hy : RQ w gy p n) (hz : RQ w gz q m) (hl : n + m ≤ 400) (hB : B ≤ gx) :
  Calls Tryz.prog 110 #[.pointer (some ⟨gx, 0, none⟩), .pointer (some ⟨gy, 0, none⟩), .pointer (some ⟨gz, 0, none⟩)] w (QS w gx (p - q) (n + m + 1) B) := by
 have HX := aS (And.intro (And.intro hx0 hx2) (And.intro hy hz))
 have hgx := hx0.lt
 clear hx0 hx2 hy hz
 go_enter Tryz.func110, Tryz.ntmps110
 go_wp2_with fail
 have hb0 : Below w.heap.size w w.drew := below_drew' (Below.refl _ _)
 refine start_ (n := 7) (S := fun w' => True) (ds := []) (bs 7 0) (by kernel_rfl) rfl rfl trivial (fun hHeld => ?_)
 refine zP 0 8 7 1 ?_
 refine zP 1 9 7 3 ?_
 refine zP 2 10 7 7 ?_
 refine zP 3 11 7 15 ?_
 refine zN 4 (some 12) 7 31 (fun K hK => ?_)
 refine zG Tryz.func115 #[.pointer (some ⟨gz, 0, none⟩)] ?_
 with_reducible refine (down_n gz _ m w.drew (HX.out.2.2.den.below hb0) (den0 q)).mono ?_
 rintro e w4 ⟨rfl, rfl⟩
 refine ⟨_, rfl, ?_⟩
 refine hK.out _ _ trivial (fun hHeld => ?_)
 clear hK K
 refine zM 12 ?_
 refine zN 5 (some 13) 7 63 (fun K hK => ?_)
 refine zG Tryz.func114 #[.pointer (some ⟨gy, 0, none⟩), .pointer (some ⟨gz, 2, none⟩)] ?_
 with_reducible refine (prod_n gy 0 gz 2 p.num q.den n m w.drew (HX.out.2.1.num.below hb0) (HX.out.2.2.den.below hb0) (by omega)).mono ?_
 rintro e w4 ⟨g4, hg4, rfl, hb4, hN4⟩
 refine ⟨_, rfl, ?_⟩
 have hb4' := below_drew' hb4
 have H4 := aS (And.intro hb4' hN4)
 have hg4' : w.heap.size ≤ g4 := hg4
 clear hb4 hN4 hb4' hg4
 refine hK.out _ _ trivial (fun hHeld => ?_)
 clear hK K
 refine zM 13 ?_
 refine zP 6 7 7 127 ?_
 refine done_ (by kernel_rfl) ?_
 go_wp2_with fail
 have hb1 : Below w4.heap.size w4 w4.drew := below_drew' (Below.refl _ _)
 have hbw := H4.out.1.trans (hb1.mono H4.out.1.size)
 have K4 := aS (And.intro hbw (H4.out.2.below hb1))
 have hlt4 := H4.out.2.lt
 clear hb0 hb1 hbw
 refine start_ (n := 9) (S := fun w' => True) (ds := []) (bs 9 0) (by kernel_rfl) rfl rfl trivial (fun hHeld => ?_)
 refine zP 0 14 9 1 ?_
 refine zP 1 15 9 3 ?_
 refine zP 2 16 9 7 ?_
 refine zP 3 17 9 15 ?_
 refine zP 4 18 9 31 ?_
 refine zP 5 19 9 63 ?_
 refine zN 6 (some 20) 9 127 (fun K hK => ?_)
 refine zG Tryz.func115 #[.pointer (some ⟨gy, 0, none⟩)] ?_
 with_reducible refine (down_n gy _ n w4.drew (HX.out.2.1.den.below K4.out.1) (den0 p)).mono ?_
 rintro e w5 ⟨rfl, rfl⟩
 refine ⟨_, rfl, ?_⟩
 refine hK.out _ _ trivial (fun hHeld => ?_)
 clear hK K
 refine zM 20 ?_
 refine zN 7 (some 21) 9 255 (fun K hK => ?_)
 refine zG Tryz.func114 #[.pointer (some ⟨gz, 0, none⟩), .pointer (some ⟨gy, 2, none⟩)] ?_
 with_reducible refine (prod_n gz 0 gy 2 q.num p.den m n w4.drew (HX.out.2.2.num.below K4.out.1) (HX.out.2.1.den.below K4.out.1) (by omega)).mono ?_
 rintro e w5 ⟨g5, hg5, rfl, hb5, hN5⟩
 refine ⟨_, rfl, ?_⟩
 have H5 := aS (And.intro (K4.out.1.trans (hb5.mono K4.out.1.size)) (And.intro (K4.out.2.below hb5) hN5))
 clear hb5 hN5
 refine hK.out _ _ trivial (fun hHeld => ?_)
 clear hK K
 refine zM 21 ?_
 refine zN 8 (some 22) 9 511 (fun K hK => ?_)
 refine zG Tryz.func124 #[.pointer (some ⟨g4, 0, none⟩), .pointer (some ⟨g4, 0, none⟩), .pointer (some ⟨g5, 0, none⟩)] ?_
 with_reducible refine (subI_n g4 0 g4 0 g5 0 (p.num * (q.den : Int)) (q.num * (p.den : Int)) (n + m) (m + n) w5 H5.out.2.1.room H5.out.2.1 H5.out.2.2 (by omega)).mono ?_
 rintro e w6 ⟨rfl, hw6, hN6⟩
 refine ⟨_, rfl, ?_⟩
 have H6 := aS (And.intro (show Below w.heap.size w w6 from H5.out.1.trans (hw6.below hg4' H5.out.1.size)) (hN6.mono (m := n + m + 1) (by omega)))
 clear hw6 hN6
 refine hK.out _ _ trivial (fun hHeld => ?_)
 clear hK K
 refine zM 22 ?_
 refine done_ (by kernel_rfl) ?_
 go_wp2_with fail
 refine (down_n gy _ n w6 (HX.out.2.1.den.below H6.out.1) (den0 p)).mono ?_
 rintro e w7 ⟨rfl, rfl⟩
 go_wp2_with fail
 refine (down_n gz _ m w6 (HX.out.2.2.den.below H6.out.1) (den0 q)).mono ?_
 rintro e w7 ⟨rfl, rfl⟩
 go_wp2_with fail
 refine (prod_n gy 2 gz 2 p.den q.den n m w6 (HX.out.2.1.den.below H6.out.1) (HX.out.2.2.den.below H6.out.1) (by omega)).mono ?_
 rintro e w7 ⟨g7, hg7, rfl, hb7, hN7⟩
 have H7 := aS (And.intro (H6.out.1.trans (hb7.mono H6.out.1.size)) (And.intro (H6.out.2.below hb7) hN7))
 clear hb7 hN7
 go_wp2_with fail
 refine (setQ_n gx g4 0 g7 0 (p.num * (q.den : Int) - q.num * (p.den : Int)) ((p.den : Int) * (q.den : Int)) (n + m + 1) B w7 (HX.out.1.1.below H7.out.1) (HX.out.1.2.below H7.out.1) H7.out.2.1 (H7.out.2.2.mono (by omega)) (Int.mul_ne_zero (den0 p) (den0 q)) (by omega) hB).mono ?_
 rintro e w8 ⟨rfl, hb8, hQ8⟩
 rw [qq_sub] at hQ8
 have H8 := aS (And.intro hb8 hQ8)
 clear hb8 hQ8
 go_wp2_with fail
 go_ret
 exact ⟨rfl, (H7.out.1.mono (by omega)).trans H8.out.1, H8.out.2⟩
end Go.Proofs.YtekommcfpjonmaaGreat.Rg
namespace Go.Proofs.YtekommcfpjonmaaGreat.Et
open RowKit Go YtekommcfpjonmaaGreatW.PrintWords YtekommcfpjonmaaGreatW.PrintLast YtekommcfpjonmaaGreatW.PrintMore Ml Mn Nd Z Nc Nb Qa Ea Ra Rf Rg Er
def timeObj (n d : Int) : Obj := .cells #[.int .i64 n, .int .i64 d] 24 (0, 0)
theorem time_cells {w : World} {g : Nat} {n d : Int} (h : w.heap[g]? = some (timeObj n d)) : w.cell? ⟨g, 0, none⟩ = some (.int .i64 n) ∧ w.cell? ⟨g, 1, none⟩ = some (.int .i64 d) ∧ w.frozen? ⟨g, 0, none⟩ = false ∧ w.frozen? ⟨g, 1, none⟩ = false :=
 ⟨(blk_cell h 0).trans rfl, (blk_cell h 1).trans rfl, blk_frozen h 0, blk_frozen h 1⟩
theorem blk_two {w : World} {g : Nat} {t : TypeId} {a b x y : Value} (h : w.heap[g]? = some (.cells #[a, b] t (0, 0))) : ((w.setCell ⟨g, 0, none⟩ x).setCell ⟨g, 1, none⟩ y).heap[g]? = some (.cells #[x, y] t (0, 0)) :=
 blk_put (cs := #[x, b]) (blk_put (cs := #[a, b]) h 0 x rfl) 1 y rfl
theorem cmp_gt {q m : Int} (h : m < q) : cmpI q m = 1 := by unfold cmpI; rw [if_neg (by omega), if_pos h]
theorem cmp_le {q m : Int} (h : ¬ m < q) : ∃ c : Int, c ≤ 0 ∧ cmpI q m = c := by
 refine ⟨_, ?_, rfl⟩
 unfold cmpI
 by_cases h2 : q < m
 ·rw [if_pos h2]; decide
 rw [if_neg h2, if_neg h]; decide
def tmV (q : Rat) : (Int × Int) × Int := if valid q.num q.den = true then ((q.num, (q.den : Int)), 0) else ((0, 0), 2)
def tmR (q : Rat) : Value := .tuple #[.agg #[.int .i64 (tmV q).1.1, .int .i64 (tmV q).1.2], .int .i64 (tmV q).2]
theorem tmR_eq (q : Rat) : tmR q = if valid q.num q.den = true then .tuple #[.agg #[.int .i64 q.num, .int .i64 (q.den : Int)], .int .i64 0] else .tuple #[.agg #[.int .i64 0, .int .i64 0], .int .i64 2] := by
 unfold tmR tmV
 split <;> rfl
theorem timeE_n (g : Nat) (q : Rat) (n : Nat) (w : World) (h : RQ w g q n) (hl : n ≤ 400) :
  Calls Tryz.prog 66 #[.pointer (some ⟨g, 0, none⟩)] w (ValP w (tmR q)) := by
 have hu := Tryz.underlying24
 have hb1 : Below w.heap.size w (w.alloc (timeObj 0 0)) := below_alloc (Below.refl _ w) _
 have hk1 := blk_new w (timeObj 0 0)
 have hD : 1 ≤ (q.den : Int) := by have := q.den_pos; omega
 have hV := tmR_eq q
 generalize tmR q = V at hV ⊢
 have hgl : g ≠ w.heap.size := by have := h.lt; omega
 generalize hw1 : w.alloc (timeObj 0 0) = w1 at *
 have H1 := aS (And.intro hb1 (And.intro hk1 (h.below hb1)))
 have hnum := H1.out.2.2.num
 have hden := H1.out.2.2.den
 generalize hN : q.num = N at *
 generalize hDn : (q.den : Int) = D at *
 have HV := aS hV
 have H2 := aS (And.intro hnum hden)
 clear hV hb1 hk1 hnum hden h hN hDn
 go_enter Tryz.func66, Tryz.ntmps66
 go_wp2_with fail
 rw [show w.alloc (.cells #[.int .i64 0, .int .i64 0] 24) = w1 from hw1]
 refine (newInt_n 1152921504606846976 w1 (by decide) (by decide)).mono ?_
 rintro e w4 ⟨g4, hg4, rfl, hb4, hN4⟩
 have HB4 := aS (And.intro (H1.out.1.trans (hb4.mono H1.out.1.size)) (blk_below H1.out.2.1 hb4))
 have H4 := aS (And.intro (H2.out.1.below hb4) (And.intro (H2.out.2.below hb4) hN4))
 clear hb4 hN4 H1 H2 hg4
 go_wp2_with fail
 refine (num_n _ w4).mono ?_
 rintro e w5 ⟨rfl, rfl⟩
 go_wp2_with fail
 refine (cmpAbs_n g 0 g4 0 N 1152921504606846976 _ _ w4 H4.out.1 H4.out.2.2 (by omega)).mono ?_
 rintro e w5 ⟨rfl, hb5⟩
 have HB5 := aS (And.intro (HB4.out.1.trans (hb5.mono HB4.out.1.size)) (blk_below HB4.out.2 hb5))
 have H5 := aS (And.intro (H4.out.1.below hb5) (And.intro (H4.out.2.1.below hb5) (H4.out.2.2.below hb5)))
 obtain ⟨r0, r1, r2, r3⟩ := time_cells HB5.out.2
 clear hb5 HB4 H4
 have nab : (1152921504606846976 : Int).natAbs = 1152921504606846976 := rfl
 by_cases hbig : ((1152921504606846976 : Int).natAbs : Int) < (N.natAbs : Int)
 ·rw [cmp_gt hbig]
  have hv : ¬ valid N D = true := by unfold valid; simp; rw [nab] at hbig; omega
  have HV2 := aS (show V = .tuple #[.agg #[.int .i64 0, .int .i64 0], .int .i64 2] by rw [HV.out, if_neg hv])
  clear hbig hv nab
  go_wp2_with fail
  refine bodyPost_ret (results_ct rfl _ _ w.heap.size 24 #[.int .i64 0, .int .i64 0] (0, 0) _ rfl (blk_two HB5.out.2) Tryz.underlying24 rfl (by kernel_rfl)) rfl ?_
  exact ⟨by rw [HV2.out]; rfl, (HB5.out.1.setCell (by simp) _).setCell (by simp) _⟩
 obtain ⟨c, hc, ec⟩ := cmp_le hbig
 rw [ec]
 have HX := aS (show ((N.natAbs : Nat) : Int) ≤ 1152921504606846976 by rw [nab] at hbig; omega)
 clear ec hbig nab
 go_wp2_with fail
 refine (denom_n g D n w5 H5.out.2.1 (by omega)).mono ?_
 rintro e w6 ⟨rfl, rfl⟩
 go_wp2_with fail
 refine (cmp_n g 2 g4 0 D 1152921504606846976 _ _ w5 H5.out.2.1 H5.out.2.2 (by omega)).mono ?_
 rintro e w6 ⟨rfl, hb6⟩
 have HB6 := aS (And.intro (HB5.out.1.trans (hb6.mono HB5.out.1.size)) (blk_below HB5.out.2 hb6))
 have H6 := aS (And.intro (H5.out.1.below hb6) (H5.out.2.1.below hb6))
 obtain ⟨q0, q1, q2, q3⟩ := time_cells HB6.out.2
 clear hb6 HB5 H5 r0 r1 r2 r3
 by_cases hbig : (1152921504606846976 : Int) < D
 ·rw [cmp_gt hbig]
  have hv : ¬ valid N D = true := by unfold valid; simp; omega
  have HV2 := aS (show V = .tuple #[.agg #[.int .i64 0, .int .i64 0], .int .i64 2] by rw [HV.out, if_neg hv])
  clear hbig hv
  go_wp2_with fail
  refine bodyPost_ret (results_ct rfl _ _ w.heap.size 24 #[.int .i64 0, .int .i64 0] (0, 0) _ rfl (blk_two HB6.out.2) Tryz.underlying24 rfl (by kernel_rfl)) rfl ?_
  exact ⟨by rw [HV2.out]; rfl, (HB6.out.1.setCell (by simp) _).setCell (by simp) _⟩
 obtain ⟨c2, hc2, ec2⟩ := cmp_le hbig
 rw [ec2]
 have hx := HX.out
 have hv : valid N D = true := by unfold valid; simp; omega
 have HV2 := aS (show V = .tuple #[.agg #[.int .i64 N, .int .i64 D], .int .i64 0] by rw [HV.out, if_pos hv])
 clear ec2 hv
 go_wp2_with fail
 refine (num_n _ w6).mono ?_
 rintro e w7 ⟨rfl, rfl⟩
 go_wp2_with fail
 refine (int64_n g 0 N _ w6 H6.out.1 (by omega) (by omega) (by omega)).mono ?_
 rintro e w7 ⟨rfl, hb7⟩
 have HB7 := aS (And.intro (HB6.out.1.trans (hb7.mono HB6.out.1.size)) (blk_below HB6.out.2 hb7))
 have H7 := aS (H6.out.2.below hb7)
 clear hb7 HB6 H6 q0 q1 q2 q3
 go_wp2_with fail
 refine (denom_n g D n w7 H7.out (by omega)).mono ?_
 rintro e w8 ⟨rfl, rfl⟩
 go_wp2_with fail
 refine (int64_n g 2 D _ w7 H7.out (by omega) (by omega) (by omega)).mono ?_
 rintro e w8 ⟨rfl, hb8⟩
 have HB8 := aS (And.intro (HB7.out.1.trans (hb8.mono HB7.out.1.size)) (blk_below HB7.out.2 hb8))
 obtain ⟨q0, q1, q2, q3⟩ := time_cells HB8.out.2
 clear hb8 HB7 H7
 go_wp2_with fail
 refine bodyPost_ret (results_ct rfl _ _ w.heap.size 24 #[.int .i64 N, .int .i64 D] (0, 0) _ rfl (blk_two HB8.out.2) Tryz.underlying24 rfl (by kernel_rfl)) rfl ?_
 exact ⟨by rw [HV2.out]; rfl, (HB8.out.1.setCell (by simp) _).setCell (by simp) _⟩
theorem subE_n (gy gz : Nat) (p q : Rat) (n m : Nat) (w : World) (hy : RQ w gy p n) (hz : RQ w gz q m) (hl : n + m ≤ 400) :
  Calls Tryz.prog 60 #[.pointer (some ⟨gy, 0, none⟩), .pointer (some ⟨gz, 0, none⟩)] w (QP w (p - q) (n + m + 1)) := by
 have hb1 : Below w.heap.size w (w.alloc (.cells #[.bool false, .slice none 0 0, .bool false, .slice none 0 0] 121)) := below_alloc (Below.refl _ w) _
 have HC := aS (subQ_n w.heap.size gy gz p q n m w.heap.size _ (room_rat0 w) (room_rat2 w) (hy.below hb1) (hz.below hb1) hl (Nat.le_refl _))
 have HB := aS hb1
 clear hb1 hy hz
 go_enter Tryz.func60, Tryz.ntmps60
 go_wp2_with fail
 refine HC.out.mono ?_
 rintro e w2 ⟨rfl, hb2, hN⟩
 have H := aS (And.intro hb2 hN)
 clear hb2 hN
 go_wp2_with fail
 go_ret
 exact ⟨_, Nat.le_refl _, rfl, HB.out.trans H.out.1, H.out.2⟩
theorem numberE_n (a b : Int) (w : World) (ha : I64 a) (hb : I64 b) (hz : b ≠ 0) :
  Calls Tryz.prog 61 #[.agg #[.int .i64 a, .int .i64 b]] w (QP w (qq a b) 2) := by
 have hu := Tryz.underlying24
 have hb1 : Below w.heap.size w (w.alloc (timeObj a b)) := below_alloc (Below.refl _ w) _
 have hk1 := blk_new w (timeObj a b)
 have HC := aS (fun W => ratioE_n a b W ha hb hz)
 obtain ⟨c0, c1, c2, c3⟩ := time_cells hk1
 generalize hw1 : w.alloc (timeObj a b) = w1 at *
 have HB := aS (And.intro hb1 (show w.heap.size ≤ w1.heap.size from hb1.size))
 clear hz ha hb hb1 hk1
 go_enter Tryz.func61, Tryz.ntmps61
 go_wp2_with fail
 rw [show w.alloc (.cells #[.int .i64 a, .int .i64 b] 24) = w1 from hw1]
 go_wp2_with fail
 refine (HC.out w1).mono ?_
 rintro e w2 ⟨g, hg, rfl, hb2, hN⟩
 have H := aS (And.intro hg (And.intro hb2 hN))
 clear hg hb2 hN
 go_wp2_with fail
 go_ret
 exact ⟨g, Nat.le_trans HB.out.2 H.out.1, rfl, HB.out.1.trans (H.out.2.1.mono HB.out.2), H.out.2.2⟩
end Go.Proofs.YtekommcfpjonmaaGreat.Et
namespace Go.Proofs.YtekommcfpjonmaaGreat.E
open RowKit Go YtekommcfpjonmaaGreatW.PrintWords YtekommcfpjonmaaGreatW.PrintLast YtekommcfpjonmaaGreatW.PrintMore Ml Mn Nd Z Nc Nb Qa Ea Ra Rf Er Ek Et Pe
theorem check_n (A : Option Addr) (c : Nat) (l : List Ed) (ms ts : Int) (w : World) (hr : Kd.C k67 w A l.length l) (hc : l.length ≤ c) :
  Calls Tryz.prog 58 #[.slice A l.length c, .int .i64 ms, .int .i64 ts] w (ValP w (.int .i64 (chk l ms ts))) := by
 obtain ⟨k, hk⟩ := (check_f l ms ts).rounds
 exact edit_Check.calls k A c l ms ts _ w hr hc hk
theorem Valid_n (n d : Int) (w : World) : Calls Tryz.prog 38 #[.agg #[.int .i64 n, .int .i64 d]] w (ValP w (.bool (valid n d))) := by
 have hu := Tryz.underlying24
 go_enter Tryz.func38, Tryz.ntmps38
 go_wp2
 all_goals
  go_ret
  refine ⟨ret_b ?_, below_alloc (Below.refl _ _) _⟩
  unfold valid
  first | (simp_all; done) | (simp_all; omega) | grind
structure At (l : List Ed) (i b : Int) (X : Ed) : Prop where
 vd : Vd X
 drop : l.drop i.toNat = X :: l.drop (i + 1).toNat
 sum : b + X.f0 = sumD (l.take (i + 1).toNat)
 b0 : 0 ≤ b
 b1 : b + X.f0 ≤ 1099511627776
theorem At.of {l : List Ed} {i b : Int} (h0 : 0 ≤ i) (h1 : i < (l.length : Int)) (hb : b = sumD (l.take i.toNat)) (hV : ∀ x ∈ l, Vd x) (hs : sumD l ≤ 1099511627776) : At l i b (rd_T67 l i) := by
 have hn : i.toNat < l.length := by omega
 have hE : rd_T67 l i = l.getD i.toNat z67 := rfl
 have hi : (i + 1).toNat = i.toNat + 1 := by omega
 have hmem : l.getD i.toNat z67 ∈ l := by
  rw [List.getD_eq_getElem?_getD, List.getElem?_eq_getElem hn]
  exact List.getElem_mem hn
 have hg : l.getD i.toNat z67 = l[i.toNat] := by
  rw [List.getD_eq_getElem?_getD, List.getElem?_eq_getElem hn]
  rfl
 have hst := sumD_take l i.toNat hn
 have hd : sumD l = sumD (l.take (i.toNat + 1)) + sumD (l.drop (i.toNat + 1)) := by rw [← sumD_app, List.take_append_drop]
 have h2 := sumD_nonneg (l := l.drop (i.toNat + 1)) (fun x hx => hV x (List.mem_of_mem_drop hx))
 have h3 := sumD_nonneg (l := l.take i.toNat) (fun x hx => hV x (List.mem_of_mem_take hx))
 rw [hE]
 refine ⟨hV _ hmem, ?_, ?_, by omega, by omega⟩
 ·rw [hi, hg]
  exact List.drop_eq_getElem_cons hn
 rw [hi, hst, hb]
theorem cmpQ_ge {p q : Rat} (h : ¬ p < q) : ∃ c : Int, 0 ≤ c ∧ cmpQ p q = c := ⟨_, by unfold cmpQ; rw [if_neg h]; split <;> decide, rfl⟩
end Go.Proofs.YtekommcfpjonmaaGreat.E
namespace Go.Proofs.YtekommcfpjonmaaGreat.Ew
open RowKit Go YtekommcfpjonmaaGreatW.PrintWords YtekommcfpjonmaaGreatW.PrintLast YtekommcfpjonmaaGreatW.PrintMore Ml Mn Nd Z Nc Nb Qa Ea Ra Rf Er
end Go.Proofs.YtekommcfpjonmaaGreat.Ew
namespace Go.Proofs.YtekommcfpjonmaaGreat.E
open RowKit Go YtekommcfpjonmaaGreatW.PrintWords YtekommcfpjonmaaGreatW.PrintLast YtekommcfpjonmaaGreatW.PrintMore Ml Mn Nd Z Nc Nb Qa Ea Ra Rf Er Ek Ew Et Pe
def S2 (w0 : World) (p : Rat) (g1 : Nat) (q : Rat) (g2 : Nat) (w : World) : Prop := Below w0.heap.size w0 w ∧ (RQ w g1 p 2 ∧ RQ w g2 q 2)
end Go.Proofs.YtekommcfpjonmaaGreat.E
namespace Go.Proofs.YtekommcfpjonmaaGreat.Oe
open Go.ChangeShapes Go.WideShapes Go.ChangeAt RowKit Go.Joins Go.Deep YtekommcfpjonmaaGreatW.PrintWords YtekommcfpjonmaaGreatW.PrintLast YtekommcfpjonmaaGreatW.PrintMore E
theorem laidOut : laidOutB Tryz.prog = true := by kernel_rfl
theorem own : ownKnob Tryz.prog.godebug = none := by kernel_rfl
section
variable {H : Type} {enc : TypeId × Value → H} {w : World} {base : Nat} {spare : Nat → Bool} {held : Bool}
theorem one_int {n : Nat} {v : Value} {y : DataW H × List MemPlace} (h : DataW.trod enc Tryz.prog w base spare held n 3 [v] = some y) : ∃ z, v = .int .i64 z ∧ (Lit.int .i64 z).wf = true := by
 obtain ⟨z, hz, _, hw⟩ := DataW.trod_int Tryz.underlying3 h
 simp only [List.cons.injEq, and_true] at hz
 exact ⟨z, hz, hw⟩
structure WfE (x : S67) : Prop where
 d : (Lit.int .i64 x.f0).wf = true
 m : (Lit.int .i64 x.f1).wf = true
 n : (Lit.int .i64 x.f2).wf = true
 e : (Lit.int .i64 x.f3).wf = true
theorem four {α : Type} {l : List α} (h : l.length = 4) : ∃ a b c d, l = [a, b, c, d] := by
 match l, h with
 | [a, b, c, d], _ => exact ⟨a, b, c, d, rfl⟩
theorem one_edit {n : Nat} {cs : List Value} {y : DataW H × List MemPlace} (h : DataW.trod enc Tryz.prog w base spare held n 67 cs = some y) : ∃ x : S67, cs = [.int .i64 x.f0, .int .i64 x.f1, .int .i64 x.f2, .int .i64 x.f3] ∧ WfE x := by
 obtain ⟨xs, k, _, hx, hl, hlen, hg⟩ := DataW.trod_struct Tryz.underlying67 h
 obtain ⟨a, b, c, d, rfl⟩ := four (hl.trans (by kernel_rfl : Tryz.prog.cellsOf 67 = 4))
 obtain ⟨y0, y1, y2, y3, rfl⟩ := four hlen
 have h0 := hg 0 _ rfl
 have h1 := hg 1 _ rfl
 have h2 := hg 2 _ rfl
 have h3 := hg 3 _ rfl
 simp only [List.getElem?_cons_zero, List.getElem?_cons_succ] at h0 h1 h2 h3
 obtain ⟨z0, rfl, w0⟩ := one_int h0
 obtain ⟨z1, rfl, w1⟩ := one_int h1
 obtain ⟨z2, rfl, w2⟩ := one_int h2
 obtain ⟨z3, rfl, w3⟩ := one_int h3
 exact ⟨⟨z0, z1, z2, z3⟩, rfl, ⟨w0, w1, w2, w3⟩⟩
structure Eds (w : World) (a : Option Addr) (len cap : Nat) (l : List S67) : Prop where
 n : l.length = len
 c : Kd.C k67 w a l.length l
 h : l.length ≤ cap
 w : ∀ x ∈ l, WfE x
theorem list_of {α : Type} (P : Nat → α → Prop) (n : Nat) (h : ∀ i, i < n → ∃ x, P i x) : ∃ l : List α, l.length = n ∧ ∀ i x, l[i]? = some x → P i x := by
 induction n with
 | zero => exact ⟨[], rfl, by simp⟩
 | succ n ih =>
  obtain ⟨l, hl, hp⟩ := ih (fun i hi => h i (by omega))
  obtain ⟨x, hx⟩ := h n (by omega)
  refine ⟨l ++ [x], by simp [hl], fun i y hy => ?_⟩
  by_cases hi : i < l.length
  ·rw [List.getElem?_append_left hi] at hy
   exact hp i y hy
  have hi2 : i = l.length := by
   have := (List.getElem?_eq_some_iff.1 hy).1
   simp only [List.length_append, List.length_cons, List.length_nil] at this
   omega
  subst hi2
  simp only [Nat.le_refl, List.getElem?_append_right, Nat.sub_self, List.getElem?_cons_zero, Option.some.injEq] at hy
  subst hy
  rw [hl]
  exact hx
theorem slice_edits {n : Nat} {a : Option Addr} {len cap : Nat} {y : DataW H × List MemPlace} (h : DataW.trod enc Tryz.prog w base spare held n 41 [.slice a len cap] = some y) : ∃ l, Eds w a len cap l := by
 rcases open_slice Tryz.underlying41 h with ⟨hcs, _⟩ | ⟨x, l, c, m, k, D, Pl, hcs, _, hl, hm, hmm, _, hi⟩
 ·simp only [List.cons.injEq, and_true, Value.slice.injEq] at hcs
  obtain ⟨rfl, rfl, rfl⟩ := hcs
  exact ⟨[], rfl, Kd.C_nil _ _, Nat.le_refl _, by simp⟩
 simp only [List.cons.injEq, and_true, Value.slice.injEq] at hcs
 obtain ⟨rfl, rfl, rfl⟩ := hcs
 have hC : Tryz.prog.cellsOf 67 = 4 := by kernel_rfl
 have hlm : len ≤ m := by rw [hmm]; split <;> omega
 obtain ⟨L, hL, hp⟩ := list_of (fun i (z : S67) => (∀ j u, ([.int .i64 z.f0, .int .i64 z.f1, .int .i64 z.f2, .int .i64 z.f3] : List Value)[j]? = some u → w.cell? (x.add (i * 4 + j)) = some u) ∧ WfE z) len (fun i hlt => by
  obtain ⟨cs', hc, ht⟩ := hi i (by omega)
  obtain ⟨z, rfl, hw⟩ := one_edit ht
  rw [hC] at hc
  obtain ⟨_, _, hat⟩ := World.cells?_some hc
  refine ⟨z, fun j u hu => ?_, hw⟩
  have hj : j < 4 := (List.getElem?_eq_some_iff.1 hu).1
  have := hat j hj
  rw [← Go.Deep.add_add, this, hu])
 refine ⟨L, hL, ⟨rfl, by have := hm; unfold maxLen at this; omega, fun _ => ⟨x, rfl, fun j p hj => ⟨_, rfl, k67_mk w p, (hp j p hj).1⟩⟩⟩, by omega, fun z hz => ?_⟩
 obtain ⟨i, hi2, he⟩ := List.getElem_of_mem hz
 exact (hp i z (by rw [List.getElem?_eq_getElem hi2, he])).2
theorem open_list {r : Reach} {b0 : Nat} {v : Value} {d : DataW H} {p : List MemPlace} (hv : Value.okWide Tryz.prog w r b0 43 v) (h : DataW.Trod enc Tryz.prog w base spare held 43 v d p) :
  ∃ a len cap l ms ts, v = .agg #[.slice a len cap, .int .i64 ms, .int .i64 ts] ∧ Eds w a len cap l ∧ (Lit.int .i64 ms).wf = true ∧ (Lit.int .i64 ts).wf = true := by
 obtain ⟨v0, v1, v2, y0, y1, y2, k, rfl, _, _, h0, h1, h2⟩ := open_agg3 Tryz.underlying43 (by kernel_rfl) (by kernel_rfl) hv h
 obtain ⟨ms, rfl, hm⟩ := one_int h1
 obtain ⟨ts, rfl, ht⟩ := one_int h2
 obtain ⟨a, len, cap, rfl⟩ : ∃ a len cap, v0 = .slice a len cap := by
  rcases open_slice Tryz.underlying41 h0 with ⟨hcs, _⟩ | ⟨x, l, c, m, k, D, Pl, hcs, _⟩
  ·simp only [List.cons.injEq, and_true] at hcs
   exact ⟨_, _, _, hcs⟩
  simp only [List.cons.injEq, and_true] at hcs
  exact ⟨_, _, _, hcs⟩
 obtain ⟨l, hl⟩ := slice_edits h0
 exact ⟨a, len, cap, l, ms, ts, rfl, hl, hm, ht⟩
theorem open_time {r : Reach} {b0 : Nat} {v : Value} {d : DataW H} {p : List MemPlace} (hv : Value.okWide Tryz.prog w r b0 24 v) (h : DataW.Trod enc Tryz.prog w base spare held 24 v d p) :
  ∃ n m : Int, v = .agg #[.int .i64 n, .int .i64 m] ∧ (Lit.int .i64 n).wf = true ∧ (Lit.int .i64 m).wf = true := by
 obtain ⟨v0, v1, y0, y1, k, rfl, _, _, h0, h1⟩ := open_agg2 Tryz.underlying24 (by kernel_rfl) (by kernel_rfl) hv h
 obtain ⟨n, rfl, hn⟩ := one_int h0
 obtain ⟨m, rfl, hm⟩ := one_int h1
 exact ⟨n, m, rfl, hn, hm⟩
end
end Go.Proofs.YtekommcfpjonmaaGreat.Oe
namespace Go.Proofs.YtekommcfpjonmaaGreat.Bk
open RowKit Go YtekommcfpjonmaaGreatW.PrintWords YtekommcfpjonmaaGreatW.PrintLast YtekommcfpjonmaaGreatW.PrintMore Ml Mn Nd Z Nc Nb Qa Ea Ra Rf Er Ek Et E Pe
abbrev Spn := S53
theorem sgn_q (q : Rat) : cmpI q.num 0 = cmpQ q 0 := by
 unfold cmpI cmpQ
 have h0 : ∀ r : Rat, r.num < 0 ↔ r < 0 := by
  intro r
  rw [← Rat.not_le, ← Rat.num_nonneg]
  omega
 have h1 := h0 q
 have h2 : 0 < q.num ↔ 0 < q := by
  have h3 := h0 (-q)
  rw [Rat.neg_num] at h3
  constructor
  ·intro h
   have := h3.1 (by omega)
   grind
  intro h
  have := h3.2 (by grind)
  omega
 by_cases c1 : q < 0
 ·rw [if_pos (h1.2 c1), if_pos c1]
 rw [if_neg (fun h => c1 (h1.1 h)), if_neg c1]
 by_cases c2 : 0 < q
 ·rw [if_pos (h2.2 c2), if_pos c2]
 rw [if_neg (fun h => c2 (h2.1 h)), if_neg c2]
theorem signQ_n (g : Nat) (q : Rat) (n : Nat) (w : World) (h : RQ w g q n) : Calls Tryz.prog 62 #[.pointer (some ⟨g, 0, none⟩)] w (ValP w (.int .i64 (cmpQ q 0))) := by
 have HR := aS h
 go_enter Tryz.func62, Tryz.ntmps62
 go_wp2_with fail
 refine (signI_n g 0 q.num n w HR.out.num).mono ?_
 rintro e w2 ⟨rfl, hb⟩
 have HB := aS hb
 rw [sgn_q]
 clear hb
 go_wp2_with fail
 go_ret
 exact ⟨rfl, HB.out⟩
def spn (u v : Rat) : Spn := ⟨⟨(tmV u).1.1, (tmV u).1.2⟩, ⟨(tmV v).1.1, (tmV v).1.2⟩⟩
def bckL (ms ts : Int) (p : Rat) : List Spn → Int → List Ed → List Spn × Int
 | out, _, [] => (out, 0)
 | out, b, x :: t =>
  if x.f1 < 0 then bckL ms ts p out (b + x.f0) t
  else if x.f2 = 0 then
   (if p - qq x.f1 ts = 0 then (if (tmV (qq b ms)).2 = 0 ∧ (tmV (qq (b + x.f0) ms)).2 = 0 then bckL ms ts p (out ++ [spn (qq b ms) (qq (b + x.f0) ms)]) (b + x.f0) t else ([], 2))
       else bckL ms ts p out (b + x.f0) t)
  else if p - qq x.f1 ts < 0 ∨ ¬ qq b ms + (p - qq x.f1 ts) * qq x.f3 x.f2 < qq (b + x.f0) ms then bckL ms ts p out (b + x.f0) t
  else if (tmV (qq b ms + (p - qq x.f1 ts) * qq x.f3 x.f2)).2 = 0 then bckL ms ts p (out ++ [spn (qq b ms + (p - qq x.f1 ts) * qq x.f3 x.f2) (qq b ms + (p - qq x.f1 ts) * qq x.f3 x.f2)]) (b + x.f0) t
  else ([], 2)
theorem bckL_cons (ms ts : Int) (p : Rat) (out : List Spn) (b : Int) (x : Ed) (t : List Ed) : bckL ms ts p out b (x :: t) =
  if x.f1 < 0 then bckL ms ts p out (b + x.f0) t
  else if x.f2 = 0 then
   (if p - qq x.f1 ts = 0 then (if (tmV (qq b ms)).2 = 0 ∧ (tmV (qq (b + x.f0) ms)).2 = 0 then bckL ms ts p (out ++ [spn (qq b ms) (qq (b + x.f0) ms)]) (b + x.f0) t else ([], 2))
       else bckL ms ts p out (b + x.f0) t)
  else if p - qq x.f1 ts < 0 ∨ ¬ qq b ms + (p - qq x.f1 ts) * qq x.f3 x.f2 < qq (b + x.f0) ms then bckL ms ts p out (b + x.f0) t
  else if (tmV (qq b ms + (p - qq x.f1 ts) * qq x.f3 x.f2)).2 = 0 then bckL ms ts p (out ++ [spn (qq b ms + (p - qq x.f1 ts) * qq x.f3 x.f2) (qq b ms + (p - qq x.f1 ts) * qq x.f3 x.f2)]) (b + x.f0) t
  else ([], 2) := rfl
def bckV (l : List Ed) (ms ts n d : Int) : List Spn × Int :=
 if chk l ms ts = 0 then (if Ea.valid n d = true then bckL ms ts (qq n d) [] 0 l else ([], 4)) else ([], chk l ms ts)
def SP (w : World) (r : List Spn × Int) (e : Ending) (w' : World) : Prop := ∃ v, e = .returned (.tuple #[v, .int .i64 r.2]) ∧ Kd.R k53 53 w' w.heap.size (fun _ => True) v r.1 ∧ Below w.heap.size w w'
structure Mb (w W : World) (n d : Int) : Prop where
 a : W.heap[w.heap.size]? = some (timeObj n d)
 below : Below w.heap.size w W
theorem Mb.step {w W W2 : World} {n d : Int} (h : Mb w W n d) (hb : Below W.heap.size W W2) : Mb w W2 n d := ⟨blk_below h.a hb, h.below.trans (hb.mono h.below.size)⟩
theorem Mb.start (w : World) (n d : Int) : Mb w (w.alloc (timeObj n d)) n d := ⟨blk_new w _, below_alloc (Below.refl _ w) _⟩
structure Sb (w W : World) (n d : Int) (v : Value) (out : List Spn) : Prop where
 m : Mb w W n d
 r : Kd.R k53 53 W w.heap.size (fun k => k ≠ w.heap.size) v out
theorem Sb.step {w W W2 : World} {n d : Int} {v : Value} {out : List Spn} (h : Sb w W n d v out) (hb : Below W.heap.size W W2) : Sb w W2 n d v out := ⟨h.m.step hb, Kd.R_below h.r hb⟩
structure Tb (w W : World) (n d : Int) (v : Value) (out : List Spn) (G : Nat) (X : Ed) : Prop where
 s : Sb w W n d v out
 e : W.heap[G]? = some (edO X.f0 X.f1 X.f2 X.f3)
theorem Tb.step {w W W2 : World} {n d : Int} {v : Value} {out : List Spn} {G : Nat} {X : Ed} (h : Tb w W n d v out G X) (hb : Below W.heap.size W W2) : Tb w W2 n d v out G X := ⟨h.s.step hb, blk_below h.e hb⟩
theorem Tb.cells {w W : World} {n d : Int} {v : Value} {out : List Spn} {G : Nat} {X : Ed} (h : Tb w W n d v out G X) : W.cell? ⟨G, 0, none⟩ = some (.int .i64 X.f0) ∧ W.cell? ⟨G, 1, none⟩ = some (.int .i64 X.f1) ∧ W.cell? ⟨G, 2, none⟩ = some (.int .i64 X.f2) ∧ W.cell? ⟨G, 3, none⟩ = some (.int .i64 X.f3) := ed_cells h.e
theorem Tb.start {w W : World} {n d : Int} {v : Value} {out : List Spn} (X : Ed) (h : Sb w W n d v out) : Tb w (W.alloc (edO X.f0 X.f1 X.f2 X.f3)) n d v out W.heap.size X := ⟨h.step (below_alloc (Below.refl _ W) _), blk_new W _⟩
theorem back_n (A0 : Option Addr) (c0 : Nat) (l0 : List Ed) (a1 : Int) (a2 : Int) (n d : Int) (w : World) (hr0 : Kd.C k67 w A0 l0.length l0) (hc0 : l0.length ≤ c0) :
  Calls Tryz.prog 30 #[.slice A0 l0.length c0, .int .i64 a1, .int .i64 a2, .agg #[.int .i64 n, .int .i64 d]] w (SP w (bckV l0 a1 a2 n d)) := by
 have hu := Tryz.underlying67
 have hu2 := Tryz.underlying24
 have hu3 := Tryz.underlying53
 have HR := aS (And.intro hr0 hc0)
 have HC := aS (fun W (hb : Below w.heap.size w W) => check_n A0 c0 l0 a1 a2 W (Kd.C_below hr0 hb) hc0)
 have HV := aS (show bckV l0 a1 a2 n d = if chk l0 a1 a2 = 0 then (if Ea.valid n d = true then bckL a1 a2 (qq n d) [] 0 l0 else ([], 4)) else ([], chk l0 a1 a2) from rfl)
 have HO := aS (fun h0 : chk l0 a1 a2 = 0 => chk_ok.1 h0)
 generalize bckV l0 a1 a2 n d = V at *
 generalize chk l0 a1 a2 = C at *
 clear hr0 hc0
 have hM := aS (Mb.start w n d)
 go_enter Tryz.func30, Tryz.ntmps30
 go_wp2_with fail
 generalize hW : World.alloc w _ = W
 have HM := aS (show Mb w W n d by rw [← hW]; exact hM.out)
 clear hW hM
 refine (HC.out W HM.out.below).mono ?_
 rintro e w2 ⟨rfl, hb2⟩
 have HM2 := aS (HM.out.step hb2)
 clear hb2 HM HC
 by_cases hc : C = 0
 case neg =>
  have HV2 := aS (show V = ([], C) by rw [HV.out, if_neg hc])
  clear HV HO
  go_wp2_with fail
  go_ret2
  rw [HV2.out]
  exact ⟨_, rfl, Kd.R_nil _ _ _ _ _, HM2.out.below⟩
 subst hc
 have HV2 := aS (show V = if Ea.valid n d = true then bckL a1 a2 (qq n d) [] 0 l0 else ([], 4) by rw [HV.out, if_pos rfl])
 have HC := aS (HO.out rfl)
 clear HV HO
 obtain ⟨p0, p1, f0, f1⟩ := time_cells HM2.out.a
 go_wp2_with fail
 refine (E.Valid_n n d w2).mono ?_
 rintro e w3 ⟨rfl, hb3⟩
 have HM3 := aS (HM2.out.step hb3)
 clear hb3 HM2 p0 p1 f0 f1
 cases hv : Ea.valid n d with
 | false =>
  have HV3 := aS (show V = ([], 4) by rw [HV2.out, hv, if_neg (by decide)])
  clear HV2 hv
  go_wp2_with fail
  go_ret2
  rw [HV3.out]
  exact ⟨_, rfl, Kd.R_nil _ _ _ _ _, HM3.out.below⟩
 | true =>
  have HV3 := aS (show V = bckL a1 a2 (qq n d) [] 0 l0 by rw [HV2.out, hv, if_pos rfl])
  have HX := aS (show (I64 n ∧ I64 d) ∧ d ≠ 0 by unfold Ea.valid at hv; simp only [Bool.and_eq_true, decide_eq_true_eq] at hv; exact ⟨⟨⟨by omega, by omega⟩, ⟨by omega, by omega⟩⟩, by omega⟩)
  clear HV2 hv
  go_wp2_with fail
  go_loopg [11, 12, 34] l0.length (fun kq v11 v12 v34 w' => ∃ (out : List Spn) (b i : Int), v12 = .int .i64 b ∧ v34 = .int .i64 i ∧ Aside0 (0 ≤ i ∧ i + kq = l0.length ∧ b = sumD (l0.take i.toNat)) ∧ Aside0 (V = bckL a1 a2 (qq n d) out b (l0.drop i.toNat)) ∧ Aside0 (Sb w w' n d v11 out ∧ out.length ≤ i.toNat))
  case atStart => exact ⟨[], 0, 0, rfl, rfl, ⟨by simp, by simp, by simp [sumD]⟩, ⟨by rw [HV3.out]; simp⟩, ⟨⟨HM3.out, Kd.R_nil _ _ _ _ _⟩, by simp⟩⟩
  case round =>
   clear HV3 HM3
   obtain ⟨out, b, i, rfl, rfl, hi, hL, hM⟩ := hrel
   by_cases hlt : i < (l0.length : Int)
   ·have hlb : decide (i < (l0.length : Int)) = true := decide_eq_true hlt
    have p0 := hi.out.1
    have HA := aS (At.of p0 hlt hi.out.2.2 HC.out.2.2.1 HC.out.2.2.2)
    obtain ⟨ad, hA, q0, q1, q2, q3⟩ := at_T67 (Kd.C_below HR.out.1 hM.out.1.m.below) i p0 hlt
    subst hA
    obtain ⟨k1, rfl⟩ : ∃ k, gk = k + 1 := ⟨gk - 1, by have := hi.out.2; omega⟩
    generalize rd_T67 l0 i = X at *
    have hwi : wrap64 (i + 1) = i + 1 := by
     have := HC.out.2.1
     exact w64 (by omega) (by omega)
    have hwb : wrap64 (b + X.f0) = b + X.f0 := w64 (by have := HA.out.b0; have := HA.out.vd.d0; omega) (by have := HA.out.b1; omega)
    have HW := aS (And.intro (And.intro hwi hwb) (And.intro (show 0 ≤ i + 1 ∧ i + 1 + (k1 : Int) = l0.length by have := hi.out.2.1; omega) (And.intro (show out.length ≤ (i + 1).toNat by have := hM.out.2; omega) (And.intro (show out.length + 1 ≤ (i + 1).toNat by have := hM.out.2; omega) (show out.length ≤ 100 by have := hM.out.2; have := HC.out.2.1; omega)))))
    have HL := aS (show V = bckL a1 a2 (qq n d) out b (X :: l0.drop (i + 1).toNat) by rw [hL.out, HA.out.drop])
    replace p0 := eq_true p0
    replace hlt := eq_true hlt
    clear hwi hwb hi hL
    have HI := aS (show (I64 b ∧ I64 (wrap64 (b + X.f0))) ∧ (I64 a1 ∧ a1 ≠ 0) ∧ (I64 a2 ∧ a2 ≠ 0) by
     have := HA.out.b0
     have := HA.out.b1
     have := HA.out.vd.d0
     have := HC.out.1.m0
     have := HC.out.1.m1
     have := HC.out.1.t0
     have := HC.out.1.t1
     rw [HW.out.1.2]
     exact ⟨⟨⟨by omega, by omega⟩, ⟨by omega, by omega⟩⟩, ⟨⟨by omega, by omega⟩, by omega⟩, ⟨⟨by omega, by omega⟩, by omega⟩⟩)
    have HJ := aS (show I64 X.f1 ∧ I64 X.f2 ∧ (I64 X.f3 ∧ X.f3 ≠ 0) by
     have := HA.out.vd.m0
     have := HA.out.vd.m1
     have := HA.out.vd.n0
     have := HA.out.vd.n1
     have := HA.out.vd.e0
     have := HA.out.vd.e1
     exact ⟨⟨by omega, by omega⟩, ⟨by omega, by omega⟩, ⟨by omega, by omega⟩, by omega⟩)
    have hX := aS (Tb.start X hM.out.1)
    go_wp2_with fail
    generalize hW1 : World.alloc wr _ = W1
    have HT := aS (show Tb w W1 n d u11 out wr.heap.size X by rw [← hW1]; exact hX.out)
    clear hW1 hX hM q0 q1 q2 q3
    generalize wr.heap.size = G at *
    have hb0 : Below W1.heap.size W1 W1.drew := below_drew' (Below.refl _ _)
    refine start_ (n := 11) (S := fun w' => w'.cell? ⟨G, 0, none⟩ = some (.int .i64 X.f0)) (ds := []) (bs 11 0) (by kernel_rfl) rfl rfl (HT.out.step hb0).cells.1 (fun hHeld => ?_)
    refine zP 0 38 11 1 ?_
    refine zP 1 39 11 3 ?_
    refine zP 3 41 11 11 ?_
    refine zP 4 42 11 27 ?_
    refine zP 7 45 11 155 ?_
    refine zT 5 43 11 187 hHeld ?_
    refine zP 6 44 11 251 ?_
    refine zN 2 (some 40) 11 255 (fun K hK => ?_)
    refine zG Tryz.func59 #[.int .i64 b, .int .i64 a1] ?_
    with_reducible refine (ratioE_n b a1 W1.drew HI.out.1.1 HI.out.2.1.1 HI.out.2.1.2).mono ?_
    rintro e w5 ⟨g5, hg5, rfl, hb5, hN5⟩
    refine ⟨_, rfl, ?_⟩
    have hb5' := below_drew' hb5
    have H5 := aS (And.intro hN5 (HT.out.step hb5'))
    clear hb5 hb5' hN5 hg5
    refine hK.out _ _ H5.out.2.cells.1 (fun hHeld => ?_)
    clear hK K
    refine zM 40 ?_
    refine zN 8 (some 46) 11 511 (fun K hK => ?_)
    refine zG Tryz.func59 #[.int .i64 (wrap64 (b + X.f0)), .int .i64 a1] ?_
    with_reducible refine (ratioE_n (wrap64 (b + X.f0)) a1 w5 HI.out.1.2 HI.out.2.1.1 HI.out.2.1.2).mono ?_
    rintro e w6 ⟨g6, hg6, rfl, hb6, hN6⟩
    refine ⟨_, rfl, ?_⟩
    have H6 := aS (And.intro (H5.out.1.below hb6) (And.intro hN6 (H5.out.2.step hb6)))
    clear hb6 hN6 hg6
    refine hK.out _ _ H6.out.2.2.cells.1 (fun hHeld => ?_)
    clear hK K
    refine zM 46 ?_
    refine zP 9 15 11 1023 ?_
    refine zP 10 16 11 2047 ?_
    refine done_ (by kernel_rfl) ?_
    clear hHeld hb0 HT H5
    obtain ⟨c0, c1, c2, c3⟩ := H6.out.2.2.cells
    go_wp2_with fail
    have hb0 : Below w6.heap.size w6 w6.drew := below_drew' (Below.refl _ _)
    clear c0 c1 c2 c3
    refine start_ (n := 8) (S := fun w' => w'.cell? ⟨w.heap.size, 0, none⟩ = some (.int .i64 n) ∧ w'.cell? ⟨w.heap.size, 1, none⟩ = some (.int .i64 d) ∧ w'.cell? ⟨G, 1, none⟩ = some (.int .i64 X.f1)) (ds := []) (bs 8 0) (by kernel_rfl) rfl rfl ⟨(time_cells (H6.out.2.2.step hb0).s.m.a).1, (time_cells (H6.out.2.2.step hb0).s.m.a).2.1, (H6.out.2.2.step hb0).cells.2.1⟩ (fun hHeld => ?_)
    refine zP 2 53 8 4 ?_
    refine zP 4 55 8 20 ?_
    refine zT 0 51 8 21 hHeld ?_
    refine zT 3 54 8 29 hHeld ?_
    refine zN 1 (some 52) 8 31 (fun K hK => ?_)
    refine zG Tryz.func61 #[.agg #[.int .i64 n, .int .i64 d]] ?_
    with_reducible refine (numberE_n n d w6.drew HX.out.1.1 HX.out.1.2 HX.out.2).mono ?_
    rintro e w7 ⟨g7, hg7, rfl, hb7, hN7⟩
    refine ⟨_, rfl, ?_⟩
    have hb7' := below_drew' hb7
    have H7 := aS (And.intro hN7 (And.intro (H6.out.1.below hb7') (And.intro (H6.out.2.1.below hb7') (H6.out.2.2.step hb7'))))
    clear hb7 hb7' hN7 hg7
    refine hK.out _ _ ⟨(time_cells H7.out.2.2.2.s.m.a).1, (time_cells H7.out.2.2.2.s.m.a).2.1, H7.out.2.2.2.cells.2.1⟩ (fun hHeld => ?_)
    clear hK K
    refine zM 52 ?_
    refine zN 5 (some 56) 8 63 (fun K hK => ?_)
    refine zG Tryz.func59 #[.int .i64 X.f1, .int .i64 a2] ?_
    with_reducible refine (ratioE_n X.f1 a2 w7 HJ.out.1 HI.out.2.2.1 HI.out.2.2.2).mono ?_
    rintro e w8 ⟨g8, hg8, rfl, hb8, hN8⟩
    refine ⟨_, rfl, ?_⟩
    have H8 := aS (And.intro hN8 (And.intro (H7.out.1.below hb8) (And.intro (H7.out.2.1.below hb8) (And.intro (H7.out.2.2.1.below hb8) (H7.out.2.2.2.step hb8)))))
    clear hb8 hN8 hg8
    refine hK.out _ _ ⟨(time_cells H8.out.2.2.2.2.s.m.a).1, (time_cells H8.out.2.2.2.2.s.m.a).2.1, H8.out.2.2.2.2.cells.2.1⟩ (fun hHeld => ?_)
    clear hK K
    refine zM 56 ?_
    refine zN 6 (some 57) 8 127 (fun K hK => ?_)
    refine zG Tryz.func60 #[.pointer (some ⟨g7, 0, none⟩), .pointer (some ⟨g8, 0, none⟩)] ?_
    with_reducible refine (subE_n g7 g8 (qq n d) (qq X.f1 a2) 2 2 w8 H8.out.2.1 H8.out.1 (by decide)).mono ?_
    rintro e w9 ⟨g9, hg9, rfl, hb9, hN9⟩
    refine ⟨_, rfl, ?_⟩
    have H9 := aS (And.intro hN9 (And.intro (H8.out.2.2.1.below hb9) (And.intro (H8.out.2.2.2.1.below hb9) (H8.out.2.2.2.2.step hb9))))
    clear hb9 hN9 hg9
    refine hK.out _ _ ⟨(time_cells H9.out.2.2.2.s.m.a).1, (time_cells H9.out.2.2.2.s.m.a).2.1, H9.out.2.2.2.cells.2.1⟩ (fun hHeld => ?_)
    clear hK K
    refine zM 57 ?_
    refine zP 7 17 8 255 ?_
    refine done_ (by kernel_rfl) ?_
    clear hHeld hb0 H6 H7 H8
    rw [HW.out.1.2] at H9
    have hl := HL.out
    rw [bckL_cons] at hl
    have HL1 := aS hl
    clear hl
    obtain ⟨c0, c1, c2, c3⟩ := H9.out.2.2.2.cells
    by_cases hm : X.f1 < 0
    ·have hmb : decide (X.f1 < 0) = true := decide_eq_true hm
     have HL2 := aS (show V = bckL a1 a2 (qq n d) out (b + X.f0) (l0.drop (i + 1).toNat) by rw [HL1.out, if_pos hm])
     clear HL HL1 hm
     go_wp2_with fail
     go_roundg k1
     case measure => omega
     case rel => exact ⟨out, b + X.f0, i + 1, by rw [HW.out.1.2], by rw [HW.out.1.1], ⟨HW.out.2.1.1, HW.out.2.1.2, HA.out.sum⟩, ⟨HL2.out⟩, ⟨H9.out.2.2.2.s, HW.out.2.2.1⟩⟩
    have hmb : decide (X.f1 < 0) = false := decide_eq_false hm
    have hl := HL1.out
    rw [if_neg hm] at hl
    replace HL1 := aS hl
    clear hl
    by_cases hz : X.f2 = 0
    ·have hl := HL1.out
     rw [if_pos hz] at hl
     replace HL1 := aS hl
     clear hl
     have hzb : (X.f2 == 0) = true := beq_iff_eq.2 hz
     have hzg : decide (X.f2 > 0) = false := decide_eq_false (by omega)
     go_wp2_with fail
     refine (signQ_n g9 (qq n d - qq X.f1 a2) 5 w9 H9.out.1).mono ?_
     rintro e w10 ⟨rfl, hb10⟩
     have H10 := aS (And.intro (H9.out.2.1.below hb10) (And.intro (H9.out.2.2.1.below hb10) (H9.out.2.2.2.step hb10)))
     clear hb10 H9 c0 c1 c2 c3
     obtain ⟨c0, c1, c2, c3⟩ := H10.out.2.2.cells
     by_cases ha : (qq n d - qq X.f1 a2) = 0
     ·have hl := HL1.out
      rw [if_pos ha] at hl
      replace HL1 := aS hl
      clear hl
      rw [show cmpQ (qq n d - qq X.f1 a2) 0 = 0 by rw [ha]; unfold cmpQ; rw [if_neg Rat.lt_irrefl, if_neg Rat.lt_irrefl]]
      clear ha HL
      have HL3 : V = if (tmV (qq b a1)).2 = 0 ∧ (tmV (qq (b + X.f0) a1)).2 = 0 then bckL a1 a2 (qq n d) (out ++ [(⟨⟨(tmV (qq b a1)).1.1, (tmV (qq b a1)).1.2⟩, ⟨(tmV (qq (b + X.f0) a1)).1.1, (tmV (qq (b + X.f0) a1)).1.2⟩⟩ : Spn)]) (b + X.f0) (l0.drop (i + 1).toNat) else ([], 2) := HL1.out
      clear HL1
      have hTu : Calls Tryz.prog 66 #[.pointer (some ⟨g5, 0, none⟩)] w10 (ValP w10 (.tuple #[.agg #[.int .i64 (tmV (qq b a1)).1.1, .int .i64 (tmV (qq b a1)).1.2], .int .i64 (tmV (qq b a1)).2])) := timeE_n g5 (qq b a1) 2 w10 (H10.out.1) (by decide)
      have hTv : ∀ W, RQ W g6 (qq (b + X.f0) a1) 2 → Calls Tryz.prog 66 #[.pointer (some ⟨g6, 0, none⟩)] W (ValP W (.tuple #[.agg #[.int .i64 (tmV (qq (b + X.f0) a1)).1.1, .int .i64 (tmV (qq (b + X.f0) a1)).1.2], .int .i64 (tmV (qq (b + X.f0) a1)).2])) := fun W h => timeE_n g6 (qq (b + X.f0) a1) 2 W h (by decide)
      have hNv := H10.out.2.1
      have hS := H10.out.2.2
      have hLL := HL3
      clear HL3
      generalize (tmV (qq b a1)).1.1 = T1 at *
      generalize (tmV (qq b a1)).1.2 = T2 at *
      generalize (tmV (qq b a1)).2 = T3 at *
      generalize (tmV (qq (b + X.f0) a1)).1.1 = U1 at *
      generalize (tmV (qq (b + X.f0) a1)).1.2 = U2 at *
      generalize (tmV (qq (b + X.f0) a1)).2 = U3 at *
      have HTu := aS hTu
      have HTv := aS hTv
      have HS := aS (And.intro hNv hS)
      have HLL := aS hLL
      clear hTu hTv hNv hS hLL
      go_wp2_with fail
      refine HTu.out.mono ?_
      rintro e wa ⟨rfl, hba⟩
      have HS2 := aS (And.intro (HS.out.1.below hba) (HS.out.2.step hba))
      clear hba HS HTu
      have hxa := aS (And.intro (blk_new wa (.cells #[.int .i64 T1, .int .i64 T2] 24 (0, 0))) (below_alloc (Below.refl wa.heap.size wa) (.cells #[.int .i64 T1, .int .i64 T2] 24 (0, 0))))
      go_wp2_with fail
      generalize hWa : World.alloc wa _ = Wa
      have HS3 := aS (show Wa.heap[wa.heap.size]? = some (timeObj T1 T2) ∧ RQ Wa g6 (qq (b + X.f0) a1) 2 ∧ Tb w Wa n d u11 out G X by rw [← hWa]; exact ⟨hxa.out.1, HS2.out.1.below hxa.out.2, HS2.out.2.step hxa.out.2⟩)
      clear hWa hxa HS2
      generalize wa.heap.size = ga at *
      refine (HTv.out Wa HS3.out.2.1).mono ?_
      rintro e wb ⟨rfl, hbb⟩
      have HS4 := aS (And.intro (blk_below HS3.out.1 hbb) (HS3.out.2.2.step hbb))
      clear hbb HS3 HTv
      have hxb := aS (And.intro (blk_new wb (.cells #[.int .i64 U1, .int .i64 U2] 24 (0, 0))) (below_alloc (Below.refl wb.heap.size wb) (.cells #[.int .i64 U1, .int .i64 U2] 24 (0, 0))))
      by_cases t3 : T3 = 0
      case neg =>
       have HV4 := aS (show V = ([], 2) by rw [HLL.out, if_neg (fun h => t3 h.1)])
       have t3b : (T3 != 0) = true := by simpa using t3
       have t3c : (T3 == 0) = false := by simpa using t3
       clear HLL t3
       go_wp2_with fail
       go_ret2
       rw [HV4.out]
       exact ⟨_, rfl, Kd.R_nil _ _ _ _ _, HS4.out.2.s.m.below.trans (hxb.out.2.mono HS4.out.2.s.m.below.size)⟩
      by_cases u3 : U3 = 0
      case neg =>
       have HV4 := aS (show V = ([], 2) by rw [HLL.out, if_neg (fun h => u3 h.2)])
       have t3b : (T3 != 0) = false := by simpa using t3
       have t3c : (T3 == 0) = true := by simpa using t3
       have u3b : (U3 != 0) = true := by simpa using u3
       have u3c : (U3 == 0) = false := by simpa using u3
       clear HLL t3 u3
       go_wp2_with fail
       go_ret2
       rw [HV4.out]
       exact ⟨_, rfl, Kd.R_nil _ _ _ _ _, HS4.out.2.s.m.below.trans (hxb.out.2.mono HS4.out.2.s.m.below.size)⟩
      have HV4 := aS (show V = bckL a1 a2 (qq n d) (out ++ [(⟨⟨T1, T2⟩, ⟨U1, U2⟩⟩ : Spn)]) (b + X.f0) (l0.drop (i + 1).toNat) by rw [HLL.out, if_pos ⟨t3, u3⟩])
      have t3b : (T3 != 0) = false := by simpa using t3
      have t3c : (T3 == 0) = true := by simpa using t3
      have u3b : (U3 != 0) = false := by simpa using u3
      have u3c : (U3 == 0) = true := by simpa using u3
      clear HLL t3 u3
      have hxa2 := blk_below HS4.out.1 hxb.out.2
      obtain ⟨ka0, ka1, _, _⟩ := time_cells hxa2
      obtain ⟨kb0, kb1, _, _⟩ := time_cells hxb.out.1
      have HS5 := aS (HS4.out.2.step hxb.out.2)
      go_wp2_with (first
       | ((with_reducible refine gate_builtin (b := .append) (xs := #[.tmp 110, .tmp 114]) rfl ?_); at_builtin; refine Kd.R_append k53 (w0 := w) w.heap.size rfl (.tmp 110) (.tmp 114) 22 53 (.agg #[(.int .i64 0), (.int .i64 0), (.int .i64 0), (.int .i64 0)]) 32 rfl Tryz.underlying22 info53 rfl (by decide) (by omega) u11 out (⟨⟨T1, T2⟩, ⟨U1, U2⟩⟩ : Spn) [.int .i64 T1, .int .i64 T2, .int .i64 U1, .int .i64 U2] (fun k => k ≠ w.heap.size) (fun _ => False) rfl (by first | (go_simp; done) | (go_simp; rfl)) (k53_mkM _ _ _ (⟨⟨T1, T2⟩, ⟨U1, U2⟩⟩ : Spn)) (fun _ hk => hk.elim) (fun k hk he => by have := HS5.out.s.m.a; have := lt_of_some this; omega) HS5.out.s.r HS5.out.s.m.below HS5.out.s.m.below.size (by have := HW.out.2.2.2.2; omega) ?_; intro v9 w9' ho hb hg hat; have HS6 := aS (show Sb w w9' n d v9 (out ++ [(⟨⟨T1, T2⟩, ⟨U1, U2⟩⟩ : Spn)]) from ⟨⟨blk_grown HS5.out.s.m.a hg (fun he => HS5.out.s.r.1 _ he.symm rfl), hb⟩, ho⟩); clear ho hb hg hat))
      go_roundg k1
      case measure => omega
      case rel => exact ⟨out ++ [(⟨⟨T1, T2⟩, ⟨U1, U2⟩⟩ : Spn)], b + X.f0, i + 1, by rw [HW.out.1.2], by rw [HW.out.1.1], ⟨HW.out.2.1.1, HW.out.2.1.2, HA.out.sum⟩, ⟨HV4.out⟩, ⟨HS6.out, by rw [List.length_append]; exact HW.out.2.2.2.1⟩⟩
     have hl := HL1.out
     rw [if_neg ha] at hl
     replace HL1 := aS hl
     clear hl
     have HL2 := HL1
     have hcb : (cmpQ (qq n d - qq X.f1 a2) 0 != 0) = true := by
      rw [bne_iff_ne]
      intro h
      unfold cmpQ at h
      split at h
      ·cases h
      split at h
      ·cases h
      rename_i h1 h2
      exact ha (Rat.le_antisymm (Rat.not_lt.1 h2) (Rat.not_lt.1 h1))
     generalize cmpQ (qq n d - qq X.f1 a2) 0 = c at *
     clear ha HL HL1
     go_wp2_with fail
     go_roundg k1
     case measure => omega
     case rel => exact ⟨out, b + X.f0, i + 1, by rw [HW.out.1.2], by rw [HW.out.1.1], ⟨HW.out.2.1.1, HW.out.2.1.2, HA.out.sum⟩, ⟨HL2.out⟩, ⟨H10.out.2.2.s, HW.out.2.2.1⟩⟩
    have hl := HL1.out
    rw [if_neg hz] at hl
    replace HL1 := aS hl
    clear hl
    have hf2 : 0 < X.f2 := by have := HA.out.vd.n0; omega
    have hzb : (X.f2 == 0) = false := beq_eq_false_iff_ne.2 hz
    have hzg : decide (X.f2 > 0) = true := decide_eq_true hf2
    go_wp2_with fail
    refine (ratioE_n X.f3 X.f2 w9 HJ.out.2.2.1 HJ.out.2.1 hz).mono ?_
    rintro e w10 ⟨g10, hg10, rfl, hb10, hN10⟩
    have H10 := aS (And.intro hN10 (And.intro (H9.out.1.below hb10) (And.intro (H9.out.2.1.below hb10) (And.intro (H9.out.2.2.1.below hb10) (H9.out.2.2.2.step hb10)))))
    clear hb10 H9 c0 c1 c2 c3 hN10 hg10
    go_wp2_with fail
    refine (mulE_n g9 g10 (qq n d - qq X.f1 a2) (qq X.f3 X.f2) 5 2 w10 H10.out.2.1 H10.out.1 (by decide)).mono ?_
    rintro e w11 ⟨g11, hg11, rfl, hb11, hN11⟩
    have H11 := aS (And.intro hN11 (And.intro (H10.out.2.1.below hb11) (And.intro (H10.out.2.2.1.below hb11) (And.intro (H10.out.2.2.2.1.below hb11) (H10.out.2.2.2.2.step hb11)))))
    clear hb11 H10 hN11 hg11
    go_wp2_with fail
    refine (addE_n g5 g11 (qq b a1) ((qq n d - qq X.f1 a2) * qq X.f3 X.f2) 2 7 w11 H11.out.2.2.1 H11.out.1 (by decide)).mono ?_
    rintro e w12 ⟨g12, hg12, rfl, hb12, hN12⟩
    have H12 := aS (And.intro hN12 (And.intro (H11.out.2.1.below hb12) (And.intro (H11.out.2.2.2.1.below hb12) (H11.out.2.2.2.2.step hb12))))
    clear hb12 H11 hN12 hg12
    go_wp2_with fail
    refine (signQ_n g9 (qq n d - qq X.f1 a2) 5 w12 H12.out.2.1).mono ?_
    rintro e w13 ⟨rfl, hb13⟩
    have H13 := aS (And.intro (H12.out.1.below hb13) (And.intro (H12.out.2.2.1.below hb13) (H12.out.2.2.2.step hb13)))
    clear hb13 H12
    obtain ⟨c0, c1, c2, c3⟩ := H13.out.2.2.cells
    by_cases ha : (qq n d - qq X.f1 a2) < 0
    ·have HL2 := aS (show V = bckL a1 a2 (qq n d) out (b + X.f0) (l0.drop (i + 1).toNat) by rw [HL1.out, if_pos (.inl ha)])
     rw [show cmpQ (qq n d - qq X.f1 a2) 0 = -1 from if_pos ha]
     clear ha HL HL1
     go_wp2_with fail
     go_roundg k1
     case measure => omega
     case rel => exact ⟨out, b + X.f0, i + 1, by rw [HW.out.1.2], by rw [HW.out.1.1], ⟨HW.out.2.1.1, HW.out.2.1.2, HA.out.sum⟩, ⟨HL2.out⟩, ⟨H13.out.2.2.s, HW.out.2.2.1⟩⟩
    obtain ⟨c, hc, ec⟩ := cmpQ_ge ha
    rw [ec]
    have hcb : decide (c < 0) = false := decide_eq_false (by omega)
    clear ec
    go_wp2_with fail
    refine (cmpQ_n g12 g6 (qq b a1 + (qq n d - qq X.f1 a2) * qq X.f3 X.f2) (qq (b + X.f0) a1) 10 2 w13 H13.out.1 H13.out.2.1 (by decide)).mono ?_
    rintro e w14 ⟨rfl, hb14⟩
    have H14 := aS (And.intro (H13.out.1.below hb14) (H13.out.2.2.step hb14))
    clear hb14 H13 c0 c1 c2 c3
    obtain ⟨c0, c1, c2, c3⟩ := H14.out.2.cells
    by_cases hq : (qq b a1 + (qq n d - qq X.f1 a2) * qq X.f3 X.f2) < qq (b + X.f0) a1
    ·rw [show cmpQ (qq b a1 + (qq n d - qq X.f1 a2) * qq X.f3 X.f2) (qq (b + X.f0) a1) = -1 from if_pos hq]
     have hl := HL1.out
     rw [if_neg (fun h => h.elim ha (fun h => h hq))] at hl
     replace HL1 := aS hl
     clear hl
     have HL3 : V = if (tmV (qq b a1 + (qq n d - qq X.f1 a2) * qq X.f3 X.f2)).2 = 0 ∧ (tmV (qq b a1 + (qq n d - qq X.f1 a2) * qq X.f3 X.f2)).2 = 0 then bckL a1 a2 (qq n d) (out ++ [(⟨⟨(tmV (qq b a1 + (qq n d - qq X.f1 a2) * qq X.f3 X.f2)).1.1, (tmV (qq b a1 + (qq n d - qq X.f1 a2) * qq X.f3 X.f2)).1.2⟩, ⟨(tmV (qq b a1 + (qq n d - qq X.f1 a2) * qq X.f3 X.f2)).1.1, (tmV (qq b a1 + (qq n d - qq X.f1 a2) * qq X.f3 X.f2)).1.2⟩⟩ : Spn)]) (b + X.f0) (l0.drop (i + 1).toNat) else ([], 2) := by
      rw [HL1.out]
      simp only [and_self]
      rfl
     clear hq ha HL HL1 hc
     have hTu : Calls Tryz.prog 66 #[.pointer (some ⟨g12, 0, none⟩)] w14 (ValP w14 (.tuple #[.agg #[.int .i64 (tmV ((qq b a1 + (qq n d - qq X.f1 a2) * qq X.f3 X.f2))).1.1, .int .i64 (tmV ((qq b a1 + (qq n d - qq X.f1 a2) * qq X.f3 X.f2))).1.2], .int .i64 (tmV ((qq b a1 + (qq n d - qq X.f1 a2) * qq X.f3 X.f2))).2])) := timeE_n g12 ((qq b a1 + (qq n d - qq X.f1 a2) * qq X.f3 X.f2)) 10 w14 (H14.out.1) (by decide)
     have hTv : ∀ W, RQ W g12 ((qq b a1 + (qq n d - qq X.f1 a2) * qq X.f3 X.f2)) 10 → Calls Tryz.prog 66 #[.pointer (some ⟨g12, 0, none⟩)] W (ValP W (.tuple #[.agg #[.int .i64 (tmV ((qq b a1 + (qq n d - qq X.f1 a2) * qq X.f3 X.f2))).1.1, .int .i64 (tmV ((qq b a1 + (qq n d - qq X.f1 a2) * qq X.f3 X.f2))).1.2], .int .i64 (tmV ((qq b a1 + (qq n d - qq X.f1 a2) * qq X.f3 X.f2))).2])) := fun W h => timeE_n g12 ((qq b a1 + (qq n d - qq X.f1 a2) * qq X.f3 X.f2)) 10 W h (by decide)
     have hNv := H14.out.1
     have hS := H14.out.2
     have hLL := HL3
     clear HL3
     generalize (tmV ((qq b a1 + (qq n d - qq X.f1 a2) * qq X.f3 X.f2))).1.1 = T1 at *
     generalize (tmV ((qq b a1 + (qq n d - qq X.f1 a2) * qq X.f3 X.f2))).1.2 = T2 at *
     generalize (tmV ((qq b a1 + (qq n d - qq X.f1 a2) * qq X.f3 X.f2))).2 = T3 at *
     have HTu := aS hTu
     have HTv := aS hTv
     have HS := aS (And.intro hNv hS)
     have HLL := aS hLL
     clear hTu hTv hNv hS hLL
     go_wp2_with fail
     refine HTu.out.mono ?_
     rintro e wa ⟨rfl, hba⟩
     have HS2 := aS (And.intro (HS.out.1.below hba) (HS.out.2.step hba))
     clear hba HS HTu
     have hxa := aS (And.intro (blk_new wa (.cells #[.int .i64 T1, .int .i64 T2] 24 (0, 0))) (below_alloc (Below.refl wa.heap.size wa) (.cells #[.int .i64 T1, .int .i64 T2] 24 (0, 0))))
     go_wp2_with fail
     generalize hWa : World.alloc wa _ = Wa
     have HS3 := aS (show Wa.heap[wa.heap.size]? = some (timeObj T1 T2) ∧ RQ Wa g12 ((qq b a1 + (qq n d - qq X.f1 a2) * qq X.f3 X.f2)) 10 ∧ Tb w Wa n d u11 out G X by rw [← hWa]; exact ⟨hxa.out.1, HS2.out.1.below hxa.out.2, HS2.out.2.step hxa.out.2⟩)
     clear hWa hxa HS2
     generalize wa.heap.size = ga at *
     refine (HTv.out Wa HS3.out.2.1).mono ?_
     rintro e wb ⟨rfl, hbb⟩
     have HS4 := aS (And.intro (blk_below HS3.out.1 hbb) (HS3.out.2.2.step hbb))
     clear hbb HS3 HTv
     have hxb := aS (And.intro (blk_new wb (.cells #[.int .i64 T1, .int .i64 T2] 24 (0, 0))) (below_alloc (Below.refl wb.heap.size wb) (.cells #[.int .i64 T1, .int .i64 T2] 24 (0, 0))))
     by_cases t3 : T3 = 0
     case neg =>
      have HV4 := aS (show V = ([], 2) by rw [HLL.out, if_neg (fun h => t3 h.1)])
      have t3b : (T3 != 0) = true := by simpa using t3
      have t3c : (T3 == 0) = false := by simpa using t3
      clear HLL t3
      go_wp2_with fail
      go_ret2
      rw [HV4.out]
      exact ⟨_, rfl, Kd.R_nil _ _ _ _ _, HS4.out.2.s.m.below.trans (hxb.out.2.mono HS4.out.2.s.m.below.size)⟩
     have u3 : T3 = 0 := t3
     have HV4 := aS (show V = bckL a1 a2 (qq n d) (out ++ [(⟨⟨T1, T2⟩, ⟨T1, T2⟩⟩ : Spn)]) (b + X.f0) (l0.drop (i + 1).toNat) by rw [HLL.out, if_pos ⟨t3, u3⟩])
     have t3b : (T3 != 0) = false := by simpa using t3
     have t3c : (T3 == 0) = true := by simpa using t3
     have u3b : (T3 != 0) = false := by simpa using u3
     have u3c : (T3 == 0) = true := by simpa using u3
     clear HLL t3 u3
     have hxa2 := blk_below HS4.out.1 hxb.out.2
     obtain ⟨ka0, ka1, _, _⟩ := time_cells hxa2
     obtain ⟨kb0, kb1, _, _⟩ := time_cells hxb.out.1
     have HS5 := aS (HS4.out.2.step hxb.out.2)
     go_wp2_with (first
      | ((with_reducible refine gate_builtin (b := .append) (xs := #[.tmp 110, .tmp 114]) rfl ?_); at_builtin; refine Kd.R_append k53 (w0 := w) w.heap.size rfl (.tmp 110) (.tmp 114) 22 53 (.agg #[(.int .i64 0), (.int .i64 0), (.int .i64 0), (.int .i64 0)]) 32 rfl Tryz.underlying22 info53 rfl (by decide) (by omega) u11 out (⟨⟨T1, T2⟩, ⟨T1, T2⟩⟩ : Spn) [.int .i64 T1, .int .i64 T2, .int .i64 T1, .int .i64 T2] (fun k => k ≠ w.heap.size) (fun _ => False) rfl (by first | (go_simp; done) | (go_simp; rfl)) (k53_mkM _ _ _ (⟨⟨T1, T2⟩, ⟨T1, T2⟩⟩ : Spn)) (fun _ hk => hk.elim) (fun k hk he => by have := HS5.out.s.m.a; have := lt_of_some this; omega) HS5.out.s.r HS5.out.s.m.below HS5.out.s.m.below.size (by have := HW.out.2.2.2.2; omega) ?_; intro v9 w9' ho hb hg hat; have HS6 := aS (show Sb w w9' n d v9 (out ++ [(⟨⟨T1, T2⟩, ⟨T1, T2⟩⟩ : Spn)]) from ⟨⟨blk_grown HS5.out.s.m.a hg (fun he => HS5.out.s.r.1 _ he.symm rfl), hb⟩, ho⟩); clear ho hb hg hat))
     go_roundg k1
     case measure => omega
     case rel => exact ⟨out ++ [(⟨⟨T1, T2⟩, ⟨T1, T2⟩⟩ : Spn)], b + X.f0, i + 1, by rw [HW.out.1.2], by rw [HW.out.1.1], ⟨HW.out.2.1.1, HW.out.2.1.2, HA.out.sum⟩, ⟨HV4.out⟩, ⟨HS6.out, by rw [List.length_append]; exact HW.out.2.2.2.1⟩⟩
    have HL2 := aS (show V = bckL a1 a2 (qq n d) out (b + X.f0) (l0.drop (i + 1).toNat) by rw [HL1.out, if_pos (.inr hq)])
    obtain ⟨c', hc', ec'⟩ := cmpQ_ge hq
    rw [ec']
    have hcb' : decide (c' ≥ 0) = true := decide_eq_true (by omega)
    clear ec' hq ha HL HL1
    go_wp2_with fail
    go_roundg k1
    case measure => omega
    case rel => exact ⟨out, b + X.f0, i + 1, by rw [HW.out.1.2], by rw [HW.out.1.1], ⟨HW.out.2.1.1, HW.out.2.1.2, HA.out.sum⟩, ⟨HL2.out⟩, ⟨H14.out.2.s, HW.out.2.2.1⟩⟩
   have hlb : decide (i < (l0.length : Int)) = false := decide_eq_false hlt
   have HV4 := aS (show V = (out, 0) by
    rw [hL.out, List.drop_of_length_le (by have := hi.out; omega)]
    rfl)
   obtain ⟨A4, c4, e4⟩ := Kd.R_slice hM.out.1.r
   subst e4
   replace hlt := eq_false hlt
   clear hi hL
   go_wp2_with fail
   go_ret2
   rw [HV4.out]
   exact ⟨_, rfl, Kd.R_mono hM.out.1.r (fun _ _ => trivial), hM.out.1.m.below⟩
end Go.Proofs.YtekommcfpjonmaaGreat.Bk
namespace Go.Proofs.YtekommcfpjonmaaGreat.E
open RowKit Go YtekommcfpjonmaaGreatW.PrintWords YtekommcfpjonmaaGreatW.PrintLast YtekommcfpjonmaaGreatW.PrintMore Pe Bk
end Go.Proofs.YtekommcfpjonmaaGreat.E
namespace Go.Proofs.YtekommcfpjonmaaGreat.Sg
abbrev Sq := Rat × Rat
def inS (l : List Sq) (q : Rat) : Prop := ∃ s ∈ l, s.1 ≤ q ∧ q < s.2
theorem inS_nil (q : Rat) : ¬ inS [] q := by rintro ⟨s, hs, _⟩; cases hs
theorem inS_cons {a : Sq} {l : List Sq} {q : Rat} : inS (a :: l) q ↔ (a.1 ≤ q ∧ q < a.2) ∨ inS l q := by
 unfold inS
 simp only [List.mem_cons]
 constructor
 ·rintro ⟨s, rfl | h, h1⟩
  ·exact .inl h1
  exact .inr ⟨s, h, h1⟩
 rintro (h | ⟨s, h, h1⟩)
 ·exact ⟨a, .inl rfl, h⟩
 exact ⟨s, .inr h, h1⟩
theorem inS_app {a b : List Sq} {q : Rat} : inS (a ++ b) q ↔ inS a q ∨ inS b q := by
 induction a with
 | nil => simp [inS_nil]
 | cons x t ih => rw [List.cons_append, inS_cons, ih, inS_cons, or_assoc]
def Cn : List Sq → Prop
 | [] => True
 | s :: l => s.1 < s.2 ∧ (∀ x ∈ l, s.2 < x.1) ∧ Cn l
theorem cn_from {a : Sq} {l : List Sq} (h : Cn (a :: l)) : ∀ s ∈ a :: l, a.1 ≤ s.1 := by
 intro s hs
 rcases List.mem_cons.1 hs with rfl | hs
 ·exact Rat.le_refl
 have h1 := h.1
 have h2 := h.2.1 s hs
 grind
theorem cn_uniq : ∀ l m : List Sq, Cn l → Cn m → (∀ q, inS l q ↔ inS m q) → l = m
 | [], [], _, _, _ => rfl
 | [], b :: m, _, hm, h => by
  have := (h b.1).2 (inS_cons.2 (.inl ⟨Rat.le_refl, hm.1⟩))
  exact absurd this (inS_nil _)
 | a :: l, [], hl, _, h => by
  have := (h a.1).1 (inS_cons.2 (.inl ⟨Rat.le_refl, hl.1⟩))
  exact absurd this (inS_nil _)
 | a :: l, b :: m, hl, hm, h => by
  have e1 : a.1 = b.1 := by
   obtain ⟨s, hs, h1, h2⟩ := (h a.1).1 (inS_cons.2 (.inl ⟨Rat.le_refl, hl.1⟩))
   obtain ⟨t, ht, h3, h4⟩ := (h b.1).2 (inS_cons.2 (.inl ⟨Rat.le_refl, hm.1⟩))
   have h5 := cn_from hm s hs
   have h6 := cn_from hl t ht
   grind
  have e2 : a.2 = b.2 := by
   have k1 : ¬ a.2 < b.2 := fun hlt => by
    have hq : inS (b :: m) a.2 := inS_cons.2 (.inl ⟨by have := hl.1; grind, hlt⟩)
    rcases inS_cons.1 ((h a.2).2 hq) with h1 | ⟨s, hs, h1, h2⟩
    ·grind
    have := hl.2.1 s hs
    grind
   have k2 : ¬ b.2 < a.2 := fun hlt => by
    have hq : inS (a :: l) b.2 := inS_cons.2 (.inl ⟨by have := hm.1; grind, hlt⟩)
    rcases inS_cons.1 ((h b.2).1 hq) with h1 | ⟨s, hs, h1, h2⟩
    ·grind
    have := hm.2.1 s hs
    grind
   grind
  have e3 : l = m := by
   refine cn_uniq l m hl.2.2 hm.2.2 fun q => ⟨fun hq => ?_, fun hq => ?_⟩
   ·obtain ⟨s, hs, h1, h2⟩ := hq
    have h3 := hl.2.1 s hs
    rcases inS_cons.1 ((h q).1 (inS_cons.2 (.inr ⟨s, hs, h1, h2⟩))) with h4 | h4
    ·grind
    exact h4
   obtain ⟨s, hs, h1, h2⟩ := hq
   have h3 := hm.2.1 s hs
   rcases inS_cons.1 ((h q).2 (inS_cons.2 (.inr ⟨s, hs, h1, h2⟩))) with h4 | h4
   ·grind
   exact h4
  have e : a = b := Prod.ext e1 e2
  rw [e, e3]
def mxR (a b : Rat) : Rat := if a < b then b else a
def jn : Sq → List Sq → List Sq
 | a, [] => [a]
 | a, x :: r => if a.2 < x.1 then a :: jn x r else jn (a.1, mxR a.2 x.2) r
def mrg : List Sq → List Sq
 | [] => []
 | a :: r => jn a r
def Od : List Sq → Prop
 | [] => True
 | s :: l => s.1 < s.2 ∧ (∀ x ∈ l, s.1 ≤ x.1) ∧ Od l
theorem jn_in : ∀ (r : List Sq) (a : Sq), Od (a :: r) → ∀ q, inS (jn a r) q ↔ inS (a :: r) q
 | [], a, _, q => Iff.rfl
 | x :: r, a, h, q => by
  rw [jn]
  by_cases hx : a.2 < x.1
  ·rw [if_pos hx, inS_cons, jn_in r x h.2.2, inS_cons (a := a)]
  rw [if_neg hx]
  have hx1 := h.2.1 x (by simp)
  have hod : Od ((a.1, mxR a.2 x.2) :: r) := ⟨by
   have := h.1
   unfold mxR
   simp only
   split <;> grind, fun y hy => h.2.1 y (by simp [hy]), h.2.2.2.2⟩
  rw [jn_in r _ hod, inS_cons, inS_cons, inS_cons]
  have := h.1
  have := h.2.2.1
  unfold mxR
  simp only
  split <;> grind
theorem jn_from : ∀ (r : List Sq) (a : Sq), Od (a :: r) → ∀ s ∈ jn a r, a.1 ≤ s.1
 | [], a, _, s, hs => by
  simp only [jn, List.mem_singleton] at hs
  rw [hs]
  exact Rat.le_refl
 | x :: r, a, h, s, hs => by
  rw [jn] at hs
  have hx1 := h.2.1 x (by simp)
  by_cases hx : a.2 < x.1
  ·rw [if_pos hx] at hs
   rcases List.mem_cons.1 hs with rfl | hs
   ·exact Rat.le_refl
   have := jn_from r x h.2.2 s hs
   grind
  rw [if_neg hx] at hs
  have hod : Od ((a.1, mxR a.2 x.2) :: r) := ⟨by
   have := h.1
   unfold mxR
   simp only
   split <;> grind, fun y hy => h.2.1 y (by simp [hy]), h.2.2.2.2⟩
  exact jn_from r _ hod s hs
theorem jn_cn : ∀ (r : List Sq) (a : Sq), Od (a :: r) → Cn (jn a r)
 | [], a, h => ⟨h.1, by simp, trivial⟩
 | x :: r, a, h => by
  rw [jn]
  by_cases hx : a.2 < x.1
  ·rw [if_pos hx]
   refine ⟨h.1, fun s hs => ?_, jn_cn r x h.2.2⟩
   have := jn_from r x h.2.2 s hs
   grind
  rw [if_neg hx]
  refine jn_cn r _ ⟨?_, fun y hy => h.2.1 y (by simp [hy]), h.2.2.2.2⟩
  have := h.1
  unfold mxR
  simp only
  split <;> grind
theorem mrg_in {l : List Sq} (h : Od l) (q : Rat) : inS (mrg l) q ↔ inS l q := by
 cases l with
 | nil => exact Iff.rfl
 | cons a r => exact jn_in r a h q
theorem mrg_cn {l : List Sq} (h : Od l) : Cn (mrg l) := by
 cases l with
 | nil => trivial
 | cons a r => exact jn_cn r a h
def Up : List Rat → Prop
 | [] => True
 | x :: l => (∀ y ∈ l, x ≤ y) ∧ Up l
def sgm (f : Rat → Bool) : List Rat → List Sq
 | x :: y :: r => if x < y ∧ f x = true then (x, y) :: sgm f (y :: r) else sgm f (y :: r)
 | _ => []
theorem sgm_from (f : Rat → Bool) : ∀ l : List Rat, Up l → ∀ s ∈ sgm f l, s.1 < s.2 ∧ s.1 ∈ l ∧ s.2 ∈ l
 | [], _, s, hs => by simp [sgm] at hs
 | [x], _, s, hs => by simp [sgm] at hs
 | x :: y :: r, h, s, hs => by
  rw [sgm] at hs
  have ih := sgm_from f (y :: r) h.2
  split at hs
  ·rename_i hc
   rcases List.mem_cons.1 hs with rfl | hs
   ·exact ⟨hc.1, by simp, by simp⟩
   have := ih s hs
   exact ⟨this.1, List.mem_cons_of_mem _ this.2.1, List.mem_cons_of_mem _ this.2.2⟩
  have := ih s hs
  exact ⟨this.1, List.mem_cons_of_mem _ this.2.1, List.mem_cons_of_mem _ this.2.2⟩
theorem sgm_od (f : Rat → Bool) : ∀ l : List Rat, Up l → Od (sgm f l)
 | [], _ => trivial
 | [x], _ => trivial
 | x :: y :: r, h => by
  rw [sgm]
  split
  ·rename_i hc
   exact ⟨hc.1, fun s hs => h.1 s.1 (sgm_from f _ h.2 s hs).2.1, sgm_od f _ h.2⟩
  exact sgm_od f _ h.2
def Steady (f : Rat → Bool) (l : List Rat) : Prop := ∀ x q : Rat, x ≤ q → (∀ e ∈ l, ¬ (x < e ∧ e ≤ q)) → f x = f q
theorem sgm_in (f : Rat → Bool) (E : List Rat) (hs : Steady f E) : ∀ l : List Rat, Up l → (∀ e ∈ E, (∃ x ∈ l.head?, e ≤ x) ∨ e ∈ l) → (∀ x ∈ l, x ∈ E) → ∀ q, inS (sgm f l) q ↔ f q = true ∧ (∃ x ∈ l.head?, x ≤ q) ∧ ∃ y ∈ l, q < y
 | [], _, _, _, q => by simp [sgm, inS_nil]
 | [x], _, _, _, q => by
  simp only [sgm, inS_nil, List.head?_cons, Option.mem_def, Option.some.injEq, List.mem_singleton, false_iff]
  rintro ⟨_, ⟨_, rfl, h1⟩, y, rfl, h2⟩
  grind
 | x :: y :: r, h, hE, hl, q => by
  have hxy := h.1 y (by simp)
  have ih := sgm_in f E hs (y :: r) h.2 (fun e he => by
   rcases hE e he with ⟨z, hz, h1⟩ | h1
   ·simp only [List.head?_cons, Option.mem_def, Option.some.injEq] at hz
    subst hz
    exact .inl ⟨y, by simp, by grind⟩
   rcases List.mem_cons.1 h1 with rfl | h1
   ·exact .inl ⟨y, by simp, hxy⟩
   exact .inr h1) (fun z hz => hl z (by simp [hz])) q
  have key : x ≤ q → q < y → f x = f q := fun h1 h2 => hs x q h1 (fun e he => by
   rintro ⟨h3, h4⟩
   rcases hE e he with ⟨z, hz, h5⟩ | h5
   ·simp only [List.head?_cons, Option.mem_def, Option.some.injEq] at hz
    subst hz
    grind
   rcases List.mem_cons.1 h5 with rfl | h5
   ·grind
   rcases List.mem_cons.1 h5 with rfl | h5
   ·grind
   have := h.2.1 e h5
   grind)
  have hsp : (f q = true ∧ (∃ z ∈ (x :: y :: r).head?, z ≤ q) ∧ ∃ z ∈ x :: y :: r, q < z) ↔ ((x ≤ q ∧ q < y) ∧ f x = true) ∨ (f q = true ∧ (∃ z ∈ (y :: r).head?, z ≤ q) ∧ ∃ z ∈ y :: r, q < z) := by
   simp only [List.head?_cons, Option.mem_def, Option.some.injEq, exists_eq_left', List.mem_cons]
   constructor
   ·rintro ⟨h1, h2, z, hz, h3⟩
    by_cases h4 : q < y
    ·exact .inl ⟨⟨h2, h4⟩, by rw [key h2 h4]; exact h1⟩
    refine .inr ⟨h1, by grind, z, ?_, h3⟩
    rcases hz with rfl | hz
    ·grind
    exact hz
   rintro (⟨⟨h1, h2⟩, h3⟩ | ⟨h1, h2, z, hz, h3⟩)
   ·exact ⟨by rw [← key h1 h2]; exact h3, h1, y, .inr (.inl rfl), h2⟩
   exact ⟨h1, by grind, z, .inr hz, h3⟩
  rw [hsp, ← ih, sgm]
  by_cases hc : x < y ∧ f x = true
  ·rw [if_pos hc, inS_cons]
   simp [hc.2]
  rw [if_neg hc]
  constructor
  ·exact .inr
  rintro (⟨⟨h1, h2⟩, h3⟩ | h1)
  ·exact absurd ⟨by grind, h3⟩ hc
  exact h1
theorem sgm_all {f : Rat → Bool} {l : List Rat} (hu : Up l) (hs : Steady f l) (ho : ∀ q, f q = true → (∃ x ∈ l, x ≤ q) ∧ ∃ y ∈ l, q < y) (q : Rat) : inS (sgm f l) q ↔ f q = true := by
 rw [sgm_in f l hs l hu (fun e he => .inr he) (fun x hx => hx) q]
 constructor
 ·exact fun h => h.1
 intro h
 obtain ⟨⟨x, hx, h1⟩, h2⟩ := ho q h
 refine ⟨h, ?_, h2⟩
 cases l with
 | nil => cases hx
 | cons a t =>
  refine ⟨a, by simp, ?_⟩
  rcases List.mem_cons.1 hx with rfl | hx
  ·exact h1
  have := hu.1 x hx
  grind
theorem mrg_sgm {f : Rat → Bool} {l : List Rat} (hu : Up l) (hs : Steady f l) (ho : ∀ q, f q = true → (∃ x ∈ l, x ≤ q) ∧ ∃ y ∈ l, q < y) : Cn (mrg (sgm f l)) ∧ ∀ q, inS (mrg (sgm f l)) q ↔ f q = true :=
 ⟨mrg_cn (sgm_od f l hu), fun q => (mrg_in (sgm_od f l hu) q).trans (sgm_all hu hs ho q)⟩
end Go.Proofs.YtekommcfpjonmaaGreat.Sg
namespace Go.Proofs.YtekommcfpjonmaaGreat.E
open Z RowKit YtekommcfpjonmaaGreatW.PrintWords YtekommcfpjonmaaGreatW.PrintLast YtekommcfpjonmaaGreatW.PrintMore
attribute [local go_sem] max2_int min2_int max_two min_two
theorem eqA24 (d : Nat) (w : World) (x0 y0 : Int) (x1 y1 : Int) :
  (Op.equalIn (d + 2) 24 (.agg #[.int .i64 x0, .int .i64 x1]) (.agg #[.int .i64 y0, .int .i64 y1])).run Tryz.prog w = .ok (x0 == y0 && (x1 == y1)) w := by
 refine eqA_of Tryz.underlying24 (by kernel_rfl) ?_
 refine eqf_cons (by rfl) (by go_simp; rfl) (by go_simp; rfl) (by go_simp) ?_
 exact eqf_last (by rfl) (by go_simp; rfl) (by go_simp; rfl) (by go_simp)
theorem eqA53 (d : Nat) (w : World) (x0 y0 : Int) (x1 y1 : Int) (x2 y2 : Int) (x3 y3 : Int) :
  (Op.equalIn (d + 3) 53 (.agg #[.int .i64 x0, .int .i64 x1, .int .i64 x2, .int .i64 x3]) (.agg #[.int .i64 y0, .int .i64 y1, .int .i64 y2, .int .i64 y3])).run Tryz.prog w = .ok ((x0 == y0 && (x1 == y1)) && ((x2 == y2 && (x3 == y3)))) w := by
 refine eqA_of Tryz.underlying53 (by kernel_rfl) ?_
 refine eqf_cons (by rfl) (by go_simp) (by go_simp) (eqA24 (d + 0) w _ _ _ _) ?_
 exact eqf_last (by rfl) (by go_simp) (by go_simp) (eqA24 (d + 0) w _ _ _ _)
end Go.Proofs.YtekommcfpjonmaaGreat.E

/-
  When any list of edits shows any media time, and which media times it shows, are the reference's, with their errors; no condition beyond the row's own. The reference's Used: the walk. The law's first example: a list of two edits is made normal. The law EditBack, walked. When any list of edits shows any media time, and which media times it shows, are the reference's, with their errors; no condition beyond the row's own.
-/
import Derived.Test.YtekommcfpjonmaaGreatQREditBacki
import Derived.Test.YtekommcfpjonmaaGreatQREditBackj
import Derived.Test.YtekommcfpjonmaaGreatQREditBackc
import Derived.Outline
import Derived.Test.YtekommcfpjonmaaGreatRows
import Derived.WalkKit
import Derived.ProofKit
import Derived.OpenShut
import Derived.ChangeOld
import Derived.Below
import Derived.SizedLaws
import Derived.Carry
set_option linter.unusedVariables false
set_option linter.unusedSimpArgs false
set_option maxHeartbeats 16000000
set_option maxRecDepth 100000
namespace Go.Proofs.YtekommcfpjonmaaGreat.Uz
open RowKit Go YtekommcfpjonmaaGreatW.PrintWords YtekommcfpjonmaaGreatW.PrintLast YtekommcfpjonmaaGreatW.PrintMore Mn Nd Z Rf Er Ek Et E Pe Qr Qt Qm Rm Bk Sy Xn Ub Rn Rl
def usdE (ms ts : Int) (e : Int) (out : List Spn) (t : List Ed) : List Spn × Int := if e = 0 then usdC (usdL ms ts out t) else ([], 2)
theorem usdE_skip {ms ts e : Int} {out : List Spn} {X : Ed} {r : List Ed} (h : X.f1 < 0 ∨ X.f2 = 0) : usdE ms ts e out (X :: r) = usdE ms ts e out r := by
 unfold usdE
 rw [usdL_cons, if_pos h]
theorem usdE_step {ms ts e : Int} {out : List Spn} {X : Ed} {r : List Ed} (h1 : ¬ X.f1 < 0) (h2 : ¬ X.f2 = 0) : usdE ms ts e out (X :: r) = usdE ms ts (Rn.addV out (qq X.f1 ts) (qq X.f1 ts + qq X.f0 ms * qq X.f2 X.f3) e).2 (Rn.addV out (qq X.f1 ts) (qq X.f1 ts + qq X.f0 ms * qq X.f2 X.f3) e).1 r := by
 have hu : usdL ms ts out (X :: r) = if (Et.tmV (qq X.f1 ts)).2 = 0 ∧ (Et.tmV (qq X.f1 ts + qq X.f0 ms * qq X.f2 X.f3)).2 = 0 then usdL ms ts (out ++ [spn (qq X.f1 ts) (qq X.f1 ts + qq X.f0 ms * qq X.f2 X.f3)]) (r) else none := by
  rw [usdL_cons, if_neg (fun h => h.elim h1 h2)]
 by_cases h0 : e = 0
 ·have ha : usdE ms ts e out (X :: r) = usdC (usdL ms ts out (X :: r)) := if_pos h0
  by_cases h4 : (Et.tmV (qq X.f1 ts)).2 = 0 ∧ (Et.tmV (qq X.f1 ts + qq X.f0 ms * qq X.f2 X.f3)).2 = 0
  ·have hb : Rn.addV out (qq X.f1 ts) (qq X.f1 ts + qq X.f0 ms * qq X.f2 X.f3) e = (out ++ [spn (qq X.f1 ts) (qq X.f1 ts + qq X.f0 ms * qq X.f2 X.f3)], 0) := if_pos ⟨h0, h4⟩
   rw [ha, hb, hu, if_pos h4]
   exact (if_pos rfl).symm
  have hb : Rn.addV out (qq X.f1 ts) (qq X.f1 ts + qq X.f0 ms * qq X.f2 X.f3) e = ([], 2) := if_neg (fun h => h4 h.2)
  rw [ha, hb, hu, if_neg h4]
  exact (if_neg (by decide)).symm
 have ha : usdE ms ts e out (X :: r) = ([], 2) := if_neg h0
 have hb : Rn.addV out (qq X.f1 ts) (qq X.f1 ts + qq X.f0 ms * qq X.f2 X.f3) e = ([], 2) := if_neg (fun h => h0 h.1)
 rw [ha, hb]
 exact (if_neg (by decide)).symm
theorem rclean_n (A : Option Addr) (c : Nat) (l : List Spn) (w : World) (hr : Kd.C k53 w A l.length l) (hc : l.length ≤ c) (hl : l.length ≤ 400) :
  Calls Tryz.prog 15 #[.slice A l.length c] w (SP w (clnV l)) := by
 obtain ⟨k, hk⟩ := (rclean_f hl).rounds
 exact dioramaref02_Clean.calls k A c l (clnV l).1 (clnV l).2 w hr hc hk
theorem rused_n (A0 : Option Addr) (c0 : Nat) (l0 : List Ed) (a1 : Int) (a2 : Int) (w : World) (hr0 : Kd.C k67 w A0 l0.length l0) (hc0 : l0.length ≤ c0) :
  Calls Tryz.prog 33 #[.slice A0 l0.length c0, .int .i64 a1, .int .i64 a2] w (SP w (usdV l0 a1 a2)) := by
 have hu := Tryz.underlying67
 have HR := aS (And.intro hr0 hc0)
 have HC := aS (rcheck_n A0 c0 l0 a1 a2 w hr0 hc0)
 have HV := aS (show usdV l0 a1 a2 = if chk l0 a1 a2 = 0 then usdE a1 a2 0 [] l0 else ([], chk l0 a1 a2) from rfl)
 have HO := aS (fun h0 : chk l0 a1 a2 = 0 => chk_ok.1 h0)
 generalize usdV l0 a1 a2 = V at *
 generalize chk l0 a1 a2 = C at *
 clear hr0 hc0
 go_enter Tryz.func33, Tryz.ntmps33
 go_wp2_with fail
 refine HC.out.mono ?_
 rintro en w2 ⟨rfl, hb2⟩
 have HB2 := aS hb2
 clear hb2 HC
 by_cases hc : C = 0
 case neg =>
  have HV2 := aS (show V = ([], C) by rw [HV.out, if_neg hc])
  have hcb : (C != 0) = true := bne_iff_ne.mpr hc
  clear HV HO hc
  go_wp2_with fail
  go_ret2
  rw [HV2.out]
  exact ⟨_, rfl, Kd.R_nil _ _ _ _ _, HB2.out⟩
 subst hc
 have HV2 := aS (show V = usdE a1 a2 0 [] l0 by rw [HV.out, if_pos rfl])
 have HC := aS (HO.out rfl)
 clear HV HO
 go_wp2_with fail
 go_loopg [8, 9, 10] l0.length (fun kq v8 v9 v10 w' => ∃ (out : List Spn) (e i : Int), v8 = .int .i64 e ∧ v10 = .int .i64 i ∧ Aside0 (0 ≤ i ∧ i + kq = l0.length ∧ out.length ≤ i.toNat ∧ (e = 0 ∨ e = 2)) ∧ Aside0 (V = usdE a1 a2 e out (l0.drop i.toNat)) ∧ Aside0 (Js w2 w' v9 out))
 case atStart => exact ⟨[], 0, 0, rfl, rfl, ⟨by simp, by simp, by simp, .inl rfl⟩, ⟨by rw [HV2.out]; simp⟩, ⟨⟨Kd.R_nil _ _ _ _ _, Below.refl _ _⟩⟩⟩
 case round =>
  clear HV2
  obtain ⟨out, e, i, rfl, rfl, hi, hL, hM⟩ := hrel
  by_cases hlt : i < (l0.length : Int)
  ·have p0 := hi.out.1
   have HA := aS (At.of p0 hlt rfl HC.out.2.2.1 HC.out.2.2.2)
   have HWB := aS (fun W (hb : Below w2.heap.size w2 W) => HB2.out.trans (hb.mono HB2.out.size))
   obtain ⟨ad, hA, q0, q1, q2, q3⟩ := at_T67 (Kd.C_below HR.out.1 (HWB.out wr hM.out.below)) i p0 hlt
   subst hA
   have HQ := aS (fun W (hb : Below w2.heap.size w2 W) => four_at (Kd.C_below HR.out.1 (HWB.out W hb)) p0 hlt)
   obtain ⟨k1, rfl⟩ : ∃ k, gk = k + 1 := ⟨gk - 1, by have := hi.out.2; omega⟩
   generalize rd_T67 l0 i = X at *
   have hwi : wrap64 (i + 1) = i + 1 := by
    have := HC.out.2.1
    exact w64 (by omega) (by omega)
   have HN := aS (show (0 ≤ i + 1 ∧ i + 1 + (k1 : Int) = l0.length) ∧ out.length ≤ (i + 1).toNat ∧ out.length + 1 ≤ (i + 1).toNat ∧ out.length ≤ 100 ∧ (e = 0 ∨ e = 2) by have := hi.out; have := HC.out.2.1; omega)
   have HL := aS (show V = usdE a1 a2 e out (X :: l0.drop (i + 1).toNat) by rw [hL.out, HA.out.drop])
   have HI := aS (show (0 < a1 ∧ a1 ≤ 9223372036854775807) ∧ 1 ≤ a2 ∧ a2 ≤ 1000000 by
    have := HC.out.1.m0
    have := HC.out.1.m1
    have := HC.out.1.t0
    have := HC.out.1.t1
    omega)
   have HJ := aS (show ((-9223372036854775807 ≤ X.f0 ∧ X.f0 ≤ 9223372036854775807) ∧ (-9223372036854775807 ≤ X.f1 ∧ X.f1 ≤ 9223372036854775807)) ∧ (0 ≤ X.f2 ∧ X.f2 ≤ 1000000) ∧ 1 ≤ X.f3 ∧ X.f3 ≤ 1000000 by
    have := HA.out.vd.d0
    have := HA.out.vd.d1
    have := HA.out.vd.m0
    have := HA.out.vd.m1
    have := HA.out.vd.n0
    have := HA.out.vd.n1
    have := HA.out.vd.e0
    have := HA.out.vd.e1
    omega)
   have HME := aS (show (X.f1 == -1) = decide (X.f1 < 0) by
    have := HA.out.vd.m0
    by_cases h : X.f1 < 0
    ·rw [decide_eq_true h, beq_iff_eq]
     omega
    rw [decide_eq_false h, beq_eq_false_iff_ne]
    omega)
   replace p0 := eq_true p0
   replace hlt := eq_true hlt
   clear hi hL HA
   go_wp2_with fail
   refine (rempty_n X wr).mono ?_
   rintro en w5 ⟨rfl, hb5⟩
   have H5 := aS (Rn.Js.step hM.out hb5)
   rw [HME.out]
   clear hb5 hM HME q0 q1 q2 q3
   by_cases hm : X.f1 < 0
   ·rw [decide_eq_true hm]
    have HL2 := aS (show V = usdE a1 a2 e out (l0.drop (i + 1).toNat) by rw [HL.out, usdE_skip (.inl hm)])
    clear HL hm
    go_wp2_with fail
    go_roundg k1
    case measure => omega
    case rel => exact ⟨out, e, i + 1, rfl, by rw [hwi], ⟨HN.out.1.1, HN.out.1.2, HN.out.2.1, HN.out.2.2.2.2⟩, HL2, H5⟩
   rw [decide_eq_false hm]
   obtain ⟨c0, c1, c2, c3⟩ := HQ.out w5 H5.out.below
   by_cases hz : X.f2 = 0
   ·have hzb : decide (X.f2 > 0) = false := decide_eq_false (by omega)
    have HL2 := aS (show V = usdE a1 a2 e out (l0.drop (i + 1).toNat) by rw [HL.out, usdE_skip (.inr hz)])
    clear HL hm hz
    go_wp2_with fail
    go_roundg k1
    case measure => omega
    case rel => exact ⟨out, e, i + 1, rfl, by rw [hwi], ⟨HN.out.1.1, HN.out.1.2, HN.out.2.1, HN.out.2.2.2.2⟩, HL2, H5⟩
   have hzb : decide (X.f2 > 0) = true := decide_eq_true (by have := HJ.out.2.1.1; omega)
   obtain ⟨⟨o2, e2⟩, hAV⟩ : ∃ r, Rn.addV out (qq X.f1 a2) (qq X.f1 a2 + qq X.f0 a1 * qq X.f2 X.f3) e = r := ⟨_, rfl⟩
   have HAD := aS (fun W v v' (h1 : Js w2 W u9 out) h2 h3 => addedM w2 W u9 v v' out (qq X.f1 a2) (qq X.f1 a2 + qq X.f0 a1 * qq X.f2 X.f3) 3 10 e h1 h2 h3 (by decide) (by decide) HN.out.2.2.2.1)
   have HAL := addV_len out (qq X.f1 a2) (qq X.f1 a2 + qq X.f0 a1 * qq X.f2 X.f3) e
   have hl := HL.out
   rw [usdE_step hm hz] at hl
   rw [hAV] at HAD HAL hl
   have HL2 := aS (show V = usdE a1 a2 e2 o2 (l0.drop (i + 1).toNat) from hl)
   have HLN := aS (show o2.length ≤ (i + 1).toNat ∧ (e2 = 0 ∨ e2 = 2) from ⟨by have := HN.out.2.2.1; have h2 : o2.length ≤ out.length + 1 := HAL; omega, by
    have h3 := congrArg Prod.snd hAV
    unfold Rn.addV at h3
    split at h3
    ·exact .inl h3.symm
    exact .inr h3.symm⟩)
   clear HL hm hz hAV HAL hl
   go_upto_region 9 with fail
   clear c0 c1 c2 c3
   have hb0 : Below w5.heap.size w5 w5.drew := below_drew' (Below.refl _ _)
   have HSP := aS (fun W (hb : Below w5.heap.size w5 W) => HQ.out W (H5.out.below.trans (hb.mono H5.out.below.size)))
   refine start_ (n := 28) (S := fun w' => w'.cell? (ad.add (i.toNat * 4)) = some (.int .i64 X.f0) ∧ w'.cell? ⟨(ad.add (i.toNat * 4)).block, (ad.add (i.toNat * 4)).off + 1, none⟩ = some (.int .i64 X.f1) ∧ w'.cell? ⟨(ad.add (i.toNat * 4)).block, (ad.add (i.toNat * 4)).off + 2, none⟩ = some (.int .i64 X.f2) ∧ w'.cell? ⟨(ad.add (i.toNat * 4)).block, (ad.add (i.toNat * 4)).off + 3, none⟩ = some (.int .i64 X.f3)) (ds := [22]) (bs 28 0) (by kernel_rfl) rfl rfl ⟨(HSP.out _ hb0).1, (HSP.out _ hb0).2.1, (HSP.out _ hb0).2.2.1, (HSP.out _ hb0).2.2.2⟩ (fun hHeld => ?_)
   refine zP 0 39 28 1 ?_
   refine zP 1 40 28 3 ?_
   refine zP 2 41 28 7 ?_
   refine zP 3 42 28 15 ?_
   refine zP 4 43 28 31 ?_
   refine zP 6 45 28 95 ?_
   refine zP 8 47 28 351 ?_
   refine zP 9 48 28 863 ?_
   refine zP 10 49 28 1887 ?_
   refine zP 12 51 28 5983 ?_
   refine zP 13 52 28 14175 ?_
   refine zP 14 53 28 30559 ?_
   refine zP 15 54 28 63327 ?_
   refine zP 16 55 28 128863 ?_
   refine zP 18 57 28 391007 ?_
   refine zP 21 60 28 2488159 ?_
   refine zT 5 44 28 2488191 hHeld ?_
   refine zT 11 50 28 2490239 hHeld ?_
   refine zT 17 56 28 2621311 hHeld ?_
   refine zN 7 (some 46) 28 2621439 (fun K hK => ?_)
   refine zG Tryz.func69 #[.int .i64 X.f1, .int .i64 a2] ?_
   with_reducible refine (ratioM X.f1 a2 w5.drew HJ.out.1.2.1 HJ.out.1.2.2 (by have := HI.out; omega) (by have := HI.out; omega)).mono ?_
   rintro en w7 ⟨v7, rfl, hb7, hm7⟩
   refine ⟨_, rfl, ?_⟩
   have H7 := aS (And.intro hm7 (below_drew' hb7))
   clear hb7 hm7
   refine hK.out _ _ ⟨(HSP.out _ H7.out.2).1, (HSP.out _ H7.out.2).2.1, (HSP.out _ H7.out.2).2.2.1, (HSP.out _ H7.out.2).2.2.2⟩ (fun hHeld => ?_)
   clear hK K
   refine zM 46 ?_
   refine zN 19 (some 58) 28 3145727 (fun K hK => ?_)
   refine zG Tryz.func69 #[.int .i64 X.f0, .int .i64 a1] ?_
   with_reducible refine (ratioM X.f0 a1 w7 HJ.out.1.1.1 HJ.out.1.1.2 HI.out.1.1 HI.out.1.2).mono ?_
   rintro en w8 ⟨v8, rfl, hb8, hm8⟩
   refine ⟨_, rfl, ?_⟩
   have H8 := aS (And.intro (H7.out.1.below hb8) (And.intro hm8 (H7.out.2.trans (hb8.mono H7.out.2.size))))
   clear hb8 hm8
   refine hK.out _ _ ⟨(HSP.out _ H8.out.2.2).1, (HSP.out _ H8.out.2.2).2.1, (HSP.out _ H8.out.2.2).2.2.1, (HSP.out _ H8.out.2.2).2.2.2⟩ (fun hHeld => ?_)
   clear hK K
   refine zM 58 ?_
   refine zN 20 (some 59) 28 4194303 (fun K hK => ?_)
   refine zG Tryz.func77 #[.agg #[.int .i64 X.f0, .int .i64 X.f1, .int .i64 X.f2, .int .i64 X.f3], .int .i64 a2, v8] ?_
   with_reducible refine (mediaM X.f0 X.f1 X.f2 X.f3 a2 v8 (qq X.f0 a1) 3 w8 HJ.out.2.1.1 HJ.out.2.1.2 HJ.out.2.2.1 HJ.out.2.2.2 HJ.out.1.2.1 HJ.out.1.2.2 HI.out.2.1 HI.out.2.2 H8.out.2.1 (by decide)).mono ?_
   rintro en w9 ⟨v9, rfl, hb9, hm9⟩
   refine ⟨_, rfl, ?_⟩
   have H9 := aS (And.intro (H8.out.1.below hb9) (And.intro hm9 (H8.out.2.2.trans (hb9.mono H8.out.2.2.size))))
   clear hb9 hm9
   refine hK.out _ _ ⟨(HSP.out _ H9.out.2.2).1, (HSP.out _ H9.out.2.2).2.1, (HSP.out _ H9.out.2.2).2.2.1, (HSP.out _ H9.out.2.2).2.2.2⟩ (fun hHeld => ?_)
   clear hK K
   refine zM 59 ?_
   refine zL 22 (some 61) 28 8388607 (fun K hK => ?_)
   refine zG Tryz.func72 #[u9, v7, v9, .int .i64 e] ?_
   with_reducible refine (HAD.out w9 v7 v9 (Rn.Js.step H5.out H9.out.2.2) H9.out.1 H9.out.2.1).mono ?_
   rintro en w10 ⟨v10, rfl, hj⟩
   refine ⟨_, rfl, ?_⟩
   have HJ10 := aS hj
   clear hj
   refine hK.out _ _ ?_
   clear hK K
   refine zM 61 ?_
   refine zP 23 38 28 16777215 ?_
   refine zP 24 62 28 33554431 ?_
   refine zP 25 63 28 67108863 ?_
   refine zP 26 9 28 134217727 ?_
   refine zP 27 8 28 268435455 ?_
   refine done_ (by kernel_rfl) ?_
   clear hb0 H7 H8 H9 HSP HAD H5
   go_wp2_with fail
   go_roundg k1
   case measure => omega
   case rel => exact ⟨o2, e2, i + 1, rfl, by rw [hwi], ⟨HN.out.1.1, HN.out.1.2, HLN.out.1, HLN.out.2⟩, HL2, HJ10⟩
  have hlb : decide (i < (l0.length : Int)) = false := decide_eq_false hlt
  have HV4 := aS (show V = usdE a1 a2 e out [] by
   rw [hL.out, List.drop_of_length_le (by have := hi.out; omega)])
  have HE := aS hi.out.2.2.2
  have HN := aS (show out.length ≤ 400 by have := hi.out; have := HC.out.2.1; omega)
  obtain ⟨A4, c4, e4⟩ := Kd.R_slice hM.out.r
  subst e4
  replace hlt := eq_false hlt
  have HB := aS (HB2.out.trans (hM.out.below.mono HB2.out.size))
  clear hi hL
  by_cases h0 : e = 0
  ·have h0b : (e != 0) = false := by simpa using h0
   have HV5 := aS (show V = clnV out by rw [HV4.out]; exact if_pos h0)
   clear h0 HV4
   go_wp2_with fail
   refine (rclean_n A4 c4 out wr (Kd.R_reads' hM.out.r).2.2 (Kd.R_reads' hM.out.r).2.1 HN.out).mono ?_
   rintro en w5 ⟨v, rfl, hr5, hb5⟩
   have HJ := aS (And.intro (Kd.R_lower hr5 HB.out.size) (HB.out.trans (hb5.mono HB.out.size)))
   rw [← HV5.out] at HJ ⊢
   clear hr5 hb5 HV5
   go_wp2_with fail
   go_ret2
   exact ⟨_, rfl, HJ.out.1, HJ.out.2⟩
  have h0b : (e != 0) = true := bne_iff_ne.mpr h0
  have HV5 := aS (show V = ([], e) by rw [HV4.out, HE.out.resolve_left h0]; exact if_neg (by decide))
  clear h0 HV4
  go_wp2_with fail
  go_ret2
  rw [HV5.out]
  exact ⟨_, rfl, Kd.R_nil _ _ _ _ _, HB.out⟩
end Go.Proofs.YtekommcfpjonmaaGreat.Uz
namespace Go.Proofs.YtekommcfpjonmaaGreat.Aw
open RowKit Go YtekommcfpjonmaaGreatW.PrintWords YtekommcfpjonmaaGreatW.PrintLast YtekommcfpjonmaaGreatW.PrintMore Mn Nd Z Rf Er Ek Et E Pe
theorem infoE : (Tryz.prog.info? 67).map (fun i => (i.zero, i.size, i.bytes)) = some (some (.agg #[(.int .i64 0), (.int .i64 0), (.int .i64 0), (.int .i64 0)]), 4, 32) := by kernel_rfl
theorem low1 (d m : Int) (w : World) : Calls Tryz.prog 149 #[.agg #[.int .i64 d, .int .i64 m, .int .i64 1, .int .i64 1]] w (ValP w (.agg #[.int .i64 d, .int .i64 m, .int .i64 1, .int .i64 1])) := by
 have h := lowest_n d m 1 1 w (by decide) (by decide) (by decide) (by decide)
 have e1 : (qq 1 1).num = 1 := by decide
 have e2 : ((qq 1 1).den : Int) = 1 := by decide
 rw [e1, e2] at h
 exact h
theorem over1 (w : World) : Calls Tryz.prog 150 #[.agg #[.int .i64 10, .int .i64 10], .agg #[.int .i64 10, .int .i64 0, .int .i64 1, .int .i64 1], .agg #[.int .i64 5, .int .i64 10, .int .i64 1, .int .i64 1]] w (ValP w (.bool true)) := by
 have h := over_n 10 10 10 0 1 1 5 10 1 1 w ⟨⟨by decide, by decide⟩, by decide⟩ ⟨by decide, by decide⟩ ⟨by decide, by decide⟩ ⟨by decide, by decide⟩ ⟨⟨by decide, by decide⟩, by decide⟩ ⟨by decide, by decide⟩ ⟨by decide, by decide⟩
 have e : overB 10 10 10 0 1 1 10 1 1 = true := by decide +kernel
 rw [e] at h
 exact h
def exO : Obj := .cells #[.int .i64 10, .int .i64 0, .int .i64 1, .int .i64 1, .int .i64 5, .int .i64 10, .int .i64 1, .int .i64 1] 67 (0, 0)
structure Sa (w W : World) (g : Nat) (v : Value) (x : List Ed) : Prop where
 i : W.heap[g]? = some exO
 c : W.heap[w.heap.size]? = some (clO 10 10)
 below : Below w.heap.size w W
 r : Kd.R k67 67 W w.heap.size (fun k => k ≠ w.heap.size) v x
theorem Sa.step {w W W2 : World} {g : Nat} {v : Value} {x : List Ed} (h : Sa w W g v x) (hb : Below W.heap.size W W2) : Sa w W2 g v x := ⟨blk_below h.i hb, blk_below h.c hb, h.below.trans (hb.mono h.below.size), Kd.R_below h.r hb⟩
structure Sb (w W : World) (g : Nat) (v : Value) (x : List Ed) (G : Nat) (d m n e : Int) : Prop where
 s : Sa w W g v x
 b : W.heap[G]? = some (edO d m n e)
 far : G ≠ w.heap.size ∧ G ≠ g ∧ w.heap.size ≤ G ∧ ∀ k, v.ownBlock = some k → k ≠ G
theorem Sb.step {w W W2 : World} {g : Nat} {v : Value} {x : List Ed} {G : Nat} {d m n e : Int} (h : Sb w W g v x G d m n e) (hb : Below W.heap.size W W2) : Sb w W2 g v x G d m n e := ⟨h.s.step hb, blk_below h.b hb, h.far⟩
theorem Sb.start {w W : World} {g : Nat} {v : Value} {x : List Ed} (d m n e : Int) (h : Sa w W g v x) (hg : g < w.heap.size) : Sb w (W.alloc (edO d m n e)) g v x W.heap.size d m n e := by
 have h1 := h.below.size
 have h2 := lt_of_some h.c
 refine ⟨h.step (below_alloc (Below.refl _ W) _), blk_new W _, by omega, by omega, by omega, fun k hk => ?_⟩
 have h3 := (Kd.R_bound h.r).1 k hk
 have := h3.2.2.1
 omega
theorem Sb.put {w W : World} {g : Nat} {v : Value} {x : List Ed} {G : Nat} {d m n e : Int} (h : Sb w W g v x G d m n e) : Sb w ((((W.setCell ⟨G, 0, none⟩ (.int .i64 d)).setCell ⟨G, 1, none⟩ (.int .i64 m)).setCell ⟨G, 2, none⟩ (.int .i64 n)).setCell ⟨G, 3, none⟩ (.int .i64 e)) g v x G d m n e := by
 have hk : ∀ k, k ≠ G → ((((W.setCell ⟨G, 0, none⟩ (.int .i64 d)).setCell ⟨G, 1, none⟩ (.int .i64 m)).setCell ⟨G, 2, none⟩ (.int .i64 n)).setCell ⟨G, 3, none⟩ (.int .i64 e)).heap[k]? = W.heap[k]? := fun k hk => by
  rw [Below.heap_setCell _ _ _ _ hk, Below.heap_setCell _ _ _ _ hk, Below.heap_setCell _ _ _ _ hk, Below.heap_setCell _ _ _ _ hk]
 have h3 := Kd.R_bound h.s.r
 refine ⟨⟨(hk _ (fun he => h.far.2.1 he.symm)).trans h.s.i, (hk _ (fun he => h.far.1 he.symm)).trans h.s.c, (((h.s.below.setCell h.far.2.2.1 _).setCell h.far.2.2.1 _).setCell h.far.2.2.1 _).setCell h.far.2.2.1 _, ?_⟩, Ek.blk_four h.b, h.far⟩
 have h4 : Kd.R k67 67 W w.heap.size (fun k => k ≠ w.heap.size ∧ k ≠ G) v x := ⟨fun k hk => ⟨h.s.r.1 k hk, h.far.2.2.2 k hk⟩, h.s.r.2⟩
 exact Kd.R_mono (Kd.R_step h4 (fun k hk' _ => hk k hk'.2)) (fun k hk => hk.1)
theorem Sa.grow {w W W2 : World} {g : Nat} {v v2 : Value} {x y : List Ed} (h : Sa w W g v x) (hg : W.grownBy W2 v.ownBlock) (ho : Kd.R k67 67 W2 w.heap.size (fun k => k ≠ w.heap.size) v2 y) (hb : Below w.heap.size w W2) (hlt : g < w.heap.size) : Sa w W2 g v2 y :=
 ⟨blk_grown h.i hg (fun he => by have := (Kd.R_bound h.r).1 _ he.symm; have := this.2.1; omega), blk_grown h.c hg (fun he => h.r.1 _ he.symm rfl), hb, ho⟩
theorem one_at {W : World} {base : Nat} {ok : Nat → Prop} {g c : Nat} {x : Ed} (h : Kd.R k67 67 W base ok (.slice (some ⟨g, 0, none⟩) [x].length c) [x]) : W.cell? ⟨g, 0, none⟩ = some (.int .i64 x.f0) ∧ W.cell? ⟨g, 1, none⟩ = some (.int .i64 x.f1) ∧ W.cell? ⟨g, 2, none⟩ = some (.int .i64 x.f2) ∧ W.cell? ⟨g, 3, none⟩ = some (.int .i64 x.f3) := by
 obtain ⟨ad1, e1, a0, a1, a2, a3⟩ := at_T67 (Kd.R_reads' h).2.2 0 (by omega) (by simp)
 cases e1
 exact ⟨a0, a1, a2, a3⟩
theorem Sa.free {w W : World} {g g6 c6 : Nat} {x : Ed} (h : Sa w W g (.slice (some ⟨g6, 0, none⟩) [x].length c6) [x]) : W.frozen? ⟨g6, 0, none⟩ = false := by
 obtain ⟨g', c', e1, _, _, cs, hcs⟩ := Kd.R_form h.r (by simp)
 simp only [Value.slice.injEq, Option.some.injEq, Addr.mk.injEq] at e1
 rw [← e1.1.1] at hcs
 exact blk_frozen hcs 0
theorem Sa.dur {w W : World} {g g6 c6 : Nat} (h : Sa w W g (.slice (some ⟨g6, 0, none⟩) ([⟨10, 0, 1, 1⟩] : List Ed).length c6) [⟨10, 0, 1, 1⟩]) (h6 : w.heap.size ≤ g6) (hg : g < w.heap.size) : Sa w (W.setCell ⟨g6, 0, none⟩ (.int .i64 15)) g (.slice (some ⟨g6, 0, none⟩) ([⟨15, 0, 1, 1⟩] : List Ed).length c6) [⟨15, 0, 1, 1⟩] := by
 obtain ⟨a0, a1, a2, a3⟩ := one_at h.r
 have hk := Kd.R_seg h.r 0 (by omega) (by decide) (c := [.int .i64 10, .int .i64 0, .int .i64 1, .int .i64 1]) (seg := [.int .i64 15]) (j := 0) rfl (fun j u hu => by
  have hj : j < 4 := (List.getElem?_eq_some_iff.1 hu).1
  match j, hj, hu with
  | 0, _, hu => cases hu; exact a0
  | 1, _, hu => cases hu; exact a1
  | 2, _, hu => cases hu; exact a2
  | 3, _, hu => cases hu; exact a3) (by decide) (x' := ⟨15, 0, 1, 1⟩) (okp := fun _ => False) (k67_mkM W w.heap.size (fun _ => False) ⟨15, 0, 1, 1⟩) (fun _ h => h.elim)
 exact h.grow hk.2 hk.1 (h.below.setCell h6 _) hg
theorem norm1_n (g : Nat) (w : World) (hg : w.heap[g]? = some exO) :
  Calls Tryz.prog 106 #[.agg #[.int .i64 10, .int .i64 10], .slice (some ⟨g, 0, none⟩) 2 2] w (fun e w' => ∃ v, e = .returned (.tuple #[v, .int .i64 0]) ∧ Kd.R k67 67 w' w.heap.size (fun _ => True) v [⟨15, 0, 1, 1⟩] ∧ Below w.heap.size w w') := by
 have hu := Tryz.underlying67
 have hu2 := Tryz.underlying114
 have HG := aS (lt_of_some hg)
 have hS := aS (show Sa w (w.alloc (clO 10 10)) g (.slice none 0 0) [] from ⟨blk_alloc hg _, blk_new w _, below_alloc (Below.refl _ w) _, Kd.R_nil _ _ _ _ _⟩)
 clear hg
 go_enter Tryz.func106, Tryz.ntmps106
 go_wp2_with fail
 generalize hW : World.alloc w _ = W
 have HS := aS (show Sa w W g (.slice none 0 0) [] by rw [← hW]; exact hS.out)
 clear hW hS
 go_step3
 go_wp2
 go_step3
 go_wp2
 go_loopg [6, 7, 13] 2 (fun kq v6 v7 v13 w' => ∃ (x : List Ed) (n i : Int), v7 = .int .i64 n ∧ v13 = .int .i64 i ∧ Aside0 (Sa w w' g v6 x) ∧ Aside0 ((i = 0 ∧ n = 0 ∧ x = [] ∧ kq = 2) ∨ (i = 1 ∧ n = 10 ∧ x = [⟨10, 0, 1, 1⟩] ∧ kq = 1) ∨ (i = 2 ∧ n = 15 ∧ x = [⟨15, 0, 1, 1⟩] ∧ kq = 0)))
 case atStart => exact ⟨[], 0, 0, rfl, rfl, HS, ⟨.inl ⟨rfl, rfl, rfl, rfl⟩⟩⟩
 case round =>
  clear HS
  obtain ⟨x, n, i, rfl, rfl, hM, hi⟩ := hrel
  rcases hi.out with ⟨rfl, rfl, rfl, rfl⟩ | ⟨rfl, rfl, rfl, rfl⟩ | ⟨rfl, rfl, rfl, rfl⟩
  ·have i0 : wr.cell? ⟨g, 0, none⟩ = some (.int .i64 10) := (blk_cell hM.out.i 0).trans rfl
   have i1 : wr.cell? ⟨g, 1, none⟩ = some (.int .i64 0) := (blk_cell hM.out.i 1).trans rfl
   have i2 : wr.cell? ⟨g, 2, none⟩ = some (.int .i64 1) := (blk_cell hM.out.i 2).trans rfl
   have i3 : wr.cell? ⟨g, 3, none⟩ = some (.int .i64 1) := (blk_cell hM.out.i 3).trans rfl
   obtain ⟨A6, c6, e6⟩ := Kd.R_slice hM.out.r
   subst e6
   have hB := aS (Sb.start 10 0 1 1 hM.out HG.out)
   clear hi
   go_upto_region 6 with fail
   generalize hW1 : World.alloc wr _ = W1
   have HB := aS (show Sb w W1 g (.slice A6 ([] : List Ed).length c6) [] wr.heap.size 10 0 1 1 by rw [← hW1]; exact hB.out)
   clear hW1 hB hM i0 i1 i2 i3
   generalize wr.heap.size = G at *
   obtain ⟨b0, b1, b2, b3⟩ := ed_cells HB.out.b
   go_wp2_with fail
   refine (low1 10 0 W1).mono ?_
   rintro e w3 ⟨rfl, hb3⟩
   have HB3 := aS (HB.out.step hb3)
   clear hb3 HB b0 b1 b2 b3
   obtain ⟨b0, b1, b2, b3⟩ := ed_cells HB3.out.b
   obtain ⟨f0, f1, f2, f3⟩ := ed_free HB3.out.b
   have HB4 := aS HB3.out.put
   clear HB3
   go_upto_region 7 with fail
   generalize hW4 : World.setCell (World.setCell (World.setCell (World.setCell w3 _ _) _ _) _ _) _ _ = W4
   have HB5 := aS (show Sb w W4 g (.slice A6 ([] : List Ed).length c6) [] G 10 0 1 1 by rw [← hW4]; exact HB4.out)
   clear hW4 HB4 b0 b1 b2 b3 f0 f1 f2 f3
   obtain ⟨b0, b1, b2, b3⟩ := ed_cells HB5.out.b
   go_wp2_with fail
   refine wp_loop_rounds 1 ?_
   rw [rounds_succ]
   go_upto_region 11 with fail
   have hb0 : Below W4.heap.size W4 W4.drew := below_drew' (Below.refl _ _)
   refine start_ (n := 12) (S := fun w' => w'.cell? ⟨G, 0, none⟩ = some (.int .i64 10)) (ds := []) (bs 12 0) (by kernel_rfl) rfl rfl (ed_cells (HB5.out.step hb0).b).1 (fun hHeld => ?_)
   refine zP 0 27 12 1 ?_
   refine zP 1 28 12 3 ?_
   refine zP 2 29 12 7 ?_
   refine zO 3 30 12 15 ?_
   refine zO 4 31 12 31 ?_
   refine zO 5 32 12 63 ?_
   refine zO 6 33 12 127 ?_
   refine zO 7 34 12 255 ?_
   refine zO 8 35 12 511 ?_
   refine zO 9 36 12 1023 ?_
   refine zO 10 37 12 2047 ?_
   refine zP 11 38 12 4095 ?_
   refine done_ (by kernel_rfl) ?_
   have HB6 := aS (HB5.out.step hb0)
   clear hHeld hb0 HB5 b0 b1 b2 b3
   generalize W4.drew = W5 at *
   obtain ⟨b0, b1, b2, b3⟩ := ed_cells HB6.out.b
   have HR := aS (show Kd.R k67 67 W5 w.heap.size (fun k => k ≠ w.heap.size) (.slice A6 0 c6) [] from HB6.out.s.r)
   go_wp2_with (first | ((with_reducible refine gate_builtin (b := .append) (xs := #[.tmp 50, .tmp 52]) rfl ?_); at_builtin; refine Kd.R_append k67 (w0 := w) w.heap.size rfl (.tmp 50) (.tmp 52) 41 67 (.agg #[(.int .i64 0), (.int .i64 0), (.int .i64 0), (.int .i64 0)]) 32 rfl Tryz.underlying41 infoE rfl (by decide) (by omega) (.slice A6 0 c6) [] (⟨10, 0, 1, 1⟩ : Ed) [.int .i64 10, .int .i64 0, .int .i64 1, .int .i64 1] (fun k => k ≠ w.heap.size) (fun _ => False) rfl (by first | (go_simp; done) | (go_simp; rfl)) (k67_mkM _ _ _ (⟨10, 0, 1, 1⟩ : Ed)) (fun _ hk => hk.elim) (fun k hk he => by have := lt_of_some HB6.out.s.c; omega) HR.out HB6.out.s.below HB6.out.s.below.size (by simp only [List.length_nil]; omega) ?_; intro v9 w9' ho hb hg hat; have HS6 := aS (HB6.out.s.grow hg ho hb HG.out); clear ho hb hg hat))
   go_roundg 1
   case measure => omega
   case rel => exact ⟨[⟨10, 0, 1, 1⟩], 10, 1, rfl, rfl, HS6, ⟨.inr (.inl ⟨rfl, rfl, rfl, rfl⟩)⟩⟩
  ·have i0 : wr.cell? ⟨g, 4, none⟩ = some (.int .i64 5) := (blk_cell hM.out.i 4).trans rfl
   have i1 : wr.cell? ⟨g, 5, none⟩ = some (.int .i64 10) := (blk_cell hM.out.i 5).trans rfl
   have i2 : wr.cell? ⟨g, 6, none⟩ = some (.int .i64 1) := (blk_cell hM.out.i 6).trans rfl
   have i3 : wr.cell? ⟨g, 7, none⟩ = some (.int .i64 1) := (blk_cell hM.out.i 7).trans rfl
   obtain ⟨g6, c6, e6, hg6, hlt6, cs6, hcs6⟩ := Kd.R_form hM.out.r (by decide)
   subst e6
   have hB := aS (Sb.start 5 10 1 1 hM.out HG.out)
   clear hi hcs6
   go_upto_region 6 with fail
   generalize hW1 : World.alloc wr _ = W1
   have HB := aS (And.intro hg6 (show Sb w W1 g (.slice (some ⟨g6, 0, none⟩) ([⟨10, 0, 1, 1⟩] : List Ed).length c6) [⟨10, 0, 1, 1⟩] wr.heap.size 5 10 1 1 by rw [← hW1]; exact hB.out))
   clear hW1 hB hM i0 i1 i2 i3 hg6 hlt6
   generalize wr.heap.size = G at *
   obtain ⟨b0, b1, b2, b3⟩ := ed_cells HB.out.2.b
   go_wp2_with fail
   refine (low1 5 10 W1).mono ?_
   rintro e w3 ⟨rfl, hb3⟩
   have HB3 := aS (And.intro HB.out.1 (HB.out.2.step hb3))
   clear hb3 HB b0 b1 b2 b3
   obtain ⟨b0, b1, b2, b3⟩ := ed_cells HB3.out.2.b
   obtain ⟨f0, f1, f2, f3⟩ := ed_free HB3.out.2.b
   have HB4 := aS (And.intro HB3.out.1 HB3.out.2.put)
   clear HB3
   go_upto_region 7 with fail
   generalize hW4 : World.setCell (World.setCell (World.setCell (World.setCell w3 _ _) _ _) _ _) _ _ = W4
   have HB5 := aS (show w.heap.size ≤ g6 ∧ Sb w W4 g (.slice (some ⟨g6, 0, none⟩) ([⟨10, 0, 1, 1⟩] : List Ed).length c6) [⟨10, 0, 1, 1⟩] G 5 10 1 1 by rw [← hW4]; exact HB4.out)
   clear hW4 HB4 b0 b1 b2 b3 f0 f1 f2 f3
   obtain ⟨b0, b1, b2, b3⟩ := ed_cells HB5.out.2.b
   have hlen : ([⟨10, 0, 1, 1⟩] : List Ed).length = 1 := rfl
   have hw0 : wrap64 0 = 0 := w64 (by omega) (by omega)
   go_wp2_with fail
   refine wp_loop_rounds 1 ?_
   rw [rounds_succ]
   go_upto_region 11 with fail
   clear b0 b1 b2 b3
   have hb0 : Below W4.heap.size W4 W4.drew := below_drew' (Below.refl _ _)
   have HQ := aS (fun W (hb : Below W4.heap.size W4 W) => And.intro (cl_cells (HB5.out.2.step hb).s.c) (And.intro (one_at (HB5.out.2.step hb).s.r) (ed_cells (HB5.out.2.step hb).b)))
   refine start_ (n := 12) (S := fun w' => w'.cell? ⟨w.heap.size, 0, none⟩ = some (.int .i64 10) ∧ w'.cell? ⟨w.heap.size, 1, none⟩ = some (.int .i64 10) ∧ w'.cell? ⟨g6, 0, none⟩ = some (.int .i64 10) ∧ w'.cell? ⟨g6, 1, none⟩ = some (.int .i64 0) ∧ w'.cell? ⟨g6, 2, none⟩ = some (.int .i64 1) ∧ w'.cell? ⟨g6, 3, none⟩ = some (.int .i64 1) ∧ w'.cell? ⟨G, 0, none⟩ = some (.int .i64 5) ∧ w'.cell? ⟨G, 1, none⟩ = some (.int .i64 10) ∧ w'.cell? ⟨G, 2, none⟩ = some (.int .i64 1) ∧ w'.cell? ⟨G, 3, none⟩ = some (.int .i64 1)) (ds := []) (bs 12 0) (by kernel_rfl) rfl rfl ⟨(HQ.out _ hb0).1.1, (HQ.out _ hb0).1.2, (HQ.out _ hb0).2.1.1, (HQ.out _ hb0).2.1.2.1, (HQ.out _ hb0).2.1.2.2.1, (HQ.out _ hb0).2.1.2.2.2, (HQ.out _ hb0).2.2.1, (HQ.out _ hb0).2.2.2.1, (HQ.out _ hb0).2.2.2.2.1, (HQ.out _ hb0).2.2.2.2.2⟩ (fun hHeld => ?_)
   refine zP 0 27 12 1 ?_
   refine zP 1 28 12 3 ?_
   refine zP 2 29 12 7 ?_
   refine zP 4 31 12 23 ?_
   refine zP 5 32 12 55 ?_
   refine zP 6 33 12 119 ?_
   refine zP 7 34 12 247 ?_
   refine zT 3 30 12 255 hHeld ?_
   refine zT 8 35 12 511 hHeld ?_
   refine zT 9 36 12 1023 hHeld ?_
   refine zN 10 (some 37) 12 2047 (fun K hK => ?_)
   refine zG Tryz.func150 #[.agg #[.int .i64 10, .int .i64 10], .agg #[.int .i64 10, .int .i64 0, .int .i64 1, .int .i64 1], .agg #[.int .i64 5, .int .i64 10, .int .i64 1, .int .i64 1]] ?_
   with_reducible refine (over1 W4.drew).mono ?_
   rintro e w5 ⟨rfl, hb5⟩
   refine ⟨_, rfl, ?_⟩
   have H5 := aS (below_drew' hb5)
   clear hb5
   refine hK.out _ _ ⟨(HQ.out _ H5.out).1.1, (HQ.out _ H5.out).1.2, (HQ.out _ H5.out).2.1.1, (HQ.out _ H5.out).2.1.2.1, (HQ.out _ H5.out).2.1.2.2.1, (HQ.out _ H5.out).2.1.2.2.2, (HQ.out _ H5.out).2.2.1, (HQ.out _ H5.out).2.2.2.1, (HQ.out _ H5.out).2.2.2.2.1, (HQ.out _ H5.out).2.2.2.2.2⟩ (fun hHeld => ?_)
   clear hK K
   refine zM 37 ?_
   refine zP 11 38 12 4095 ?_
   refine done_ (by kernel_rfl) ?_
   have HB6 := aS (And.intro HB5.out.1 (HB5.out.2.step H5.out))
   clear hHeld hb0 HB5 HQ H5
   go_upto_region 12 with fail
   have hb0 : Below w5.heap.size w5 w5.drew := below_drew' (Below.refl _ _)
   have HB7 := aS (And.intro HB6.out.1 (HB6.out.2.step hb0))
   clear HB6
   obtain ⟨o0, o1, o2, o3⟩ := one_at HB7.out.2.s.r
   obtain ⟨b0, b1, b2, b3⟩ := ed_cells HB7.out.2.b
   have hw15 : wrap64 15 = 15 := w64 (by omega) (by omega)
   refine start_ (n := 12) (S := fun w' => w'.cell? ⟨g6, 0, none⟩ = some (.int .i64 10) ∧ w'.cell? ⟨G, 0, none⟩ = some (.int .i64 5)) (ds := [11]) (bs 12 0) (by kernel_rfl) rfl rfl ⟨o0, b0⟩ (fun hHeld => ?_)
   refine zP 0 39 12 1 ?_
   refine zP 1 40 12 3 ?_
   refine zP 2 41 12 7 ?_
   refine zP 3 42 12 15 ?_
   refine zP 4 43 12 31 ?_
   refine zP 6 45 12 95 ?_
   refine zT 5 44 12 127 hHeld ?_
   refine zT 7 46 12 255 hHeld ?_
   refine zP 8 47 12 511 ?_
   refine zP 9 48 12 1023 ?_
   refine zP 10 49 12 2047 ?_
   refine zL 11 none 12 4095 (fun K hK => ?_)
   have ff : w5.drew.frozen? ⟨g6, 0, none⟩ = false := (Sa.free HB7.out.2.s)
   refine skip_ (w1 := w5.drew.setCell ⟨g6, 0, none⟩ (.int .i64 15)) (by simp only [hw15]; rfl) rfl ?_ ?_
   ·(go_simp; first | done | with_reducible rfl)
   refine hK.out _ _ ?_
   clear hK K
   refine done_ (by kernel_rfl) ?_
   have HS8 := aS (HB7.out.2.s.dur HB7.out.1 HG.out)
   clear HB7 hb0 o0 o1 o2 o3 b0 b1 b2 b3
   go_wp2_with fail
   go_roundg 0
   case measure => omega
   case rel => exact ⟨[⟨15, 0, 1, 1⟩], 15, 2, rfl, rfl, HS8, ⟨.inr (.inr ⟨rfl, rfl, rfl, rfl⟩)⟩⟩
  obtain ⟨A6, c6, e6⟩ := Kd.R_slice hM.out.r
  subst e6
  have hlen : ([⟨15, 0, 1, 1⟩] : List Ed).length = 1 := rfl
  clear hi
  go_wp2_with fail
  (try rw [Exit.noGoto_ret])
  go_ret2
  exact ⟨_, rfl, Kd.R_mono hM.out.r (fun _ _ => trivial), hM.out.below⟩
def exL : List Ed := [⟨10, 0, 1, 1⟩, ⟨5, 10, 1, 1⟩]
theorem chk_ex : chk exL 10 10 = 0 := by decide +kernel
theorem exC {W : World} {g : Nat} (h : W.heap[g]? = some exO) : Kd.C k67 W (some ⟨g, 0, none⟩) exL.length exL := by
 have key : ∀ n, n < 8 → W.cell? ((⟨g, 0, none⟩ : Addr).add n) = ([.int .i64 10, .int .i64 0, .int .i64 1, .int .i64 1, .int .i64 5, .int .i64 10, .int .i64 1, .int .i64 1] : List Value)[n]? := fun n hn => by
  match n, hn with
  | 0, _ => exact (blk_cell h 0).trans rfl
  | 1, _ => exact (blk_cell h 1).trans rfl
  | 2, _ => exact (blk_cell h 2).trans rfl
  | 3, _ => exact (blk_cell h 3).trans rfl
  | 4, _ => exact (blk_cell h 4).trans rfl
  | 5, _ => exact (blk_cell h 5).trans rfl
  | 6, _ => exact (blk_cell h 6).trans rfl
  | 7, _ => exact (blk_cell h 7).trans rfl
 have four : ∀ (i : Nat) (u : Value) (cs : List Value), cs.length = 4 → cs[i]? = some u → i < 4 := fun i u cs hc hi => by
  have := (List.getElem?_eq_some_iff.1 hi).1
  omega
 refine ⟨rfl, by decide, fun _ => ⟨⟨g, 0, none⟩, rfl, fun j p hj => ?_⟩⟩
 match j, hj with
 | 0, hj =>
  obtain rfl := Option.some.inj hj
  refine ⟨[.int .i64 10, .int .i64 0, .int .i64 1, .int .i64 1], rfl, Kd.K_of_M _ (k67_mkM W 0 (fun _ => False) ⟨10, 0, 1, 1⟩), fun i u hu => ?_⟩
  have hi := four i u _ rfl hu
  rw [← hu]
  refine (key (0 * 4 + i) (by omega)).trans ?_
  match i, hi with
  | 0, _ => rfl
  | 1, _ => rfl
  | 2, _ => rfl
  | 3, _ => rfl
 | 1, hj =>
  obtain rfl := Option.some.inj hj
  refine ⟨[.int .i64 5, .int .i64 10, .int .i64 1, .int .i64 1], rfl, Kd.K_of_M _ (k67_mkM W 0 (fun _ => False) ⟨5, 10, 1, 1⟩), fun i u hu => ?_⟩
  have hi := four i u _ rfl hu
  rw [← hu]
  refine (key (1 * 4 + i) (by omega)).trans ?_
  match i, hi with
  | 0, _ => rfl
  | 1, _ => rfl
  | 2, _ => rfl
  | 3, _ => rfl
def Nz (w : World) (e : Ending) (w' : World) : Prop := ∃ v, e = .returned (.tuple #[v, .int .i64 0]) ∧ Kd.R k67 67 w' w.heap.size (fun _ => True) v [⟨15, 0, 1, 1⟩] ∧ Below w.heap.size w w'
theorem norm_n (g : Nat) (w : World) (hg : w.heap[g]? = some exO) : Calls Tryz.prog 57 #[.slice (some ⟨g, 0, none⟩) 2 2, .int .i64 10, .int .i64 10] w (Nz w) := by
 have hu2 := Tryz.underlying114
 have HG := aS hg
 have hc := check_n (some ⟨g, 0, none⟩) 2 exL 10 10 w (exC hg) (by decide)
 rw [chk_ex] at hc
 have HC := aS (show Calls Tryz.prog 58 #[.slice (some ⟨g, 0, none⟩) 2 2, .int .i64 10, .int .i64 10] w (ValP w (.int .i64 0)) from hc)
 clear hc hg
 go_enter Tryz.func57, Tryz.ntmps57
 go_wp2_with fail
 refine HC.out.mono ?_
 rintro e w2 ⟨rfl, hb2⟩
 have H2 := aS (And.intro (blk_below HG.out hb2) hb2)
 clear hb2 HC
 go_wp2_with fail
 refine (norm1_n g w2 H2.out.1).mono ?_
 rintro e w3 ⟨v, rfl, hr, hb3⟩
 have H3 := aS (And.intro (Kd.R_lower hr H2.out.2.size) (H2.out.2.trans (hb3.mono H2.out.2.size)))
 clear hr hb3 H2
 go_wp2_with fail
 go_ret2
 exact ⟨_, rfl, H3.out.1, H3.out.2⟩
theorem awake_n (w : World) : Calls Tryz.prog 29 #[] w (ValP w (.bool true)) := by
 have hu := Tryz.underlying67
 have HX := aS (And.intro (blk_new w exO) (below_alloc (Below.refl w.heap.size w) exO))
 go_enter Tryz.func29, Tryz.ntmps29
 go_wp2_with fail
 generalize hW : World.alloc w _ = W
 have H1 := aS (show W.heap[w.heap.size]? = some exO ∧ Below w.heap.size w W by rw [← hW]; exact HX.out)
 clear hW HX
 refine (norm_n w.heap.size W H1.out.1).mono ?_
 rintro e w2 ⟨v, rfl, hr, hb⟩
 have HB := aS (H1.out.2.trans (hb.mono H1.out.2.size))
 obtain ⟨g6, c6, e6, _⟩ := Kd.R_form hr (by decide)
 subst e6
 obtain ⟨o0, o1, o2, o3⟩ := one_at hr
 have hlen : ([⟨15, 0, 1, 1⟩] : List Ed).length = 1 := rfl
 clear hr hb H1
 go_wp2_with fail
 go_ret
 exact ⟨rfl, HB.out⟩
end Go.Proofs.YtekommcfpjonmaaGreat.Aw
namespace Go.Proofs.YtekommcfpjonmaaGreat.Lw
open RowKit Go YtekommcfpjonmaaGreatW.PrintWords YtekommcfpjonmaaGreatW.PrintLast YtekommcfpjonmaaGreatW.PrintMore Mn Nd Z Rf Er Et E Pe Bk Ub Rn Uz Aw Oe
theorem eqSpans00_f (l : List Spn) (hl : l.length ≤ 1000000) : Ev (fun k => dioramaref00_EqSpans.f k l l) true := by
 have key : ∀ (n : Nat) (i : Int), 0 ≤ i → i + n = l.length → Ev (fun k => dioramaref00_EqSpans.l0 k l l i) true := by
  intro n
  induction n with
  | zero =>
   intro i h0 hi
   exact Ev.step (fun k => by rw [dioramaref00_EqSpans.l0]) (Ev.congr (fun k => if_neg (by omega)) (Ev.now _))
  | succ n ih =>
   intro i h0 hi
   refine Ev.step (fun k => by rw [dioramaref00_EqSpans.l0]) (Ev.congr (fun k => if_pos (by omega)) (Ev.congr (fun k => if_pos h0) (Ev.congr (fun k => if_pos (by omega)) ?_)))
   refine Ev.congr (fun k => if_neg (by simp)) ?_
   exact Ev.congr (fun k => by rw [w64 (by omega) (by omega)]) (ih (i + 1) (by omega) (by omega))
 exact Ev.congr (fun k => if_pos rfl) (key l.length 0 (by omega) (by omega))
theorem eq00_n (A B : Option Addr) (c d : Nat) (l : List Spn) (w : World) (ha : Kd.C k53 w A l.length l) (hc : l.length ≤ c) (hb : Kd.C k53 w B l.length l) (hd : l.length ≤ d) (hl : l.length ≤ 1000000) :
  Calls Tryz.prog 34 #[.slice A l.length c, .slice B l.length d] w (ValP w (.bool true)) := by
 obtain ⟨k, hk⟩ := (eqSpans00_f l hl).rounds
 refine (dioramaref00_EqSpans.calls k A c l B d l true w ha hc hb hd hk).mono ?_
 rintro e w' ⟨rfl, hdr⟩
 exact ⟨rfl, hdr.below⟩
theorem many_n (A : Option Addr) (c : Nat) (l : List Ed) (w : World) (hr : Kd.C k67 w A l.length l) (hc : l.length ≤ c) :
  Calls Tryz.prog 28 #[.slice A l.length c] w (ValP w (.bool (decide ((l.length : Int) > 60)))) := by
 refine (dioramalaw10_many.calls A c l _ w hr hc rfl).mono ?_
 rintro e w' ⟨rfl, hdr⟩
 exact ⟨rfl, by first | exact hdr | exact hdr.below⟩
def lstO (a : Option Addr) (len c : Nat) (ms ts : Int) : Obj := .cells #[.slice a len c, .int .i64 ms, .int .i64 ts] 43 (0, 0)
structure Lb (w W : World) (a : Option Addr) (len c : Nat) (ms ts n d : Int) : Prop where
 a : W.heap[w.heap.size]? = some (lstO a len c ms ts)
 b : W.heap[w.heap.size + 1]? = some (timeObj n d)
 below : Below w.heap.size w W
theorem Lb.step {w W W2 : World} {a : Option Addr} {len c : Nat} {ms ts n d : Int} (h : Lb w W a len c ms ts n d) (hb : Below W.heap.size W W2) : Lb w W2 a len c ms ts n d := ⟨blk_below h.a hb, blk_below h.b hb, h.below.trans (hb.mono h.below.size)⟩
theorem Lb.start (w : World) (a : Option Addr) (len c : Nat) (ms ts n d : Int) : Lb w ((w.alloc (lstO a len c ms ts)).alloc (timeObj n d)) a len c ms ts n d := by
 have e1 : (w.alloc (lstO a len c ms ts)).heap.size = w.heap.size + 1 := by simp
 have k2 := blk_new (w.alloc (lstO a len c ms ts)) (timeObj n d)
 rw [e1] at k2
 exact ⟨blk_alloc (blk_new w _) _, k2, below_alloc (below_alloc (Below.refl w.heap.size w) _) _⟩
theorem Lb.cells {w W : World} {a : Option Addr} {len c : Nat} {ms ts n d : Int} (h : Lb w W a len c ms ts n d) : W.cell? ⟨w.heap.size, 0, none⟩ = some (.slice a len c) ∧ W.cell? ⟨w.heap.size, 1, none⟩ = some (.int .i64 ms) ∧ W.cell? ⟨w.heap.size, 2, none⟩ = some (.int .i64 ts) ∧ W.cell? ⟨w.heap.size + 1, 0, none⟩ = some (.int .i64 n) ∧ W.cell? ⟨w.heap.size + 1, 1, none⟩ = some (.int .i64 d) :=
 ⟨(blk_cell h.a 0).trans rfl, (blk_cell h.a 1).trans rfl, (blk_cell h.a 2).trans rfl, (blk_cell h.b 0).trans rfl, (blk_cell h.b 1).trans rfl⟩
structure Mk (w W : World) (v : Value) (l : List Spn) : Prop where
 r : Kd.R k53 53 W w.heap.size (fun _ => True) v l
theorem Mk.step {w W W2 : World} {v : Value} {l : List Spn} (h : Mk w W v l) (hb : Below W.heap.size W W2) : Mk w W2 v l := ⟨Kd.R_below h.r hb⟩
theorem bckL_len {ms ts : Int} {p : Rat} : ∀ {t : List Ed} {out : List Spn} {b : Int}, (bckL ms ts p out b t).1.length ≤ out.length + t.length
 | [], out, b => by
  show out.length ≤ _
  omega
 | x :: t, out, b => by
  have ih := fun out b => @bckL_len ms ts p t out b
  have i1 := ih out (b + x.f0)
  have i2 := fun u => ih (out ++ [u]) (b + x.f0)
  simp only [List.length_append, List.length_cons, List.length_nil] at i2
  rw [bckL_cons, List.length_cons]
  split
  ·omega
  split
  ·split
   ·split
    ·have := i2 (spn (qq b ms) (qq (b + x.f0) ms))
     omega
    simp
   omega
  split
  ·omega
  split
  ·have := i2 (spn (qq b ms + (p - qq x.f1 ts) * qq x.f3 x.f2) (qq b ms + (p - qq x.f1 ts) * qq x.f3 x.f2))
   omega
  simp
theorem bckV_len {l : List Ed} {ms ts n d : Int} : (bckV l ms ts n d).1.length ≤ l.length := by
 unfold bckV
 split
 ·split
  ·have := @bckL_len ms ts (qq n d) l [] 0
   simpa using this
  simp
 simp
theorem usdL_len {ms ts : Int} : ∀ {t : List Ed} {out r : List Spn}, usdL ms ts out t = some r → r.length ≤ out.length + t.length
 | [], out, r, h => by
  cases h
  simp
 | x :: t, out, r, h => by
  rw [usdL_cons] at h
  split at h
  ·have := usdL_len h
   simp only [List.length_cons]
   omega
  split at h
  ·have := usdL_len h
   simp only [List.length_append, List.length_cons, List.length_nil] at this ⊢
   omega
  cases h
theorem usdV_len {l : List Ed} {ms ts : Int} : (usdV l ms ts).1.length ≤ l.length := by
 unfold usdV
 split
 ·cases h : usdL ms ts [] l with
  | none => simp [usdC]
  | some r =>
   have h1 := usdL_len h
   have h2 : (Sy.clnV r).1.length ≤ r.length := by
    unfold Sy.clnV
    split
    ·exact Sz.clnL_len r
    simp
   show (Sy.clnV r).1.length ≤ _
   simp only [List.length_nil] at h1
   omega
 simp
theorem walk_Lw (a : Option Addr) (len c : Nat) (l : List Ed) (ms ts n d : Int) (w : World) (h : Eds w a len c l) (_ : (Lit.int .i64 ms).wf = true) (_ : (Lit.int .i64 ts).wf = true) (_ : (Lit.int .i64 n).wf = true) (_ : (Lit.int .i64 d).wf = true) :
  Calls Tryz.prog 8 #[.agg #[.slice a len c, .int .i64 ms, .int .i64 ts], .agg #[.int .i64 n, .int .i64 d]] w (fun e w' => e = .returned (.bool true) ∧ Below w.heap.size w w') := by
 have hu := Tryz.underlying43
 have hu2 := Tryz.underlying24
 obtain ⟨hn, hC, hh⟩ : l.length = len ∧ Kd.C k67 w a l.length l ∧ l.length ≤ c := ⟨h.n, h.c, h.h⟩
 subst hn
 have HR := aS (And.intro hC hh)
 have hL := aS (Lb.start w a l.length c ms ts n d)
 have HB1 := aS (fun W (hb : Below w.heap.size w W) => back_n a c l ms ts n d W (Kd.C_below hC hb) hh)
 have HB2 := aS (fun W (hb : Below w.heap.size w W) => rback_n a c l ms ts n d W (Kd.C_below hC hb) hh)
 have HU1 := aS (fun W (hb : Below w.heap.size w W) => used_n a c l ms ts W (Kd.C_below hC hb) hh)
 have HU2 := aS (fun W (hb : Below w.heap.size w W) => rused_n a c l ms ts W (Kd.C_below hC hb) hh)
 rw [bakV_bck] at HB2
 have HN1 := aS (@bckV_len l ms ts n d)
 have HN2 := aS (@usdV_len l ms ts)
 generalize bckV l ms ts n d = X at *
 generalize usdV l ms ts = Y at *
 obtain ⟨X, x⟩ := X
 obtain ⟨Y, y⟩ := Y
 clear h hC hh
 go_enter Tryz.func8, Tryz.ntmps8
 go_upto_region 1 with fail
 generalize hW : World.alloc (World.alloc _ _) _ = W
 have HL := aS (show Lb w W a l.length c ms ts n d by rw [← hW]; exact hL.out)
 clear hW hL
 obtain ⟨p0, p1, p2, p3, p4⟩ := HL.out.cells
 go_wp2_with fail
 refine (many_n a c l W (Kd.C_below HR.out.1 HL.out.below) HR.out.2).mono ?_
 rintro e w2 ⟨rfl, hb2⟩
 have HL2 := aS (HL.out.step hb2)
 clear hb2 HL p0 p1 p2 p3 p4
 by_cases hm : (l.length : Int) > 60
 ·rw [decide_eq_true hm]
  clear hm
  go_wp2_with fail
  refine (awake_n w2).mono ?_
  rintro e w3 ⟨rfl, hb3⟩
  have HL3 := aS (HL2.out.step hb3)
  clear hb3 HL2
  go_wp2_with fail
  go_ret
  exact ⟨rfl, HL3.out.below⟩
 rw [decide_eq_false hm]
 have HM := aS (show X.length ≤ 1000000 ∧ Y.length ≤ 1000000 by have h1 : X.length ≤ l.length := HN1.out; have h2 : Y.length ≤ l.length := HN2.out; omega)
 clear hm HN1 HN2
 obtain ⟨p0, p1, p2, p3, p4⟩ := HL2.out.cells
 go_wp2_with fail
 refine (HB1.out w2 HL2.out.below).mono ?_
 rintro e w3 ⟨v3, rfl, hr3, hb3⟩
 have HA3 := aS (And.intro (HL2.out.step hb3) (show Mk w w3 v3 X from ⟨Kd.R_lower hr3 HL2.out.below.size⟩))
 clear hr3 hb3 HL2 HB1 p0 p1 p2 p3 p4
 obtain ⟨P3, c3, e3⟩ := Kd.R_slice HA3.out.2.r
 subst e3
 obtain ⟨p0, p1, p2, p3, p4⟩ := HA3.out.1.cells
 go_wp2_with fail
 refine (HB2.out w3 HA3.out.1.below).mono ?_
 rintro e w4 ⟨v4, rfl, hr4, hb4⟩
 have HA4 := aS (And.intro (HA3.out.1.step hb4) (And.intro (HA3.out.2.step hb4) (show Mk w w4 v4 X from ⟨Kd.R_lower hr4 HA3.out.1.below.size⟩)))
 clear hr4 hb4 HA3 HB2 p0 p1 p2 p3 p4
 obtain ⟨P4, c4, e4⟩ := Kd.R_slice HA4.out.2.2.r
 subst e4
 obtain ⟨p0, p1, p2, p3, p4⟩ := HA4.out.1.cells
 go_wp2_with fail
 refine (HU1.out w4 HA4.out.1.below).mono ?_
 rintro e w5 ⟨v5, rfl, hr5, hb5⟩
 have HA5 := aS (And.intro (HA4.out.1.step hb5) (And.intro (And.intro (HA4.out.2.1.step hb5) (HA4.out.2.2.step hb5)) (show Mk w w5 v5 Y from ⟨Kd.R_lower hr5 HA4.out.1.below.size⟩)))
 clear hr5 hb5 HA4 HU1 p0 p1 p2 p3 p4
 obtain ⟨P5, c5, e5⟩ := Kd.R_slice HA5.out.2.2.r
 subst e5
 obtain ⟨p0, p1, p2, p3, p4⟩ := HA5.out.1.cells
 go_wp2_with fail
 refine (HU2.out w5 HA5.out.1.below).mono ?_
 rintro e w6 ⟨v6, rfl, hr6, hb6⟩
 have HA6 := aS (And.intro (HA5.out.1.step hb6) (And.intro (And.intro (HA5.out.2.1.1.step hb6) (HA5.out.2.1.2.step hb6)) (And.intro (HA5.out.2.2.step hb6) (show Mk w w6 v6 Y from ⟨Kd.R_lower hr6 HA5.out.1.below.size⟩))))
 clear hr6 hb6 HA5 HU2 p0 p1 p2 p3 p4
 obtain ⟨P6, c6, e6⟩ := Kd.R_slice HA6.out.2.2.2.r
 subst e6
 go_wp2_with fail
 refine (eq00_n P3 P4 c3 c4 X w6 (Kd.R_reads' HA6.out.2.1.1.r).2.2 (Kd.R_reads' HA6.out.2.1.1.r).2.1 (Kd.R_reads' HA6.out.2.1.2.r).2.2 (Kd.R_reads' HA6.out.2.1.2.r).2.1 HM.out.1).mono ?_
 rintro e w7 ⟨rfl, hb7⟩
 have HA7 := aS (And.intro (HA6.out.1.step hb7) (And.intro (HA6.out.2.2.1.step hb7) (HA6.out.2.2.2.step hb7)))
 clear hb7 HA6
 go_wp2_with fail
 refine (eq00_n P5 P6 c5 c6 Y w7 (Kd.R_reads' HA7.out.2.1.r).2.2 (Kd.R_reads' HA7.out.2.1.r).2.1 (Kd.R_reads' HA7.out.2.2.r).2.2 (Kd.R_reads' HA7.out.2.2.r).2.1 HM.out.2).mono ?_
 rintro e w8 ⟨rfl, hb8⟩
 have HA8 := aS (HA7.out.1.step hb8)
 clear hb8 HA7
 go_wp2_with fail
 refine (awake_n w8).mono ?_
 rintro e w9 ⟨rfl, hb9⟩
 have HA9 := aS (HA8.out.step hb9)
 clear hb9 HA8
 go_wp2_with fail
 go_ret
 exact ⟨rfl, HA9.out.below⟩
end Go.Proofs.YtekommcfpjonmaaGreat.Lw
namespace Go.Proofs.YtekommcfpjonmaaGreat.editBackRow
open Go.ChangeShapes Go.WideShapes Go.ChangeAt RowKit Oe
theorem lifted (os : Os) (started : os.Started) (H : Type) (enc : TypeId × Value → H) :
  ReturnsInHanded {} Tryz.checked os 8 .any (Rows.editBackSpec.pre6 enc Tryz.prog Tryz.f8 Rows.editBackRow.domain false) (Rows.editBackSpec.post enc Tryz.prog Tryz.f8 false true false false) := by
 refine returnsInHanded_of_change_sized (C := Tryz.checked) own started (by kernel_rfl) Tryz.func8
  (ChangeSpec.witness6 (enc := enc) (C := Tryz.checked) false ⟨#[], #[.agg #[.slice none 0 0, .int .i64 0, .int .i64 0], .agg #[.int .i64 0, .int .i64 0]], []⟩ 8 (by kernel_rfl) (by kernel_rfl) (by kernel_rfl) (by kernel_rfl)) ?_
 intro W base args ds gs before hval0 hW hcnd hsz0 _
 have hval : ∀ (j : Nat) t v, Tryz.f8.params[j]? = some t → args[j]? = some v → Value.okWide Tryz.prog W .any base t v := hval0
 have hW' := hW
 obtain ⟨p, q, hA0, hV, rfl, hfz, hnd⟩ := hW
 have hA : DataW.TrodAll enc Tryz.prog W 0 (fun _ => true) true Tryz.f8.params.toList args.toList ds p := hA0
 rw [Tryz.params8] at hA hval
 obtain ⟨v0, vs0, d0, ds0, p0, q0, hargs, rfl, rfl, h0, r0⟩ := trodAll_cons hA
 obtain ⟨v1, vs1, d1, ds1, p1, q1, rfl, rfl, rfl, h1, r1⟩ := trodAll_cons r0
 obtain ⟨rfl, rfl, rfl⟩ := trodAll_nil r1
 obtain rfl : args = #[v0, v1] := by cases args; simp_all
 obtain ⟨rfl, rfl⟩ := trodVars_none hV
 have k0 := h0
 have lt0 : ∀ x ∈ p0, x.block < W.heap.size := by obtain ⟨m, hm⟩ := k0; exact DataW.trod_lt m _ _ _ hm
 obtain ⟨a0, len0, cap0, z0, m0, t0, rfl, w0, wm0, wt0⟩ := open_list (hval 0 43 v0 rfl rfl) h0
 have k1 := h1
 have lt1 : ∀ x ∈ p1, x.block < W.heap.size := by obtain ⟨m, hm⟩ := k1; exact DataW.trod_lt m _ _ _ hm
 obtain ⟨a1_0, a1_1, rfl, w1_0, w1_1⟩ := open_time (hval 1 24 v1 rfl rfl) h1
 clear hA0 hval0 hsz0
 refine (Lw.walk_Lw a0 len0 cap0 z0 m0 t0 a1_0 a1_1 W w0 wm0 wt0 w1_0 w1_1).mono fun e W' ⟨he, bel⟩ => ?_
 subst he
 exact ⟨_, rfl, _, _, _, [], _, [], hW', trodAll_mk1 (shut_bool Tryz.underlying4 _), (trodAll_cons_mk (Below.trod laidOut (by kernel_rfl) (of_decide_eq_true (by kernel_rfl)) k0 bel lt0) (trodAll_cons_mk (Below.trod laidOut (by kernel_rfl) (of_decide_eq_true (by kernel_rfl)) k1 bel lt1) trodAll_mk0)), rfl, bel.frame _, fun h => by cases h⟩
theorem over : Rows.editBackRow.holds Tryz.pinned (OpenSpec.ofChange Rows.editBackSpec) :=
 OpenClaim.holds_of_wide 8 Tryz.f8 rfl rfl rfl rfl rfl rfl rfl ⟨rfl, rfl, rfl, rfl, rfl⟩ rfl rfl rfl rfl rfl (by kernel_rfl) Tryz.func8 (by kernel_rfl)
  (of_decide_eq_true (by kernel_rfl)) (by unfold Func.isWrapper; first | (rw [if_pos (by decide +kernel)]; kernel_rfl) | (rw [if_neg (by decide +kernel)]; exact ⟨rfl, rfl⟩))
  (fun os started H enc _ => lifted os started H enc)
end Go.Proofs.YtekommcfpjonmaaGreat.editBackRow
namespace Go.Proofs.YtekommcfpjonmaaGreat
theorem editBack_holds : Rows.EditBackSaid := editBackRow.over
#print axioms editBack_holds
end Go.Proofs.YtekommcfpjonmaaGreat

/-
  Fractions of package num: SetFrac brings two whole numbers to lowest terms.
-/
import Derived.Test.YtpbhepdgamoiaaaEa
namespace Go.Proofs.Ytpbhepdgamoiaaa.Ra
open Go.RowKit Go Go.Proofs.YtpbhepdgamoiaaaW.PrintWords Go.Proofs.YtpbhepdgamoiaaaW.PrintLast Go.Proofs.YtpbhepdgamoiaaaW.PrintMore Go.Proofs.Ytpbhepdgamoiaaa.Ml Go.Proofs.Ytpbhepdgamoiaaa.Mn Go.Proofs.Ytpbhepdgamoiaaa.Nd Go.Proofs.Ytpbhepdgamoiaaa.P Go.Proofs.Ytpbhepdgamoiaaa.Nc Go.Proofs.Ytpbhepdgamoiaaa.Nb Go.Proofs.Ytpbhepdgamoiaaa.Da Go.Proofs.Ytpbhepdgamoiaaa.Qa Go.Proofs.Ytpbhepdgamoiaaa.Ea
set_option linter.unusedVariables false
set_option linter.unusedSimpArgs false

def ratN (n d : Int) : Int := if d < 0 then lowN (-n) (-d) else lowN n d
def ratD (n d : Int) : Int := if d < 0 then lowD (-n) (-d) else lowD n d
/-- Where the search for the greatest common divisor stands. -/
structure GcI (w0 w : World) (a b : Int) (n : Nat) (vg vr : Value) (k : Nat) : Prop where mk ::
  at_ : ∃ Ag cg lg Ar cr lr, vg = .slice Ag (List.length lg) cg ∧ vr = .slice Ar (List.length lr) cr ∧ lg.length ≤ cg ∧ lr.length ≤ cr ∧ Kd.C (Kd.int .u32) w Ag lg.length lg ∧ Kd.C (Kd.int .u32) w Ar lr.length lr ∧ Cn 4294967296 lg ∧ Cn 4294967296 lr ∧ lg.length ≤ n ∧ lr.length ≤ n ∧ Int.gcd (dv 4294967296 lg) (dv 4294967296 lr) = Int.gcd a b ∧ dv 4294967296 lr ≤ (k : Int)
  b : Below w0.heap.size w0 w
theorem dv_pos {l : List Int} (h : Cn 4294967296 l) (hl : l ≠ []) : 0 < dv 4294967296 l := by
  have h1 := dv_len (a := []) (by decide) (Dg.nil _) h (by cases l with | nil => exact absurd rfl hl | cons x t => simp)
  simpa only [dv] using h1
theorem gcd_step {x y q r : Int} (h : x = q * y + r) : Int.gcd y r = Int.gcd x y := by
  rw [h, Int.gcd_comm (q * y + r) y, Int.mul_comm]
  simp
theorem quo_exact {x g q r : Int} (hg : 0 < g) (hd : g ∣ x) (h0 : 0 ≤ r) (h1 : r < g) (h : x = q * g + r) : q = x / g := by
  have : x / g = q := by
    rw [h, Int.add_comm, Int.add_mul_ediv_right _ _ (by omega), Int.ediv_eq_zero_of_lt h0 h1]
    omega
  exact this.symm
theorem sg_quo {na nb : Bool} {a b A B G : Int} (ha : a = sg na A) (hb : b = sg nb B) (hA : 0 ≤ A) (hB : 0 < B) (hG : G = (Int.gcd a b : Nat)) : sg (!(na == nb)) (A / G) = ratN a b ∧ B / G = ratD a b := by
  have e : ∀ n : Int, Int.gcd (-n) b = Int.gcd n b := fun n => Int.neg_gcd
  have dA : G ∣ A := by
    have : G ∣ a := by rw [hG]; exact Int.gcd_dvd_left _ _
    rw [ha] at this
    cases na
    · simpa [sg] using this
    · simpa [sg] using this
  unfold ratN ratD lowN lowD
  cases nb with
  | true =>
    have hb' : b = -B := by simpa [sg] using hb
    rw [if_pos (by omega), if_pos (by omega)]
    rw [show Int.gcd (-a) (-b) = Int.gcd a b by rw [Int.neg_gcd, Int.gcd_neg], ← hG, hb', Int.neg_neg]
    cases na with
    | true =>
      have ha' : a = -A := by simpa [sg] using ha
      rw [ha', Int.neg_neg]
      exact ⟨rfl, rfl⟩
    | false =>
      have ha' : a = A := by simpa [sg] using ha
      rw [ha', Int.neg_ediv_of_dvd dA]
      exact ⟨rfl, rfl⟩
  | false =>
    have hb' : b = B := by simpa [sg] using hb
    rw [if_neg (by omega), if_neg (by omega), ← hG, hb']
    cases na with
    | true =>
      have ha' : a = -A := by simpa [sg] using ha
      rw [ha', Int.neg_ediv_of_dvd dA]
      exact ⟨rfl, rfl⟩
    | false =>
      have ha' : a = A := by simpa [sg] using ha
      rw [ha']
      exact ⟨rfl, rfl⟩
theorem sg_dvd {s : Bool} {x z g : Int} (h : z = sg s x) (hd : g ∣ z) : g ∣ x := by
  subst h
  cases s
  · simpa [sg] using hd
  · simpa [sg] using hd
/-- What SetFrac answers. -/
def SfP (w : World) (gx : Nat) (a b : Int) (na nb B : Nat) (e : Ending) (w' : World) : Prop := e = .returned (.pointer (some ⟨gx, 0, none⟩)) ∧ Below B w w' ∧ IsN w' gx 0 (ratN a b) na ∧ IsN w' gx 2 (ratD a b) nb
theorem sg_bne (a b : Bool) : (a != b) = !(a == b) := by cases a <;> cases b <;> rfl
set_option maxHeartbeats 8000000 in
set_option maxRecDepth 100000 in
theorem setFrac_n (gx ga oa gb ob : Nat) (a b : Int) (na nb B : Nat) (w : World) (hx0 : Room w gx 0) (hx2 : Room w gx 2) (ha : IsN w ga oa a na) (hb : IsN w gb ob b nb) (hbp : b ≠ 0) (hl : na + nb ≤ 1000) (hB1 : B ≤ gx) :
    Calls Try.prog 156 #[.pointer (some ⟨gx, 0, none⟩), .pointer (some ⟨ga, oa, none⟩), .pointer (some ⟨gb, ob, none⟩)] w (SfP w gx a b na nb B) := by
  obtain ⟨nega, Aa, cca, la, sa, hca, ra, ca, hla, hza, qa⟩ := ha.open
  obtain ⟨negb, Ab, ccb, lb, sb, hcb, rb, cb, hlb, hzb, qb⟩ := hb.open
  have a1 := sa.cell1
  have b1 := sb.cell1
  have lgx := hx0.lt
  go_enter Try.func156, Try.ntmps156
  go_wp2_with fail
  refine start_ (n := 11) (S := fun w' => w'.cell? ⟨ga, oa + 1, none⟩ = some (.slice Aa la.length cca) ∧ w'.cell? ⟨gb, ob + 1, none⟩ = some (.slice Ab lb.length ccb)) (ds := []) (bs 11 0) (by kernel_rfl) rfl rfl ⟨a1, b1⟩ (fun hHeld => ?_)
  refine pure_ (i := 0) (N := some 16) (v := ?_) (a' := ?_) (bs 11 1) rfl rfl (by kernel_rfl) (fun _ _ _ h => h) (Or.inl ⟨by rfl, ?_⟩) ?_ ?_; rotate_left; (· intro w'; go_simp; first | done | with_reducible rfl); rotate_left; (· simp only [Act.put, List.setIfInBounds_toArray, List.set_cons_zero, List.set_cons_succ, i64_w, i32_w]; rfl)
  refine pure_ (i := 1) (N := some 17) (v := ?_) (a' := ?_) (bs 11 3) rfl rfl (by kernel_rfl) (fun _ _ _ h => h) (Or.inl ⟨by rfl, ?_⟩) ?_ ?_; rotate_left; (· intro w'; go_simp; first | done | with_reducible rfl); rotate_left; (· simp only [Act.put, List.setIfInBounds_toArray, List.set_cons_zero, List.set_cons_succ, i64_w, i32_w]; rfl)
  refine pure_ (i := 2) (N := some 18) (v := ?_) (a' := ?_) (bs 11 7) rfl rfl (by kernel_rfl) (fun _ _ _ h => h) (Or.inl ⟨by rfl, ?_⟩) ?_ ?_; rotate_left; (· intro w'; go_simp; first | done | with_reducible rfl); rotate_left; (· simp only [Act.put, List.setIfInBounds_toArray, List.set_cons_zero, List.set_cons_succ, i64_w, i32_w]; rfl)
  refine pure_ (i := 5) (N := some 21) (v := ?_) (a' := ?_) (bs 11 39) rfl rfl (by kernel_rfl) (fun _ _ _ h => h) (Or.inl ⟨by rfl, ?_⟩) ?_ ?_; rotate_left; (· intro w'; go_simp; first | done | with_reducible rfl); rotate_left; (· simp only [Act.put, List.setIfInBounds_toArray, List.set_cons_zero, List.set_cons_succ, i64_w, i32_w]; rfl)
  refine pure_ (i := 6) (N := some 22) (v := ?_) (a' := ?_) (bs 11 103) rfl rfl (by kernel_rfl) (fun _ _ _ h => h) (Or.inl ⟨by rfl, ?_⟩) ?_ ?_; rotate_left; (· intro w'; go_simp; first | done | with_reducible rfl); rotate_left; (· simp only [Act.put, List.setIfInBounds_toArray, List.set_cons_zero, List.set_cons_succ, i64_w, i32_w]; rfl)
  refine pure_ (i := 7) (N := some 23) (v := ?_) (a' := ?_) (bs 11 231) rfl rfl (by kernel_rfl) (fun _ _ _ h => h) (Or.inl ⟨by rfl, ?_⟩) ?_ ?_; rotate_left; (· intro w'; go_simp; first | done | with_reducible rfl); rotate_left; (· simp only [Act.put, List.setIfInBounds_toArray, List.set_cons_zero, List.set_cons_succ, i64_w, i32_w]; rfl)
  refine take_ (i := 3) (N := some 19) (v := ?_) (a' := ?_) (bs 11 239) rfl rfl (by kernel_rfl) (fun _ _ _ h => h) (Or.inl ⟨by rfl, ?_⟩) hHeld ?_ ?_; rotate_left; (· rintro w' ⟨s0, s1⟩; go_simp; first | done | with_reducible rfl); rotate_left; (· simp only [Act.put, List.setIfInBounds_toArray, List.set_cons_zero, List.set_cons_succ, i64_w, i32_w]; rfl)
  refine take_ (i := 8) (N := some 24) (v := ?_) (a' := ?_) (bs 11 495) rfl rfl (by kernel_rfl) (fun _ _ _ h => h) (Or.inl ⟨by rfl, ?_⟩) hHeld ?_ ?_; rotate_left; (· rintro w' ⟨s0, s1⟩; go_simp; first | done | with_reducible rfl); rotate_left; (· simp only [Act.put, List.setIfInBounds_toArray, List.set_cons_zero, List.set_cons_succ, i64_w, i32_w]; rfl)
  refine one_ (i := 4) (N := some 20) (bs 11 511) rfl rfl (by kernel_rfl) (by decide) (fun K hK => ?_)
  refine goes_ Try.func163 (by kernel_rfl) rfl #[.slice Aa la.length cca] (by rfl) rfl rfl (by simp only [List.map_toArray, List.map_cons, List.map_nil]; rfl) ?_
  with_reducible refine (clone_n Aa cca la w.drew hca (Kd.C_drew ra) (by omega)).mono ?_
  rintro e w2 ⟨v4, rfl, hM4, hb4⟩
  refine ⟨_, rfl, ?_⟩
  have hb4' := below_drew' hb4
  refine hK.out _ _ ⟨(sa.below hb4').cell1, (sb.below hb4').cell1⟩ (fun hHeld => ?_)
  clear hK K
  refine norm_ (a' := ?_) ?_ ?_; rotate_left; (· show Act.put _ (some 20) _ = _; simp only [Act.put, List.setIfInBounds_toArray, List.set_cons_zero, List.set_cons_succ, i64_w, i32_w]; rfl)
  refine pure_ (i := 9) (N := some 7) (v := ?_) (a' := ?_) (bs 11 1023) rfl rfl (by kernel_rfl) (fun _ _ _ h => h) (Or.inl ⟨by rfl, ?_⟩) ?_ ?_; rotate_left; (· intro w'; go_simp; first | done | with_reducible rfl); rotate_left; (· simp only [Act.put, List.setIfInBounds_toArray, List.set_cons_zero, List.set_cons_succ, i64_w, i32_w]; rfl)
  refine pure_ (i := 10) (N := some 8) (v := ?_) (a' := ?_) (bs 11 2047) rfl rfl (by kernel_rfl) (fun _ _ _ h => h) (Or.inl ⟨by rfl, ?_⟩) ?_ ?_; rotate_left; (· intro w'; go_simp; first | done | with_reducible rfl); rotate_left; (· simp only [Act.put, List.setIfInBounds_toArray, List.set_cons_zero, List.set_cons_succ, i64_w, i32_w]; rfl)
  refine done_ (by kernel_rfl) ?_
  obtain ⟨A4, c4, rfl, hc4, r4⟩ := hM4
  have HI := Aside0.mk (show GcI w w2 a b (na + nb) (.slice A4 la.length c4) (.slice Ab lb.length ccb) (dv 4294967296 lb).toNat from
    ⟨⟨A4, c4, la, Ab, ccb, lb, rfl, rfl, hc4, hcb, r4, Kd.C_below rb hb4', ca, cb, by omega, by omega, by
      have p0 := dv_nonneg (by decide) ca.dg
      have p1 := dv_nonneg (by decide) cb.dg
      rw [hza, hzb]
      cases nega <;> cases negb <;> simp [sg, Int.neg_gcd, Int.gcd_neg], by have := dv_nonneg (by decide) cb.dg; omega⟩, hb4'⟩)
  have HH := Aside0.mk (And.intro ha (And.intro hb (And.intro hx0 hx2)))
  clear hHeld r4 hb4 hb4' hc4 a1 b1
  go_wp2_with fail
  go_loopg [7, 8] (dv 4294967296 lb).toNat (fun kq v7 v8 w' => Aside0 (GcI w w' a b (na + nb) v7 v8 kq))
  case atStart => exact HI
  case round =>
    clear HI
    obtain ⟨⟨⟨Ag, cg, lg, Ar, cr, lr, rfl, rfl, hcg, hcr, rg, rr, cag, car, hlg, hlr, hgc, hk⟩, hbw⟩⟩ := hrel
    by_cases hr : lr = []
    · subst hr
      have hG : dv 4294967296 lg = (Int.gcd a b : Nat) := by
        have h0 := dv_nonneg (by decide) cag.dg
        rw [← hgc]
        simp only [dv, Int.gcd_zero]
        omega
      have hgp : 0 < dv 4294967296 lg := by
        have := Int.gcd_pos_of_ne_zero_right a hbp
        omega
      have hgn : lg ≠ [] := by rintro rfl; simp [dv] at hgp
      have sa' := sa.below hbw
      have sb' := sb.below hbw
      have a1 := sa'.cell1
      have b1 := sb'.cell1
      have RA := Aside0.mk (And.intro (Kd.C_below ra hbw) (And.intro (Kd.C_below rb hbw) rg))
      have HW := Aside0.mk (And.intro hbw (And.intro hG hgp))
      clear hbw hG hgp hgc hk rr rg
      go_wp2_with fail
      refine (divMag_n Aa cca la Ag cg lg wr hca RA.out.1 hcg RA.out.2.2 ca cag hgn (by omega) (by omega)).mono ?_
      rintro e w3 ⟨v0, v1, q1, r1, rfl, hq1, hr1, cq1, cr1, lq1, lr1, eq1, lt1, hb3⟩
      have a1' := (sa'.below hb3).cell1
      have b1' := (sb'.below hb3).cell1
      have K1 := Aside0.mk (And.intro hq1 (And.intro (quo_exact HW.out.2.2 (sg_dvd hza (HW.out.2.1 ▸ Int.gcd_dvd_left _ _)) (dv_nonneg (by decide) cr1.dg) lt1 eq1) hb3))
      clear hq1 hr1 cr1 lr1 eq1 lt1 a1 b1
      have hbw3 := HW.out.1.trans (hb3.mono HW.out.1.size)
      have HB3 := Aside0.mk hbw3
      go_wp2_with fail
      refine (divMag_n Ab ccb lb Ag cg lg w3 hcb (Kd.C_below RA.out.2.1 hb3) hcg (Kd.C_below RA.out.2.2 hb3) cb cag hgn (by omega) (by omega)).mono ?_
      rintro e w4 ⟨v2, v3, q2, r2, rfl, hq2, hr2, cq2, cr2, lq2, lr2, eq2, lt2, hb4⟩
      have hbw4 := hbw3.trans (hb4.mono hbw3.size)
      have sa4 := sa.below hbw4
      have sb4 := sb.below hbw4
      have a0 := sa4.cell0
      have b0 := sb4.cell0
      have K2 := Aside0.mk (And.intro hq2 (And.intro (quo_exact HW.out.2.2 (sg_dvd hzb (HW.out.2.1 ▸ Int.gcd_dvd_right _ _)) (dv_nonneg (by decide) cr2.dg) lt2 eq2) hb4))
      have HB4 := Aside0.mk hbw4
      clear hq2 hr2 cr2 lr2 eq2 lt2 a1' b1' hb3 hb4 hbw3 hbw4 sa' sb' HB3
      go_wp2_with fail
      refine start_ (n := 10) (S := fun w' => w'.cell? ⟨ga, oa, none⟩ = some (.bool nega) ∧ w'.cell? ⟨gb, ob, none⟩ = some (.bool negb)) (ds := []) (bs 10 0) (by kernel_rfl) rfl rfl ⟨a0, b0⟩ (fun hHeld => ?_)
      refine pure_ (i := 0) (N := some 54) (v := ?_) (a' := ?_) (bs 10 1) rfl rfl (by kernel_rfl) (fun _ _ _ h => h) (Or.inl ⟨by rfl, ?_⟩) ?_ ?_; rotate_left; (· intro w'; go_simp; first | done | with_reducible rfl); rotate_left; (· simp only [Act.put, List.setIfInBounds_toArray, List.set_cons_zero, List.set_cons_succ, i64_w, i32_w]; rfl)
      refine pure_ (i := 1) (N := some 55) (v := ?_) (a' := ?_) (bs 10 3) rfl rfl (by kernel_rfl) (fun _ _ _ h => h) (Or.inl ⟨by rfl, ?_⟩) ?_ ?_; rotate_left; (· intro w'; go_simp; first | done | with_reducible rfl); rotate_left; (· simp only [Act.put, List.setIfInBounds_toArray, List.set_cons_zero, List.set_cons_succ, i64_w, i32_w]; rfl)
      refine pure_ (i := 2) (N := some 56) (v := ?_) (a' := ?_) (bs 10 7) rfl rfl (by kernel_rfl) (fun _ _ _ h => h) (Or.inl ⟨by rfl, ?_⟩) ?_ ?_; rotate_left; (· intro w'; go_simp; first | done | with_reducible rfl); rotate_left; (· simp only [Act.put, List.setIfInBounds_toArray, List.set_cons_zero, List.set_cons_succ, i64_w, i32_w]; rfl)
      refine pure_ (i := 4) (N := some 58) (v := ?_) (a' := ?_) (bs 10 23) rfl rfl (by kernel_rfl) (fun _ _ _ h => h) (Or.inl ⟨by rfl, ?_⟩) ?_ ?_; rotate_left; (· intro w'; go_simp; first | done | with_reducible rfl); rotate_left; (· simp only [Act.put, List.setIfInBounds_toArray, List.set_cons_zero, List.set_cons_succ, i64_w, i32_w]; rfl)
      refine pure_ (i := 5) (N := some 59) (v := ?_) (a' := ?_) (bs 10 55) rfl rfl (by kernel_rfl) (fun _ _ _ h => h) (Or.inl ⟨by rfl, ?_⟩) ?_ ?_; rotate_left; (· intro w'; go_simp; first | done | with_reducible rfl); rotate_left; (· simp only [Act.put, List.setIfInBounds_toArray, List.set_cons_zero, List.set_cons_succ, i64_w, i32_w]; rfl)
      refine pure_ (i := 6) (N := some 60) (v := ?_) (a' := ?_) (bs 10 119) rfl rfl (by kernel_rfl) (fun _ _ _ h => h) (Or.inl ⟨by rfl, ?_⟩) ?_ ?_; rotate_left; (· intro w'; go_simp; first | done | with_reducible rfl); rotate_left; (· simp only [Act.put, List.setIfInBounds_toArray, List.set_cons_zero, List.set_cons_succ, i64_w, i32_w]; rfl)
      refine take_ (i := 3) (N := some 57) (v := ?_) (a' := ?_) (bs 10 127) rfl rfl (by kernel_rfl) (fun _ _ _ h => h) (Or.inl ⟨by rfl, ?_⟩) hHeld ?_ ?_; rotate_left; (· rintro w' ⟨s0, s1⟩; go_simp; first | done | with_reducible rfl); rotate_left; (· simp only [Act.put, List.setIfInBounds_toArray, List.set_cons_zero, List.set_cons_succ, i64_w, i32_w]; rfl)
      refine take_ (i := 7) (N := some 61) (v := ?_) (a' := ?_) (bs 10 255) rfl rfl (by kernel_rfl) (fun _ _ _ h => h) (Or.inl ⟨by rfl, ?_⟩) hHeld ?_ ?_; rotate_left; (· rintro w' ⟨s0, s1⟩; go_simp; first | done | with_reducible rfl); rotate_left; (· simp only [Act.put, List.setIfInBounds_toArray, List.set_cons_zero, List.set_cons_succ, i64_w, i32_w]; rfl)
      refine pure_ (i := 8) (N := some 62) (v := ?_) (a' := ?_) (bs 10 511) rfl rfl (by kernel_rfl) (fun _ _ _ h => h) (Or.inl ⟨by rfl, ?_⟩) ?_ ?_; rotate_left; (· intro w'; go_simp; first | done | with_reducible rfl); rotate_left; (· simp only [Act.put, List.setIfInBounds_toArray, List.set_cons_zero, List.set_cons_succ, i64_w, i32_w]; rfl)
      refine pure_ (i := 9) (N := some 15) (v := ?_) (a' := ?_) (bs 10 1023) rfl rfl (by kernel_rfl) (fun _ _ _ h => h) (Or.inl ⟨by rfl, ?_⟩) ?_ ?_; rotate_left; (· intro w'; go_simp; first | done | with_reducible rfl); rotate_left; (· simp only [Act.put, List.setIfInBounds_toArray, List.set_cons_zero, List.set_cons_succ, i64_w, i32_w]; rfl)
      refine done_ (by kernel_rfl) ?_
      have X := HH.out.2.2
      have hb5 : Below w4.heap.size w4 w4.drew := below_drew' (Below.refl _ _)
      have hbw5 := HB4.out.trans (hb5.mono HB4.out.size)
      go_wp2_with fail
      refine (set_n gx 0 v0 q1 (nega != negb) na w4.drew (X.1.below hbw5) ((K1.out.1.below K2.out.2.2).below hb5) cq1 (by omega)).mono ?_
      rintro e w6 ⟨rfl, hw6, hN6⟩
      have K3 := Aside0.mk (And.intro hw6 (And.intro hN6 (And.intro hbw5 ((K2.out.1.below hb5)))))
      clear hw6 hN6 hbw5 hb5 X
      go_wp2_with fail
      have hr2' : Room w6 gx 2 := by
        obtain ⟨n2, v2', h2⟩ := HH.out.2.2.2.below K3.out.2.2.1
        exact ⟨n2, v2', K3.out.1.slot h2 (.inr (by omega))⟩
      refine (set_n gx 2 v2 q2 false nb w6 hr2' (K3.out.1.mag (HH.out.2.2.1.below K3.out.2.2.1) K3.out.2.2.2) cq2 (by omega)).mono ?_
      rintro e w7 ⟨rfl, hw7, hN7⟩
      have K4 := Aside0.mk (And.intro hw7 hN7)
      clear hw7 hN7
      go_wp2_with fail
      go_ret
      have hsq := sg_quo hza hzb (dv_nonneg (by decide) ca.dg) (dv_pos cb (by rintro rfl; cases negb <;> simp [dv, sg] at hzb <;> exact hbp hzb)) HW.out.2.1
      rw [← K1.out.2.1, ← K2.out.2.1, ← sg_bne] at hsq
      have hs0 := K3.out.2.2.1.size
      refine ⟨rfl, ?_, hsq.1 ▸ K4.out.1.isN hr2' K3.out.2.1 (.inr (by omega)), hsq.2 ▸ K4.out.2⟩
      have hB : Below B w w4.drew := ⟨K3.out.2.2.1.os, K3.out.2.2.1.tape, K3.out.2.2.1.output, K3.out.2.2.1.size, fun i hi => K3.out.2.2.1.block i (by omega)⟩
      exact hB.trans ((K3.out.1.below hB1 (by omega)).trans (K4.out.1.below hB1 (by have := K3.out.1.size; omega)))
    · cases gk with
      | zero =>
        exfalso
        have := dv_pos car hr
        omega
      | succ k1 =>
        have hpos : 0 < lr.length := by cases lr with | nil => exact absurd rfl hr | cons x t => simp
        have HW := Aside0.mk (And.intro hbw (And.intro hgc hk))
        have HR := Aside0.mk rr
        have HG := Aside0.mk rg
        clear hbw hgc hk rr rg
        go_wp2_with fail
        refine (divMag_n Ag cg lg Ar cr lr wr hcg HG.out hcr HR.out cag car hr (by omega) (by omega)).mono ?_
        rintro e w3 ⟨v0, v1, q1, r1, rfl, hq1, hr1, cq1, cr1, lq1, lr1, eq1, lt1, hb3⟩
        obtain ⟨A5, c5, rfl, hc5, r5⟩ := hr1
        have HW3 := Aside0.mk (HW.out.1.trans (hb3.mono HW.out.1.size))
        have HN := Aside0.mk (show GcI w w3 a b (na + nb) (.slice Ar lr.length cr) (.slice A5 r1.length c5) k1 from
          ⟨⟨Ar, cr, lr, A5, c5, r1, rfl, rfl, hcr, hc5, Kd.C_below HR.out hb3, r5, car, cr1, hlr, by omega, (gcd_step eq1).trans HW.out.2.1, by have := HW.out.2.2; omega⟩, HW3.out⟩)
        clear hq1 eq1 lt1 hb3 r5
        go_wp2_with fail
        go_roundg k1
        case measure => omega
        case rel => exact HN
/-- What down answers: the denominator that is there. -/
theorem down_n (gx : Nat) (z : Int) (n : Nat) (w : World) (h : IsN w gx 2 z n) (hz : z ≠ 0) :
    Calls Try.prog 130 #[.pointer (some ⟨gx, 0, none⟩)] w (fun e w' => e = .returned (.pointer (some ⟨gx, 2, none⟩)) ∧ w = w') := by
  obtain ⟨neg, A, c, l, s, hc, r, cn, hl, hz2, q⟩ := h.open
  have a1 := s.cell1
  have hln : ((l.length : Int) == 0) = false := by
    cases l with
    | nil => exfalso; cases neg <;> simp [dv, sg] at hz2 <;> exact hz hz2
    | cons x t => simp; omega
  go_enter Try.func130, Try.ntmps130
  go_wp2_with fail
  go_ret
  exact ⟨rfl, rfl⟩
theorem denom_n (gx : Nat) (z : Int) (n : Nat) (w : World) (h : IsN w gx 2 z n) (hz : z ≠ 0) :
    Calls Try.prog 106 #[.pointer (some ⟨gx, 0, none⟩)] w (fun e w' => e = .returned (.pointer (some ⟨gx, 2, none⟩)) ∧ w = w') := by
  have HD := Aside0.mk (down_n gx z n w h hz)
  go_enter Try.func106, Try.ntmps106
  go_wp2_with fail
  refine HD.out.mono ?_
  rintro e w2 ⟨rfl, rfl⟩
  go_wp2_with fail
  go_ret
  exact ⟨rfl, rfl⟩
theorem num_n (gx : Nat) (w : World) :
    Calls Try.prog 105 #[.pointer (some ⟨gx, 0, none⟩)] w (fun e w' => e = .returned (.pointer (some ⟨gx, 0, none⟩)) ∧ w = w') := by
  go_enter Try.func105, Try.ntmps105
  go_wp2_with fail
  go_ret
  exact ⟨rfl, rfl⟩
end Go.Proofs.Ytpbhepdgamoiaaa.Ra

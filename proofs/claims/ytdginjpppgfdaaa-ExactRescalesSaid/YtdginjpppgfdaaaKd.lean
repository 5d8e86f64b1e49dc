/-
  Fractions of package num: SetFrac brings two whole numbers to lowest terms. exact's ratio, cmp, add, Mul, Div, Sub, Lowest as values of whole numbers. exact's cmp and Cmp, add by numbers of any size, Add, Sub, Mul, Div, Lowest as values of whole numbers. exact's add by numbers of any size, Add, Sub, Mul, Div, Lowest as values of whole numbers. Plain laws of fractions: sums, products, quotients and comparisons of times, as triples of a numerator, a denominator and an error. Words for the walks of laws: times that have been boxed; the law's same.
-/
import Derived.Test.YtdginjpppgfdaaaKc
namespace Go.Proofs.Ytdginjpppgfdaaa.Ra
open Go.RowKit Go Go.Proofs.YtdginjpppgfdaaaW.PrintWords Go.Proofs.YtdginjpppgfdaaaW.PrintLast Go.Proofs.YtdginjpppgfdaaaW.PrintMore Go.Proofs.Ytdginjpppgfdaaa.Ml Go.Proofs.Ytdginjpppgfdaaa.Mn Go.Proofs.Ytdginjpppgfdaaa.Nd Go.Proofs.Ytdginjpppgfdaaa.P Go.Proofs.Ytdginjpppgfdaaa.Nc Go.Proofs.Ytdginjpppgfdaaa.Nb Go.Proofs.Ytdginjpppgfdaaa.Da Go.Proofs.Ytdginjpppgfdaaa.Qa Go.Proofs.Ytdginjpppgfdaaa.Qb Go.Proofs.Ytdginjpppgfdaaa.Ea
set_option linter.unusedVariables false
set_option linter.unusedSimpArgs false

def ratN (n d : Int) : Int := if d < 0 then lowN (-n) (-d) else lowN n d
def ratD (n d : Int) : Int := if d < 0 then lowD (-n) (-d) else lowD n d
/-- Where the search for the greatest common divisor stands. -/
structure GcI (w0 w : World) (a b : Int) (n : Nat) (vg vr : Value) (k : Nat) : Prop where mk ::
  at_ : ∃ Ag cg lg Ar cr lr, vg = .slice Ag (List.length lg) cg ∧ vr = .slice Ar (List.length lr) cr ∧ lg.length ≤ cg ∧ lr.length ≤ cr ∧ Kd.C (Kd.int .u32) w Ag lg.length lg ∧ Kd.C (Kd.int .u32) w Ar lr.length lr ∧ Cn 4294967296 lg ∧ Cn 4294967296 lr ∧ lg.length ≤ n ∧ lr.length ≤ n ∧ Int.gcd (dv 4294967296 lg) (dv 4294967296 lr) = Int.gcd a b ∧ dv 4294967296 lr ≤ (k : Int)
  b : Below w0.heap.size w0 w
theorem dv_pos {l : List Int} (h : Cn 4294967296 l) (hl : l ≠ []) : 0 < dv 4294967296 l := by
  have h1 := dv_len (a := []) (by decide) (Dg.nil _) h (by cases l with | nil => exact absurd rfl hl | cons x t => simp)
  simpa only [dv] using h1
theorem gcd_step {x y q r : Int} (h : x = q * y + r) : Int.gcd y r = Int.gcd x y := by
  rw [h, Int.gcd_comm (q * y + r) y, Int.mul_comm]
  simp
theorem quo_exact {x g q r : Int} (hg : 0 < g) (hd : g ∣ x) (h0 : 0 ≤ r) (h1 : r < g) (h : x = q * g + r) : q = x / g := by
  have : x / g = q := by
    rw [h, Int.add_comm, Int.add_mul_ediv_right _ _ (by omega), Int.ediv_eq_zero_of_lt h0 h1]
    omega
  exact this.symm
theorem sg_quo {na nb : Bool} {a b A B G : Int} (ha : a = sg na A) (hb : b = sg nb B) (hA : 0 ≤ A) (hB : 0 < B) (hG : G = (Int.gcd a b : Nat)) : sg (!(na == nb)) (A / G) = ratN a b ∧ B / G = ratD a b := by
  have e : ∀ n : Int, Int.gcd (-n) b = Int.gcd n b := fun n => Int.neg_gcd
  have dA : G ∣ A := by
    have : G ∣ a := by rw [hG]; exact Int.gcd_dvd_left _ _
    rw [ha] at this
    cases na
    · simpa [sg] using this
    · simpa [sg] using this
  unfold ratN ratD lowN lowD
  cases nb with
  | true =>
    have hb' : b = -B := by simpa [sg] using hb
    rw [if_pos (by omega), if_pos (by omega)]
    rw [show Int.gcd (-a) (-b) = Int.gcd a b by rw [Int.neg_gcd, Int.gcd_neg], ← hG, hb', Int.neg_neg]
    cases na with
    | true =>
      have ha' : a = -A := by simpa [sg] using ha
      rw [ha', Int.neg_neg]
      exact ⟨rfl, rfl⟩
    | false =>
      have ha' : a = A := by simpa [sg] using ha
      rw [ha', Int.neg_ediv_of_dvd dA]
      exact ⟨rfl, rfl⟩
  | false =>
    have hb' : b = B := by simpa [sg] using hb
    rw [if_neg (by omega), if_neg (by omega), ← hG, hb']
    cases na with
    | true =>
      have ha' : a = -A := by simpa [sg] using ha
      rw [ha', Int.neg_ediv_of_dvd dA]
      exact ⟨rfl, rfl⟩
    | false =>
      have ha' : a = A := by simpa [sg] using ha
      rw [ha']
      exact ⟨rfl, rfl⟩
theorem sg_dvd {s : Bool} {x z g : Int} (h : z = sg s x) (hd : g ∣ z) : g ∣ x := by
  subst h
  cases s
  · simpa [sg] using hd
  · simpa [sg] using hd
/-- What SetFrac answers. -/
def SfP (w : World) (gx : Nat) (a b : Int) (na nb B : Nat) (e : Ending) (w' : World) : Prop := e = .returned (.pointer (some ⟨gx, 0, none⟩)) ∧ Below B w w' ∧ IsN w' gx 0 (ratN a b) na ∧ IsN w' gx 2 (ratD a b) nb
theorem sg_bne (a b : Bool) : (a != b) = !(a == b) := by cases a <;> cases b <;> rfl
set_option maxHeartbeats 8000000 in
set_option maxRecDepth 100000 in
theorem setFrac_n (gx ga oa gb ob : Nat) (a b : Int) (na nb B : Nat) (w : World) (hx0 : Room w gx 0) (hx2 : Room w gx 2) (ha : IsN w ga oa a na) (hb : IsN w gb ob b nb) (hbp : b ≠ 0) (hl : na + nb ≤ 1000) (hB1 : B ≤ gx) :
    Calls Try.prog 88 #[.pointer (some ⟨gx, 0, none⟩), .pointer (some ⟨ga, oa, none⟩), .pointer (some ⟨gb, ob, none⟩)] w (SfP w gx a b na nb B) := by
  obtain ⟨nega, Aa, cca, la, sa, hca, ra, ca, hla, hza, qa⟩ := ha.open
  obtain ⟨negb, Ab, ccb, lb, sb, hcb, rb, cb, hlb, hzb, qb⟩ := hb.open
  have a1 := sa.cell1
  have b1 := sb.cell1
  have lgx := hx0.lt
  go_enter Try.func88, Try.ntmps88
  go_wp2_with fail
  refine start_ (n := 11) (S := fun w' => w'.cell? ⟨ga, oa + 1, none⟩ = some (.slice Aa la.length cca) ∧ w'.cell? ⟨gb, ob + 1, none⟩ = some (.slice Ab lb.length ccb)) (ds := []) (bs 11 0) (by kernel_rfl) rfl rfl ⟨a1, b1⟩ (fun hHeld => ?_)
  refine pure_ (i := 0) (N := some 16) (v := ?_) (a' := ?_) (bs 11 1) rfl rfl (by kernel_rfl) (fun _ _ _ h => h) (Or.inl ⟨by rfl, ?_⟩) ?_ ?_; rotate_left; (· intro w'; go_simp; first | done | with_reducible rfl); rotate_left; (· simp only [Act.put, List.setIfInBounds_toArray, List.set_cons_zero, List.set_cons_succ, i64_w, i32_w]; rfl)
  refine pure_ (i := 1) (N := some 17) (v := ?_) (a' := ?_) (bs 11 3) rfl rfl (by kernel_rfl) (fun _ _ _ h => h) (Or.inl ⟨by rfl, ?_⟩) ?_ ?_; rotate_left; (· intro w'; go_simp; first | done | with_reducible rfl); rotate_left; (· simp only [Act.put, List.setIfInBounds_toArray, List.set_cons_zero, List.set_cons_succ, i64_w, i32_w]; rfl)
  refine pure_ (i := 2) (N := some 18) (v := ?_) (a' := ?_) (bs 11 7) rfl rfl (by kernel_rfl) (fun _ _ _ h => h) (Or.inl ⟨by rfl, ?_⟩) ?_ ?_; rotate_left; (· intro w'; go_simp; first | done | with_reducible rfl); rotate_left; (· simp only [Act.put, List.setIfInBounds_toArray, List.set_cons_zero, List.set_cons_succ, i64_w, i32_w]; rfl)
  refine pure_ (i := 5) (N := some 21) (v := ?_) (a' := ?_) (bs 11 39) rfl rfl (by kernel_rfl) (fun _ _ _ h => h) (Or.inl ⟨by rfl, ?_⟩) ?_ ?_; rotate_left; (· intro w'; go_simp; first | done | with_reducible rfl); rotate_left; (· simp only [Act.put, List.setIfInBounds_toArray, List.set_cons_zero, List.set_cons_succ, i64_w, i32_w]; rfl)
  refine pure_ (i := 6) (N := some 22) (v := ?_) (a' := ?_) (bs 11 103) rfl rfl (by kernel_rfl) (fun _ _ _ h => h) (Or.inl ⟨by rfl, ?_⟩) ?_ ?_; rotate_left; (· intro w'; go_simp; first | done | with_reducible rfl); rotate_left; (· simp only [Act.put, List.setIfInBounds_toArray, List.set_cons_zero, List.set_cons_succ, i64_w, i32_w]; rfl)
  refine pure_ (i := 7) (N := some 23) (v := ?_) (a' := ?_) (bs 11 231) rfl rfl (by kernel_rfl) (fun _ _ _ h => h) (Or.inl ⟨by rfl, ?_⟩) ?_ ?_; rotate_left; (· intro w'; go_simp; first | done | with_reducible rfl); rotate_left; (· simp only [Act.put, List.setIfInBounds_toArray, List.set_cons_zero, List.set_cons_succ, i64_w, i32_w]; rfl)
  refine take_ (i := 3) (N := some 19) (v := ?_) (a' := ?_) (bs 11 239) rfl rfl (by kernel_rfl) (fun _ _ _ h => h) (Or.inl ⟨by rfl, ?_⟩) hHeld ?_ ?_; rotate_left; (· rintro w' ⟨s0, s1⟩; go_simp; first | done | with_reducible rfl); rotate_left; (· simp only [Act.put, List.setIfInBounds_toArray, List.set_cons_zero, List.set_cons_succ, i64_w, i32_w]; rfl)
  refine take_ (i := 8) (N := some 24) (v := ?_) (a' := ?_) (bs 11 495) rfl rfl (by kernel_rfl) (fun _ _ _ h => h) (Or.inl ⟨by rfl, ?_⟩) hHeld ?_ ?_; rotate_left; (· rintro w' ⟨s0, s1⟩; go_simp; first | done | with_reducible rfl); rotate_left; (· simp only [Act.put, List.setIfInBounds_toArray, List.set_cons_zero, List.set_cons_succ, i64_w, i32_w]; rfl)
  refine one_ (i := 4) (N := some 20) (bs 11 511) rfl rfl (by kernel_rfl) (by decide) (fun K hK => ?_)
  refine goes_ Try.func115 (by kernel_rfl) rfl #[.slice Aa la.length cca] (by rfl) rfl rfl (by simp only [List.map_toArray, List.map_cons, List.map_nil]; rfl) ?_
  with_reducible refine (clone_n Aa cca la w.drew hca (Kd.C_drew ra) (by omega)).mono ?_
  rintro e w2 ⟨v4, rfl, hM4, hb4⟩
  refine ⟨_, rfl, ?_⟩
  have hb4' := below_drew' hb4
  refine hK.out _ _ ⟨(sa.below hb4').cell1, (sb.below hb4').cell1⟩ (fun hHeld => ?_)
  clear hK K
  refine norm_ (a' := ?_) ?_ ?_; rotate_left; (· show Act.put _ (some 20) _ = _; simp only [Act.put, List.setIfInBounds_toArray, List.set_cons_zero, List.set_cons_succ, i64_w, i32_w]; rfl)
  refine pure_ (i := 9) (N := some 7) (v := ?_) (a' := ?_) (bs 11 1023) rfl rfl (by kernel_rfl) (fun _ _ _ h => h) (Or.inl ⟨by rfl, ?_⟩) ?_ ?_; rotate_left; (· intro w'; go_simp; first | done | with_reducible rfl); rotate_left; (· simp only [Act.put, List.setIfInBounds_toArray, List.set_cons_zero, List.set_cons_succ, i64_w, i32_w]; rfl)
  refine pure_ (i := 10) (N := some 8) (v := ?_) (a' := ?_) (bs 11 2047) rfl rfl (by kernel_rfl) (fun _ _ _ h => h) (Or.inl ⟨by rfl, ?_⟩) ?_ ?_; rotate_left; (· intro w'; go_simp; first | done | with_reducible rfl); rotate_left; (· simp only [Act.put, List.setIfInBounds_toArray, List.set_cons_zero, List.set_cons_succ, i64_w, i32_w]; rfl)
  refine done_ (by kernel_rfl) ?_
  obtain ⟨A4, c4, rfl, hc4, r4⟩ := hM4
  have HI := Aside0.mk (show GcI w w2 a b (na + nb) (.slice A4 la.length c4) (.slice Ab lb.length ccb) (dv 4294967296 lb).toNat from
    ⟨⟨A4, c4, la, Ab, ccb, lb, rfl, rfl, hc4, hcb, r4, Kd.C_below rb hb4', ca, cb, by omega, by omega, by
      have p0 := dv_nonneg (by decide) ca.dg
      have p1 := dv_nonneg (by decide) cb.dg
      rw [hza, hzb]
      cases nega <;> cases negb <;> simp [sg, Int.neg_gcd, Int.gcd_neg], by have := dv_nonneg (by decide) cb.dg; omega⟩, hb4'⟩)
  have HH := Aside0.mk (And.intro ha (And.intro hb (And.intro hx0 hx2)))
  clear hHeld r4 hb4 hb4' hc4 a1 b1
  go_wp2_with fail
  go_loopg [7, 8] (dv 4294967296 lb).toNat (fun kq v7 v8 w' => Aside0 (GcI w w' a b (na + nb) v7 v8 kq))
  case atStart => exact HI
  case round =>
    clear HI
    obtain ⟨⟨⟨Ag, cg, lg, Ar, cr, lr, rfl, rfl, hcg, hcr, rg, rr, cag, car, hlg, hlr, hgc, hk⟩, hbw⟩⟩ := hrel
    by_cases hr : lr = []
    · subst hr
      have hG : dv 4294967296 lg = (Int.gcd a b : Nat) := by
        have h0 := dv_nonneg (by decide) cag.dg
        rw [← hgc]
        simp only [dv, Int.gcd_zero]
        omega
      have hgp : 0 < dv 4294967296 lg := by
        have := Int.gcd_pos_of_ne_zero_right a hbp
        omega
      have hgn : lg ≠ [] := by rintro rfl; simp [dv] at hgp
      have sa' := sa.below hbw
      have sb' := sb.below hbw
      have a1 := sa'.cell1
      have b1 := sb'.cell1
      have RA := Aside0.mk (And.intro (Kd.C_below ra hbw) (And.intro (Kd.C_below rb hbw) rg))
      have HW := Aside0.mk (And.intro hbw (And.intro hG hgp))
      clear hbw hG hgp hgc hk rr rg
      go_wp2_with fail
      refine (divMag_n Aa cca la Ag cg lg wr hca RA.out.1 hcg RA.out.2.2 ca cag hgn (by omega) (by omega)).mono ?_
      rintro e w3 ⟨v0, v1, q1, r1, rfl, hq1, hr1, cq1, cr1, lq1, lr1, eq1, lt1, hb3⟩
      have a1' := (sa'.below hb3).cell1
      have b1' := (sb'.below hb3).cell1
      have K1 := Aside0.mk (And.intro hq1 (And.intro (quo_exact HW.out.2.2 (sg_dvd hza (HW.out.2.1 ▸ Int.gcd_dvd_left _ _)) (dv_nonneg (by decide) cr1.dg) lt1 eq1) hb3))
      clear hq1 hr1 cr1 lr1 eq1 lt1 a1 b1
      have hbw3 := HW.out.1.trans (hb3.mono HW.out.1.size)
      have HB3 := Aside0.mk hbw3
      go_wp2_with fail
      refine (divMag_n Ab ccb lb Ag cg lg w3 hcb (Kd.C_below RA.out.2.1 hb3) hcg (Kd.C_below RA.out.2.2 hb3) cb cag hgn (by omega) (by omega)).mono ?_
      rintro e w4 ⟨v2, v3, q2, r2, rfl, hq2, hr2, cq2, cr2, lq2, lr2, eq2, lt2, hb4⟩
      have hbw4 := hbw3.trans (hb4.mono hbw3.size)
      have sa4 := sa.below hbw4
      have sb4 := sb.below hbw4
      have a0 := sa4.cell0
      have b0 := sb4.cell0
      have K2 := Aside0.mk (And.intro hq2 (And.intro (quo_exact HW.out.2.2 (sg_dvd hzb (HW.out.2.1 ▸ Int.gcd_dvd_right _ _)) (dv_nonneg (by decide) cr2.dg) lt2 eq2) hb4))
      have HB4 := Aside0.mk hbw4
      clear hq2 hr2 cr2 lr2 eq2 lt2 a1' b1' hb3 hb4 hbw3 hbw4 sa' sb' HB3
      go_wp2_with fail
      refine start_ (n := 10) (S := fun w' => w'.cell? ⟨ga, oa, none⟩ = some (.bool nega) ∧ w'.cell? ⟨gb, ob, none⟩ = some (.bool negb)) (ds := []) (bs 10 0) (by kernel_rfl) rfl rfl ⟨a0, b0⟩ (fun hHeld => ?_)
      refine pure_ (i := 0) (N := some 54) (v := ?_) (a' := ?_) (bs 10 1) rfl rfl (by kernel_rfl) (fun _ _ _ h => h) (Or.inl ⟨by rfl, ?_⟩) ?_ ?_; rotate_left; (· intro w'; go_simp; first | done | with_reducible rfl); rotate_left; (· simp only [Act.put, List.setIfInBounds_toArray, List.set_cons_zero, List.set_cons_succ, i64_w, i32_w]; rfl)
      refine pure_ (i := 1) (N := some 55) (v := ?_) (a' := ?_) (bs 10 3) rfl rfl (by kernel_rfl) (fun _ _ _ h => h) (Or.inl ⟨by rfl, ?_⟩) ?_ ?_; rotate_left; (· intro w'; go_simp; first | done | with_reducible rfl); rotate_left; (· simp only [Act.put, List.setIfInBounds_toArray, List.set_cons_zero, List.set_cons_succ, i64_w, i32_w]; rfl)
      refine pure_ (i := 2) (N := some 56) (v := ?_) (a' := ?_) (bs 10 7) rfl rfl (by kernel_rfl) (fun _ _ _ h => h) (Or.inl ⟨by rfl, ?_⟩) ?_ ?_; rotate_left; (· intro w'; go_simp; first | done | with_reducible rfl); rotate_left; (· simp only [Act.put, List.setIfInBounds_toArray, List.set_cons_zero, List.set_cons_succ, i64_w, i32_w]; rfl)
      refine pure_ (i := 4) (N := some 58) (v := ?_) (a' := ?_) (bs 10 23) rfl rfl (by kernel_rfl) (fun _ _ _ h => h) (Or.inl ⟨by rfl, ?_⟩) ?_ ?_; rotate_left; (· intro w'; go_simp; first | done | with_reducible rfl); rotate_left; (· simp only [Act.put, List.setIfInBounds_toArray, List.set_cons_zero, List.set_cons_succ, i64_w, i32_w]; rfl)
      refine pure_ (i := 5) (N := some 59) (v := ?_) (a' := ?_) (bs 10 55) rfl rfl (by kernel_rfl) (fun _ _ _ h => h) (Or.inl ⟨by rfl, ?_⟩) ?_ ?_; rotate_left; (· intro w'; go_simp; first | done | with_reducible rfl); rotate_left; (· simp only [Act.put, List.setIfInBounds_toArray, List.set_cons_zero, List.set_cons_succ, i64_w, i32_w]; rfl)
      refine pure_ (i := 6) (N := some 60) (v := ?_) (a' := ?_) (bs 10 119) rfl rfl (by kernel_rfl) (fun _ _ _ h => h) (Or.inl ⟨by rfl, ?_⟩) ?_ ?_; rotate_left; (· intro w'; go_simp; first | done | with_reducible rfl); rotate_left; (· simp only [Act.put, List.setIfInBounds_toArray, List.set_cons_zero, List.set_cons_succ, i64_w, i32_w]; rfl)
      refine take_ (i := 3) (N := some 57) (v := ?_) (a' := ?_) (bs 10 127) rfl rfl (by kernel_rfl) (fun _ _ _ h => h) (Or.inl ⟨by rfl, ?_⟩) hHeld ?_ ?_; rotate_left; (· rintro w' ⟨s0, s1⟩; go_simp; first | done | with_reducible rfl); rotate_left; (· simp only [Act.put, List.setIfInBounds_toArray, List.set_cons_zero, List.set_cons_succ, i64_w, i32_w]; rfl)
      refine take_ (i := 7) (N := some 61) (v := ?_) (a' := ?_) (bs 10 255) rfl rfl (by kernel_rfl) (fun _ _ _ h => h) (Or.inl ⟨by rfl, ?_⟩) hHeld ?_ ?_; rotate_left; (· rintro w' ⟨s0, s1⟩; go_simp; first | done | with_reducible rfl); rotate_left; (· simp only [Act.put, List.setIfInBounds_toArray, List.set_cons_zero, List.set_cons_succ, i64_w, i32_w]; rfl)
      refine pure_ (i := 8) (N := some 62) (v := ?_) (a' := ?_) (bs 10 511) rfl rfl (by kernel_rfl) (fun _ _ _ h => h) (Or.inl ⟨by rfl, ?_⟩) ?_ ?_; rotate_left; (· intro w'; go_simp; first | done | with_reducible rfl); rotate_left; (· simp only [Act.put, List.setIfInBounds_toArray, List.set_cons_zero, List.set_cons_succ, i64_w, i32_w]; rfl)
      refine pure_ (i := 9) (N := some 15) (v := ?_) (a' := ?_) (bs 10 1023) rfl rfl (by kernel_rfl) (fun _ _ _ h => h) (Or.inl ⟨by rfl, ?_⟩) ?_ ?_; rotate_left; (· intro w'; go_simp; first | done | with_reducible rfl); rotate_left; (· simp only [Act.put, List.setIfInBounds_toArray, List.set_cons_zero, List.set_cons_succ, i64_w, i32_w]; rfl)
      refine done_ (by kernel_rfl) ?_
      have X := HH.out.2.2
      have hb5 : Below w4.heap.size w4 w4.drew := below_drew' (Below.refl _ _)
      have hbw5 := HB4.out.trans (hb5.mono HB4.out.size)
      go_wp2_with fail
      refine (set_n gx 0 v0 q1 (nega != negb) na w4.drew (X.1.below hbw5) ((K1.out.1.below K2.out.2.2).below hb5) cq1 (by omega)).mono ?_
      rintro e w6 ⟨rfl, hw6, hN6⟩
      have K3 := Aside0.mk (And.intro hw6 (And.intro hN6 (And.intro hbw5 ((K2.out.1.below hb5)))))
      clear hw6 hN6 hbw5 hb5 X
      go_wp2_with fail
      have hr2' : Room w6 gx 2 := by
        obtain ⟨n2, v2', h2⟩ := HH.out.2.2.2.below K3.out.2.2.1
        exact ⟨n2, v2', K3.out.1.slot h2 (.inr (by omega))⟩
      refine (set_n gx 2 v2 q2 false nb w6 hr2' (K3.out.1.mag (HH.out.2.2.1.below K3.out.2.2.1) K3.out.2.2.2) cq2 (by omega)).mono ?_
      rintro e w7 ⟨rfl, hw7, hN7⟩
      have K4 := Aside0.mk (And.intro hw7 hN7)
      clear hw7 hN7
      go_wp2_with fail
      go_ret
      have hsq := sg_quo hza hzb (dv_nonneg (by decide) ca.dg) (dv_pos cb (by rintro rfl; cases negb <;> simp [dv, sg] at hzb <;> exact hbp hzb)) HW.out.2.1
      rw [← K1.out.2.1, ← K2.out.2.1, ← sg_bne] at hsq
      have hs0 := K3.out.2.2.1.size
      refine ⟨rfl, ?_, hsq.1 ▸ K4.out.1.isN hr2' K3.out.2.1 (.inr (by omega)), hsq.2 ▸ K4.out.2⟩
      have hB : Below B w w4.drew := ⟨K3.out.2.2.1.os, K3.out.2.2.1.tape, K3.out.2.2.1.output, K3.out.2.2.1.size, fun i hi => K3.out.2.2.1.block i (by omega)⟩
      exact hB.trans ((K3.out.1.below hB1 (by omega)).trans (K4.out.1.below hB1 (by have := K3.out.1.size; omega)))
    · cases gk with
      | zero =>
        exfalso
        have := dv_pos car hr
        omega
      | succ k1 =>
        have hpos : 0 < lr.length := by cases lr with | nil => exact absurd rfl hr | cons x t => simp
        have HW := Aside0.mk (And.intro hbw (And.intro hgc hk))
        have HR := Aside0.mk rr
        have HG := Aside0.mk rg
        clear hbw hgc hk rr rg
        go_wp2_with fail
        refine (divMag_n Ag cg lg Ar cr lr wr hcg HG.out hcr HR.out cag car hr (by omega) (by omega)).mono ?_
        rintro e w3 ⟨v0, v1, q1, r1, rfl, hq1, hr1, cq1, cr1, lq1, lr1, eq1, lt1, hb3⟩
        obtain ⟨A5, c5, rfl, hc5, r5⟩ := hr1
        have HW3 := Aside0.mk (HW.out.1.trans (hb3.mono HW.out.1.size))
        have HN := Aside0.mk (show GcI w w3 a b (na + nb) (.slice Ar lr.length cr) (.slice A5 r1.length c5) k1 from
          ⟨⟨Ar, cr, lr, A5, c5, r1, rfl, rfl, hcr, hc5, Kd.C_below HR.out hb3, r5, car, cr1, hlr, by omega, (gcd_step eq1).trans HW.out.2.1, by have := HW.out.2.2; omega⟩, HW3.out⟩)
        clear hq1 eq1 lt1 hb3 r5
        go_wp2_with fail
        go_roundg k1
        case measure => omega
        case rel => exact HN
/-- What down answers: the denominator that is there. -/
theorem down_n (gx : Nat) (z : Int) (n : Nat) (w : World) (h : IsN w gx 2 z n) (hz : z ≠ 0) :
    Calls Try.prog 116 #[.pointer (some ⟨gx, 0, none⟩)] w (fun e w' => e = .returned (.pointer (some ⟨gx, 2, none⟩)) ∧ w = w') := by
  obtain ⟨neg, A, c, l, s, hc, r, cn, hl, hz2, q⟩ := h.open
  have a1 := s.cell1
  have hln : ((l.length : Int) == 0) = false := by
    cases l with
    | nil => exfalso; cases neg <;> simp [dv, sg] at hz2 <;> exact hz hz2
    | cons x t => simp; omega
  go_enter Try.func116, Try.ntmps116
  go_wp2_with fail
  go_ret
  exact ⟨rfl, rfl⟩
theorem denom_n (gx : Nat) (z : Int) (n : Nat) (w : World) (h : IsN w gx 2 z n) (hz : z ≠ 0) :
    Calls Try.prog 90 #[.pointer (some ⟨gx, 0, none⟩)] w (fun e w' => e = .returned (.pointer (some ⟨gx, 2, none⟩)) ∧ w = w') := by
  have HD := Aside0.mk (down_n gx z n w h hz)
  go_enter Try.func90, Try.ntmps90
  go_wp2_with fail
  refine HD.out.mono ?_
  rintro e w2 ⟨rfl, rfl⟩
  go_wp2_with fail
  go_ret
  exact ⟨rfl, rfl⟩
theorem num_n (gx : Nat) (w : World) :
    Calls Try.prog 89 #[.pointer (some ⟨gx, 0, none⟩)] w (fun e w' => e = .returned (.pointer (some ⟨gx, 0, none⟩)) ∧ w = w') := by
  go_enter Try.func89, Try.ntmps89
  go_wp2_with fail
  go_ret
  exact ⟨rfl, rfl⟩
end Go.Proofs.Ytdginjpppgfdaaa.Ra

namespace Go.Proofs.Ytdginjpppgfdaaa.Rb
open Go.RowKit Go Go.Proofs.YtdginjpppgfdaaaW.PrintWords Go.Proofs.YtdginjpppgfdaaaW.PrintLast Go.Proofs.YtdginjpppgfdaaaW.PrintMore Go.Proofs.Ytdginjpppgfdaaa.Ml Go.Proofs.Ytdginjpppgfdaaa.Mn Go.Proofs.Ytdginjpppgfdaaa.Nd Go.Proofs.Ytdginjpppgfdaaa.P Go.Proofs.Ytdginjpppgfdaaa.Nc Go.Proofs.Ytdginjpppgfdaaa.Nb Go.Proofs.Ytdginjpppgfdaaa.Qa Go.Proofs.Ytdginjpppgfdaaa.Qb Go.Proofs.Ytdginjpppgfdaaa.Ea Go.Proofs.Ytdginjpppgfdaaa.Eb Go.Proofs.Ytdginjpppgfdaaa.Ec Go.Proofs.Ytdginjpppgfdaaa.Ed Go.Proofs.Ytdginjpppgfdaaa.Ee Go.Proofs.Ytdginjpppgfdaaa.Ra
set_option linter.unusedVariables false
set_option linter.unusedSimpArgs false

/-- A fraction as a time. -/
def vLow (n d : Int) : Value := if valid (ratN n d) (ratD n d) then two (tm (ratN n d) (ratD n d)) (er 0) else two (tm 0 0) (er 2)
theorem ratD_pos {n d : Int} (hd : d ≠ 0) : 1 ≤ ratD n d := by
  have key : ∀ n d : Int, 1 ≤ d → 1 ≤ lowD n d := by
    intro n d hd
    have hg : 1 ≤ ((Int.gcd n d : Nat) : Int) := by
      have := Int.gcd_pos_of_ne_zero_right n (show d ≠ 0 by omega)
      omega
    have e2 : d = lowD n d * (Int.gcd n d : Int) := (Int.ediv_mul_cancel (Int.gcd_dvd_right n d)).symm
    refine Int.le_of_not_gt fun h0 => ?_
    have h : lowD n d ≤ 0 := by omega
    have : lowD n d * (Int.gcd n d : Int) ≤ 0 * (Int.gcd n d : Int) := Int.mul_le_mul_of_nonneg_right h (by omega)
    omega
  unfold ratD
  split
  · exact key _ _ (by omega)
  · exact key _ _ (by omega)
theorem cmp_gt {q m : Int} (h : m < q) : cmpI q m = 1 := by unfold cmpI; rw [if_neg (by omega), if_pos h]
theorem cmp_le {q m : Int} (h : ¬ m < q) : ∃ c : Int, c ≤ 0 ∧ cmpI q m = c := by
  refine ⟨_, ?_, rfl⟩
  unfold cmpI
  by_cases h2 : q < m
  · rw [if_pos h2]; decide
  · rw [if_neg h2, if_neg h]; decide
theorem room_rat0 (w : World) : Room (w.alloc (.cells #[.bool false, .slice none 0 0, .bool false, .slice none 0 0] 99)) w.heap.size 0 :=
  ⟨false, .slice none 0 0, ⟨_, 99, blk_new w _, ⟨none, 0, 0, rfl⟩, rfl, rfl⟩⟩
theorem room_rat2 (w : World) : Room (w.alloc (.cells #[.bool false, .slice none 0 0, .bool false, .slice none 0 0] 99)) w.heap.size 2 :=
  ⟨false, .slice none 0 0, ⟨_, 99, blk_new w _, ⟨none, 0, 0, rfl⟩, rfl, rfl⟩⟩
set_option maxHeartbeats 8000000 in
set_option maxRecDepth 100000 in
theorem ratio_n (gn gd : Nat) (n d : Int) (nn nd : Nat) (w : World) (hn : IsN w gn 0 n nn) (hd : IsN w gd 0 d nd) (hd0 : d ≠ 0) (hl : nn + nd ≤ 900) :
    Calls Try.prog 59 #[.pointer (some ⟨gn, 0, none⟩), .pointer (some ⟨gd, 0, none⟩)] w (ValP w (vLow n d)) := by
  have hu := Try.underlying25
  have hb1 : Below w.heap.size w (w.alloc (timeObj 0 0)) := below_alloc (Below.refl _ w) _
  have hk1 := blk_new w (timeObj 0 0)
  have hsz : (w.alloc (timeObj 0 0)).heap.size = w.heap.size + 1 := by simp
  have hD := ratD_pos (n := n) hd0
  have hV : vLow n d = if valid (ratN n d) (ratD n d) then two (tm (ratN n d) (ratD n d)) (er 0) else two (tm 0 0) (er 2) := rfl
  generalize vLow n d = V at hV ⊢
  generalize hw1 : w.alloc (timeObj 0 0) = w1 at *
  have hb2 : Below w1.heap.size w1 (w1.alloc (.cells #[.bool false, .slice none 0 0, .bool false, .slice none 0 0] 99)) := below_alloc (Below.refl _ w1) _
  have h0 := room_rat0 w1
  have h2 := room_rat2 w1
  have hk2 := blk_below hk1 hb2
  have hF := setFrac_n w1.heap.size gn 0 gd 0 n d nn nd w1.heap.size _ h0 h2 ((hn.below hb1).below hb2) ((hd.below hb1).below hb2) hd0 (by omega) (Nat.le_refl _)
  unfold SfP at hF
  generalize hgN : ratN n d = N at *
  generalize hgD : ratD n d = D at *
  have HV := Aside0.mk hV
  have HB2 := Aside0.mk (And.intro (hb1.trans (hb2.mono hb1.size)) (And.intro hk1 hb2))
  rw [hsz] at hF
  have HF := Aside0.mk hF
  clear hV hb1 hb2 h0 h2 hk2 hF hk1 hgN hgD
  go_enter Try.func59, Try.ntmps59
  go_wp2_with fail
  rw [show w.alloc (.cells #[.int .i64 0, .int .i64 0] 25) = w1 from hw1]
  refine HF.out.mono ?_
  rintro e w3 ⟨rfl, hb3, hN3, hD3⟩
  have B1 : Below w1.heap.size w1 w3 := HB2.out.2.2.trans (by rw [hsz]; exact hb3)
  have B0 : Below w.heap.size w w1 := by rw [← hw1]; exact below_alloc (Below.refl _ w) _
  have HB3 := Aside0.mk (And.intro (B0.trans (B1.mono B0.size)) (blk_below HB2.out.2.1 B1))
  have H3 := Aside0.mk (And.intro hN3 hD3)
  clear hb3 hN3 hD3 HF HB2 B1 B0 hn hd
  go_wp2_with fail
  refine (newInt_n 1152921504606846976 w3 (by decide) (by decide)).mono ?_
  rintro e w4 ⟨g4, hg4, rfl, hb4, hN4⟩
  have HB4 := Aside0.mk (And.intro (HB3.out.1.trans (hb4.mono HB3.out.1.size)) (blk_below HB3.out.2 hb4))
  have H4 := Aside0.mk (And.intro (H3.out.1.below hb4) (And.intro (H3.out.2.below hb4) hN4))
  clear hb4 hN4 HB3 H3
  go_wp2_with fail
  refine (num_n _ w4).mono ?_
  rintro e w5 ⟨rfl, rfl⟩
  go_wp2_with fail
  refine (cmpAbs_n (w.heap.size + 1) 0 g4 0 N 1152921504606846976 _ _ w4 H4.out.1 H4.out.2.2 (by omega)).mono ?_
  rintro e w5 ⟨rfl, hb5⟩
  have HB5 := Aside0.mk (And.intro (HB4.out.1.trans (hb5.mono HB4.out.1.size)) (blk_below HB4.out.2 hb5))
  have H5 := Aside0.mk (And.intro (H4.out.1.below hb5) (And.intro (H4.out.2.1.below hb5) (H4.out.2.2.below hb5)))
  obtain ⟨r0, r1, r2, r3⟩ := time_cells HB5.out.2
  clear hb5 HB4 H4
  have nab : (1152921504606846976 : Int).natAbs = 1152921504606846976 := rfl
  by_cases hbig : ((1152921504606846976 : Int).natAbs : Int) < (N.natAbs : Int)
  · rw [cmp_gt hbig]
    have hv : valid N D = false := by unfold valid; simp; rw [nab] at hbig; omega
    have HV2 := Aside0.mk (show V = .tuple #[.agg #[.int .i64 0, .int .i64 0], .int .i64 2] by rw [HV.out, hv]; rfl)
    clear hbig hv nab
    go_wp2_with fail
    refine bodyPost_ret (results_ct rfl _ _ w.heap.size 25 #[.int .i64 0, .int .i64 0] (0, 0) _ rfl (blk_two HB5.out.2) Try.underlying25 rfl (by kernel_rfl)) rfl ?_
    exact ⟨by rw [HV2.out]; rfl, (HB5.out.1.setCell (by simp) _).setCell (by simp) _⟩
  · obtain ⟨c, hc, ec⟩ := cmp_le hbig
    rw [ec]
    have HX := Aside0.mk (show ((N.natAbs : Nat) : Int) ≤ 1152921504606846976 by rw [nab] at hbig; omega)
    clear ec hbig nab
    go_wp2_with fail
    refine (denom_n (w.heap.size + 1) D nd w5 H5.out.2.1 (by omega)).mono ?_
    rintro e w6 ⟨rfl, rfl⟩
    go_wp2_with fail
    refine (cmp_n (w.heap.size + 1) 2 g4 0 D 1152921504606846976 _ _ w5 H5.out.2.1 H5.out.2.2 (by omega)).mono ?_
    rintro e w6 ⟨rfl, hb6⟩
    have HB6 := Aside0.mk (And.intro (HB5.out.1.trans (hb6.mono HB5.out.1.size)) (blk_below HB5.out.2 hb6))
    have H6 := Aside0.mk (And.intro (H5.out.1.below hb6) (H5.out.2.1.below hb6))
    obtain ⟨q0, q1, q2, q3⟩ := time_cells HB6.out.2
    clear hb6 HB5 H5 r0 r1 r2 r3
    by_cases hbig : (1152921504606846976 : Int) < D
    · rw [cmp_gt hbig]
      have hv : valid N D = false := by unfold valid; simp; omega
      have HV2 := Aside0.mk (show V = .tuple #[.agg #[.int .i64 0, .int .i64 0], .int .i64 2] by rw [HV.out, hv]; rfl)
      clear hbig hv
      go_wp2_with fail
      refine bodyPost_ret (results_ct rfl _ _ w.heap.size 25 #[.int .i64 0, .int .i64 0] (0, 0) _ rfl (blk_two HB6.out.2) Try.underlying25 rfl (by kernel_rfl)) rfl ?_
      exact ⟨by rw [HV2.out]; rfl, (HB6.out.1.setCell (by simp) _).setCell (by simp) _⟩
    · obtain ⟨c2, hc2, ec2⟩ := cmp_le hbig
      rw [ec2]
      have hx := HX.out
      have hv : valid N D = true := by unfold valid; simp; omega
      have HV2 := Aside0.mk (show V = .tuple #[.agg #[.int .i64 N, .int .i64 D], .int .i64 0] by rw [HV.out, hv]; rfl)
      clear ec2 hv
      go_wp2_with fail
      refine (num_n _ w6).mono ?_
      rintro e w7 ⟨rfl, rfl⟩
      go_wp2_with fail
      refine (int64_n (w.heap.size + 1) 0 N _ w6 H6.out.1 (by omega) (by omega) (by omega)).mono ?_
      rintro e w7 ⟨rfl, hb7⟩
      have HB7 := Aside0.mk (And.intro (HB6.out.1.trans (hb7.mono HB6.out.1.size)) (blk_below HB6.out.2 hb7))
      have H7 := Aside0.mk (H6.out.2.below hb7)
      clear hb7 HB6 H6 q0 q1 q2 q3
      go_wp2_with fail
      refine (denom_n (w.heap.size + 1) D nd w7 H7.out (by omega)).mono ?_
      rintro e w8 ⟨rfl, rfl⟩
      go_wp2_with fail
      refine (int64_n (w.heap.size + 1) 2 D _ w7 H7.out (by omega) (by omega) (by omega)).mono ?_
      rintro e w8 ⟨rfl, hb8⟩
      have HB8 := Aside0.mk (And.intro (HB7.out.1.trans (hb8.mono HB7.out.1.size)) (blk_below HB7.out.2 hb8))
      obtain ⟨q0, q1, q2, q3⟩ := time_cells HB8.out.2
      clear hb8 HB7 H7
      go_wp2_with fail
      refine bodyPost_ret (results_ct rfl _ _ w.heap.size 25 #[.int .i64 N, .int .i64 D] (0, 0) _ rfl (blk_two HB8.out.2) Try.underlying25 rfl (by kernel_rfl)) rfl ?_
      exact ⟨by rw [HV2.out]; rfl, (HB8.out.1.setCell (by simp) _).setCell (by simp) _⟩
end Go.Proofs.Ytdginjpppgfdaaa.Rb

namespace Go.Proofs.Ytdginjpppgfdaaa.Rc
open Go.RowKit Go Go.Proofs.YtdginjpppgfdaaaW.PrintWords Go.Proofs.YtdginjpppgfdaaaW.PrintLast Go.Proofs.YtdginjpppgfdaaaW.PrintMore Go.Proofs.Ytdginjpppgfdaaa.Ml Go.Proofs.Ytdginjpppgfdaaa.Mn Go.Proofs.Ytdginjpppgfdaaa.Nd Go.Proofs.Ytdginjpppgfdaaa.P Go.Proofs.Ytdginjpppgfdaaa.Nc Go.Proofs.Ytdginjpppgfdaaa.Nb Go.Proofs.Ytdginjpppgfdaaa.Qa Go.Proofs.Ytdginjpppgfdaaa.Qb Go.Proofs.Ytdginjpppgfdaaa.Ea Go.Proofs.Ytdginjpppgfdaaa.Eb Go.Proofs.Ytdginjpppgfdaaa.Ec Go.Proofs.Ytdginjpppgfdaaa.Ed Go.Proofs.Ytdginjpppgfdaaa.Ee Go.Proofs.Ytdginjpppgfdaaa.Ra Go.Proofs.Ytdginjpppgfdaaa.Rb
set_option linter.unusedVariables false
set_option linter.unusedSimpArgs false

/-- Two times boxed, and the row of the two. -/
structure Boxed2 (w W : World) (n1 d1 n2 d2 : Int) : Prop where
  a : W.heap[w.heap.size]? = some (timeObj n1 d1)
  b : W.heap[w.heap.size + 1]? = some (timeObj n2 d2)
  s : Pair W (w.heap.size + 1 + 1) n1 d1 n2 d2
  below : Below w.heap.size w W
theorem Boxed2.start (w : World) (n1 d1 n2 d2 : Int) : Boxed2 w (((w.alloc (timeObj n1 d1)).alloc (timeObj n2 d2)).alloc (.cells #[.int .i64 n1, .int .i64 d1, .int .i64 n2, .int .i64 d2] 25)) n1 d1 n2 d2 := by
  have e1 : (w.alloc (timeObj n1 d1)).heap.size = w.heap.size + 1 := by simp
  have e2 : ((w.alloc (timeObj n1 d1)).alloc (timeObj n2 d2)).heap.size = w.heap.size + 1 + 1 := by simp
  have k4 := blk_new ((w.alloc (timeObj n1 d1)).alloc (timeObj n2 d2)) (.cells #[.int .i64 n1, .int .i64 d1, .int .i64 n2, .int .i64 d2] 25)
  have k2 := blk_new (w.alloc (timeObj n1 d1)) (timeObj n2 d2)
  have k1 := blk_new w (timeObj n1 d1)
  rw [e2] at k4
  rw [e1] at k2
  refine ⟨blk_alloc (blk_alloc k1 _) _, blk_alloc k2 _, k4, below_alloc (below_alloc (below_alloc (Below.refl _ w) _) _) _⟩
theorem Boxed2.step {w W W2 : World} {n1 d1 n2 d2 : Int} (h : Boxed2 w W n1 d1 n2 d2) (hb : Below W.heap.size W W2) : Boxed2 w W2 n1 d1 n2 d2 :=
  ⟨blk_below h.a hb, blk_below h.b hb, blk_below (o := .cells _ _ _) h.s hb, h.below.trans (hb.mono h.below.size)⟩
theorem valid_bd {n d : Int} (h : valid n d = true) : 1 ≤ d ∧ d ≤ 1152921504606846976 ∧ -1152921504606846976 ≤ n ∧ n ≤ 1152921504606846976 := by
  unfold valid at h
  simp at h
  omega
set_option maxHeartbeats 8000000 in
set_option maxRecDepth 100000 in
theorem xcmpS_n (n1 d1 n2 d2 : Int) (w : World) (h1 : small n1 d1 = true) (h2 : small n2 d2 = true) (p1 : 1 ≤ d1) (p2 : 1 ≤ d2) :
    Calls Try.prog 65 #[tm n1 d1, tm n2 d2] w (ValP w (.int .i64 (cmpI (n1 * d2) (n2 * d1)))) := by
  have hu := Try.underlying25
  have hB := Aside0.mk (Boxed2.start w n1 d1 n2 d2)
  have hs1 : (n1 < 1073741824 ∧ -1073741824 < n1) ∧ d1 < 1073741824 := by unfold small at h1; simpa using h1
  have hs2 : (n2 < 1073741824 ∧ -1073741824 < n2) ∧ d2 < 1073741824 := by unfold small at h2; simpa using h2
  obtain ⟨x1, x2⟩ := mul_bd hs1.1.2 hs1.1.1 p2 hs2.2
  obtain ⟨y1, y2⟩ := mul_bd hs2.1.2 hs2.1.1 p1 hs1.2
  have e1 : wrap64 (n1 * d2) = n1 * d2 := w64 (by omega) (by omega)
  have e2 : wrap64 (n2 * d1) = n2 * d1 := w64 (by omega) (by omega)
  generalize hX : n1 * d2 = X at *
  generalize hY : n2 * d1 = Y at *
  have E := Aside0.mk (And.intro e1 e2)
  clear hs1 hs2 e1 e2
  unfold tm
  go_enter Try.func65, Try.ntmps65
  go_wp2_with fail
  generalize hW : World.alloc (World.alloc _ _) _ = W
  have HB := Aside0.mk (show Boxed2 w W n1 d1 n2 d2 by rw [← hW]; exact hB.out)
  clear hW hB
  refine (little2_n _ n1 d1 n2 d2 W HB.out.s).mono ?_
  rintro e w2 ⟨rfl, hb2⟩
  rw [h1, h2]
  have HB2 := Aside0.mk (HB.out.step hb2)
  clear hb2 HB
  obtain ⟨a0, a1, _, _⟩ := time_cells HB2.out.a
  obtain ⟨b0, b1, _, _⟩ := time_cells HB2.out.b
  have E1 : wrap64 (n1 * d2) = X := by rw [hX]; exact E.out.1
  have E2 : wrap64 (n2 * d1) = Y := by rw [hY]; exact E.out.2
  clear hX hY
  go_wp2_with fail
  refine start_ (n := 12) (S := fun w' => w'.cell? ⟨w.heap.size, 0, none⟩ = some (.int .i64 n1) ∧ w'.cell? ⟨w.heap.size, 1, none⟩ = some (.int .i64 d1) ∧ w'.cell? ⟨w.heap.size + 1, 0, none⟩ = some (.int .i64 n2) ∧ w'.cell? ⟨w.heap.size + 1, 1, none⟩ = some (.int .i64 d2)) (ds := []) (bs 12 0) (by kernel_rfl) rfl rfl ⟨a0, a1, b0, b1⟩ (fun hHeld => ?_)
  refine pure_ (i := 0) (N := some 11) (v := ?_) (a' := ?_) (bs 12 1) rfl rfl (by kernel_rfl) (fun _ _ _ h => h) (Or.inl ⟨by rfl, ?_⟩) ?_ ?_; rotate_left; (· intro w'; go_simp; first | done | with_reducible rfl); rotate_left; (· simp only [Act.put, List.setIfInBounds_toArray, List.set_cons_zero, List.set_cons_succ, i64_w, i32_w]; rfl)
  refine pure_ (i := 2) (N := some 13) (v := ?_) (a' := ?_) (bs 12 5) rfl rfl (by kernel_rfl) (fun _ _ _ h => h) (Or.inl ⟨by rfl, ?_⟩) ?_ ?_; rotate_left; (· intro w'; go_simp; first | done | with_reducible rfl); rotate_left; (· simp only [Act.put, List.setIfInBounds_toArray, List.set_cons_zero, List.set_cons_succ, i64_w, i32_w]; rfl)
  refine pure_ (i := 5) (N := some 16) (v := ?_) (a' := ?_) (bs 12 37) rfl rfl (by kernel_rfl) (fun _ _ _ h => h) (Or.inl ⟨by rfl, ?_⟩) ?_ ?_; rotate_left; (· intro w'; go_simp; first | done | with_reducible rfl); rotate_left; (· simp only [Act.put, List.setIfInBounds_toArray, List.set_cons_zero, List.set_cons_succ, i64_w, i32_w]; rfl)
  refine pure_ (i := 7) (N := some 18) (v := ?_) (a' := ?_) (bs 12 165) rfl rfl (by kernel_rfl) (fun _ _ _ h => h) (Or.inl ⟨by rfl, ?_⟩) ?_ ?_; rotate_left; (· intro w'; go_simp; first | done | with_reducible rfl); rotate_left; (· simp only [Act.put, List.setIfInBounds_toArray, List.set_cons_zero, List.set_cons_succ, i64_w, i32_w]; rfl)
  refine take_ (i := 1) (N := some 12) (v := ?_) (a' := ?_) (bs 12 167) rfl rfl (by kernel_rfl) (fun _ _ _ h => h) (Or.inl ⟨by rfl, ?_⟩) hHeld ?_ ?_; rotate_left; (· rintro w' ⟨s0, s1, s2, s3⟩; go_simp; first | done | with_reducible rfl); rotate_left; (· simp only [Act.put, List.setIfInBounds_toArray, List.set_cons_zero, List.set_cons_succ, i64_w, i32_w]; rfl)
  refine take_ (i := 3) (N := some 14) (v := ?_) (a' := ?_) (bs 12 175) rfl rfl (by kernel_rfl) (fun _ _ _ h => h) (Or.inl ⟨by rfl, ?_⟩) hHeld ?_ ?_; rotate_left; (· rintro w' ⟨s0, s1, s2, s3⟩; go_simp; first | done | with_reducible rfl); rotate_left; (· simp only [Act.put, List.setIfInBounds_toArray, List.set_cons_zero, List.set_cons_succ, i64_w, i32_w]; rfl)
  refine pure_ (i := 4) (N := some 15) (v := ?_) (a' := ?_) (bs 12 191) rfl rfl (by kernel_rfl) (fun _ _ _ h => h) (Or.inl ⟨by rfl, ?_⟩) ?_ ?_; rotate_left; (· intro w'; go_simp; first | done | with_reducible rfl); rotate_left; (· simp only [Act.put, List.setIfInBounds_toArray, List.set_cons_zero, List.set_cons_succ, i64_w, i32_w]; rfl)
  refine pure_ (i := 10) (N := some 5) (v := ?_) (a' := ?_) (bs 12 1215) rfl rfl (by kernel_rfl) (fun _ _ _ h => h) (Or.inl ⟨by rfl, ?_⟩) ?_ ?_; rotate_left; (· intro w'; go_simp; first | done | with_reducible rfl); rotate_left; (· simp only [Act.put, List.setIfInBounds_toArray, List.set_cons_zero, List.set_cons_succ, i64_w, i32_w]; rfl)
  refine take_ (i := 6) (N := some 17) (v := ?_) (a' := ?_) (bs 12 1279) rfl rfl (by kernel_rfl) (fun _ _ _ h => h) (Or.inl ⟨by rfl, ?_⟩) hHeld ?_ ?_; rotate_left; (· rintro w' ⟨s0, s1, s2, s3⟩; go_simp; first | done | with_reducible rfl); rotate_left; (· simp only [Act.put, List.setIfInBounds_toArray, List.set_cons_zero, List.set_cons_succ, i64_w, i32_w]; rfl)
  refine take_ (i := 8) (N := some 19) (v := ?_) (a' := ?_) (bs 12 1535) rfl rfl (by kernel_rfl) (fun _ _ _ h => h) (Or.inl ⟨by rfl, ?_⟩) hHeld ?_ ?_; rotate_left; (· rintro w' ⟨s0, s1, s2, s3⟩; go_simp; first | done | with_reducible rfl); rotate_left; (· simp only [Act.put, List.setIfInBounds_toArray, List.set_cons_zero, List.set_cons_succ, i64_w, i32_w]; rfl)
  refine pure_ (i := 9) (N := some 20) (v := ?_) (a' := ?_) (bs 12 2047) rfl rfl (by kernel_rfl) (fun _ _ _ h => h) (Or.inl ⟨by rfl, ?_⟩) ?_ ?_; rotate_left; (· intro w'; go_simp; first | done | with_reducible rfl); rotate_left; (· simp only [Act.put, List.setIfInBounds_toArray, List.set_cons_zero, List.set_cons_succ, i64_w, i32_w]; rfl)
  refine pure_ (i := 11) (N := some 6) (v := ?_) (a' := ?_) (bs 12 4095) rfl rfl (by kernel_rfl) (fun _ _ _ h => h) (Or.inl ⟨by rfl, ?_⟩) ?_ ?_; rotate_left; (· intro w'; go_simp; first | done | with_reducible rfl); rotate_left; (· simp only [Act.put, List.setIfInBounds_toArray, List.set_cons_zero, List.set_cons_succ, i64_w, i32_w]; rfl)
  refine done_ (by kernel_rfl) ?_
  have hbd : Below w.heap.size w w2.drew := HB2.out.below.trans ((below_drew' (Below.refl _ _)).mono HB2.out.below.size)
  have HBD := Aside0.mk hbd
  clear hbd
  rcases Int.lt_trichotomy X Y with h | h | h
  · have hc : cmpI X Y = -1 := by unfold cmpI; rw [if_pos h]
    have HC := Aside0.mk hc
    clear hc
    go_wp2
    go_ret
    exact ⟨ret_i HC.out.symm, HBD.out⟩
  · subst h
    have hc : cmpI X X = 0 := by unfold cmpI; rw [if_neg (by omega), if_neg (by omega)]
    have HC := Aside0.mk hc
    clear hc
    go_wp2
    go_ret
    exact ⟨ret_i HC.out.symm, HBD.out⟩
  · have hc : cmpI X Y = 1 := by unfold cmpI; rw [if_neg (by omega), if_pos h]
    have HC := Aside0.mk hc
    clear hc
    go_wp2
    go_ret
    exact ⟨ret_i HC.out.symm, HBD.out⟩
set_option maxHeartbeats 8000000 in
set_option maxRecDepth 100000 in
theorem xcmpL_n (n1 d1 n2 d2 : Int) (w : World) (hl : (small n1 d1 && small n2 d2) = false) (v1 : valid n1 d1 = true) (v2 : valid n2 d2 = true) :
    Calls Try.prog 65 #[tm n1 d1, tm n2 d2] w (ValP w (.int .i64 (cmpI (n1 * d2) (n2 * d1)))) := by
  have hu := Try.underlying25
  have hB := Aside0.mk (Boxed2.start w n1 d1 n2 d2)
  have q1 := valid_bd v1
  have q2 := valid_bd v2
  unfold tm
  go_enter Try.func65, Try.ntmps65
  go_wp2_with fail
  generalize hW : World.alloc (World.alloc _ _) _ = W
  have HB := Aside0.mk (show Boxed2 w W n1 d1 n2 d2 by rw [← hW]; exact hB.out)
  clear hW hB
  refine (little2_n _ n1 d1 n2 d2 W HB.out.s).mono ?_
  rintro e w2 ⟨rfl, hb2⟩
  rw [hl]
  have HB2 := Aside0.mk (HB.out.step hb2)
  clear hb2 HB
  obtain ⟨a0, a1, _, _⟩ := time_cells HB2.out.a
  obtain ⟨b0, b1, _, _⟩ := time_cells HB2.out.b
  go_wp2_with fail
  refine start_ (n := 12) (S := fun w' => w'.cell? ⟨w.heap.size, 0, none⟩ = some (.int .i64 n1) ∧ w'.cell? ⟨w.heap.size, 1, none⟩ = some (.int .i64 d1) ∧ w'.cell? ⟨w.heap.size + 1, 0, none⟩ = some (.int .i64 n2) ∧ w'.cell? ⟨w.heap.size + 1, 1, none⟩ = some (.int .i64 d2)) (ds := []) (bs 12 0) (by kernel_rfl) rfl rfl ⟨a0, a1, b0, b1⟩ (fun hHeld => ?_)
  refine pure_ (i := 0) (N := some 29) (v := ?_) (a' := ?_) (bs 12 1) rfl rfl (by kernel_rfl) (fun _ _ _ h => h) (Or.inl ⟨by rfl, ?_⟩) ?_ ?_; rotate_left; (· intro w'; go_simp; first | done | with_reducible rfl); rotate_left; (· simp only [Act.put, List.setIfInBounds_toArray, List.set_cons_zero, List.set_cons_succ, i64_w, i32_w]; rfl)
  refine pure_ (i := 2) (N := some 31) (v := ?_) (a' := ?_) (bs 12 5) rfl rfl (by kernel_rfl) (fun _ _ _ h => h) (Or.inl ⟨by rfl, ?_⟩) ?_ ?_; rotate_left; (· intro w'; go_simp; first | done | with_reducible rfl); rotate_left; (· simp only [Act.put, List.setIfInBounds_toArray, List.set_cons_zero, List.set_cons_succ, i64_w, i32_w]; rfl)
  refine pure_ (i := 5) (N := some 34) (v := ?_) (a' := ?_) (bs 12 37) rfl rfl (by kernel_rfl) (fun _ _ _ h => h) (Or.inl ⟨by rfl, ?_⟩) ?_ ?_; rotate_left; (· intro w'; go_simp; first | done | with_reducible rfl); rotate_left; (· simp only [Act.put, List.setIfInBounds_toArray, List.set_cons_zero, List.set_cons_succ, i64_w, i32_w]; rfl)
  refine pure_ (i := 7) (N := some 36) (v := ?_) (a' := ?_) (bs 12 165) rfl rfl (by kernel_rfl) (fun _ _ _ h => h) (Or.inl ⟨by rfl, ?_⟩) ?_ ?_; rotate_left; (· intro w'; go_simp; first | done | with_reducible rfl); rotate_left; (· simp only [Act.put, List.setIfInBounds_toArray, List.set_cons_zero, List.set_cons_succ, i64_w, i32_w]; rfl)
  refine take_ (i := 1) (N := some 30) (v := ?_) (a' := ?_) (bs 12 167) rfl rfl (by kernel_rfl) (fun _ _ _ h => h) (Or.inl ⟨by rfl, ?_⟩) hHeld ?_ ?_; rotate_left; (· rintro w' ⟨s0, s1, s2, s3⟩; go_simp; first | done | with_reducible rfl); rotate_left; (· simp only [Act.put, List.setIfInBounds_toArray, List.set_cons_zero, List.set_cons_succ, i64_w, i32_w]; rfl)
  refine take_ (i := 3) (N := some 32) (v := ?_) (a' := ?_) (bs 12 175) rfl rfl (by kernel_rfl) (fun _ _ _ h => h) (Or.inl ⟨by rfl, ?_⟩) hHeld ?_ ?_; rotate_left; (· rintro w' ⟨s0, s1, s2, s3⟩; go_simp; first | done | with_reducible rfl); rotate_left; (· simp only [Act.put, List.setIfInBounds_toArray, List.set_cons_zero, List.set_cons_succ, i64_w, i32_w]; rfl)
  refine take_ (i := 6) (N := some 35) (v := ?_) (a' := ?_) (bs 12 239) rfl rfl (by kernel_rfl) (fun _ _ _ h => h) (Or.inl ⟨by rfl, ?_⟩) hHeld ?_ ?_; rotate_left; (· rintro w' ⟨s0, s1, s2, s3⟩; go_simp; first | done | with_reducible rfl); rotate_left; (· simp only [Act.put, List.setIfInBounds_toArray, List.set_cons_zero, List.set_cons_succ, i64_w, i32_w]; rfl)
  refine take_ (i := 8) (N := some 37) (v := ?_) (a' := ?_) (bs 12 495) rfl rfl (by kernel_rfl) (fun _ _ _ h => h) (Or.inl ⟨by rfl, ?_⟩) hHeld ?_ ?_; rotate_left; (· rintro w' ⟨s0, s1, s2, s3⟩; go_simp; first | done | with_reducible rfl); rotate_left; (· simp only [Act.put, List.setIfInBounds_toArray, List.set_cons_zero, List.set_cons_succ, i64_w, i32_w]; rfl)
  refine one_ (i := 4) (N := some 33) (bs 12 511) rfl rfl (by kernel_rfl) (by decide) (fun K hK => ?_)
  refine goes_ Try.func60 (by kernel_rfl) rfl #[.int .i64 n1, .int .i64 d2] (by rfl) rfl rfl (by simp only [List.map_toArray, List.map_cons, List.map_nil]; rfl) ?_
  with_reducible refine (product_n n1 d2 _ (by omega) (by omega) (by omega) (by omega)).mono ?_
  rintro e w4 ⟨g4, hg4, rfl, hb4, hN4⟩
  refine ⟨_, rfl, ?_⟩
  have hb4' := below_drew' hb4
  refine hK.out _ _ ⟨pw_cell_below hb4' a0, pw_cell_below hb4' a1, pw_cell_below hb4' b0, pw_cell_below hb4' b1⟩ (fun hHeld => ?_)
  clear hK K
  refine norm_ (a' := ?_) ?_ ?_; rotate_left; (· show Act.put _ (some 33) _ = _; simp only [Act.put, List.setIfInBounds_toArray, List.set_cons_zero, List.set_cons_succ, i64_w, i32_w]; rfl)
  refine one_ (i := 9) (N := some 38) (bs 12 1023) rfl rfl (by kernel_rfl) (by decide) (fun K hK => ?_)
  refine goes_ Try.func60 (by kernel_rfl) rfl #[.int .i64 n2, .int .i64 d1] (by rfl) rfl rfl (by simp only [List.map_toArray, List.map_cons, List.map_nil]; rfl) ?_
  with_reducible refine (product_n n2 d1 w4 (by omega) (by omega) (by omega) (by omega)).mono ?_
  rintro e w5 ⟨g5, hg5, rfl, hb5, hN5⟩
  refine ⟨_, rfl, ?_⟩
  have hb45 := hb4'.trans (hb5.mono hb4'.size)
  refine hK.out _ _ ⟨pw_cell_below hb45 a0, pw_cell_below hb45 a1, pw_cell_below hb45 b0, pw_cell_below hb45 b1⟩ (fun hHeld => ?_)
  clear hK K
  refine norm_ (a' := ?_) ?_ ?_; rotate_left; (· show Act.put _ (some 38) _ = _; simp only [Act.put, List.setIfInBounds_toArray, List.set_cons_zero, List.set_cons_succ, i64_w, i32_w]; rfl)
  refine one_ (i := 10) (N := some 39) (bs 12 2047) rfl rfl (by kernel_rfl) (by decide) (fun K hK => ?_)
  refine goes_ Try.func91 (by kernel_rfl) rfl #[.pointer (some ⟨g4, 0, none⟩), .pointer (some ⟨g5, 0, none⟩)] (by rfl) rfl rfl (by simp only [List.map_toArray, List.map_cons, List.map_nil]; rfl) ?_
  with_reducible refine (cmp_n g4 0 g5 0 (n1 * d2) (n2 * d1) 4 4 w5 (hN4.below hb5) hN5 (by decide)).mono ?_
  rintro e w6 ⟨rfl, hb6⟩
  refine ⟨_, rfl, ?_⟩
  have hb46 := hb45.trans (hb6.mono hb45.size)
  refine hK.out _ _ ⟨pw_cell_below hb46 a0, pw_cell_below hb46 a1, pw_cell_below hb46 b0, pw_cell_below hb46 b1⟩ (fun hHeld => ?_)
  clear hK K
  refine norm_ (a' := ?_) ?_ ?_; rotate_left; (· show Act.put _ (some 39) _ = _; simp only [Act.put, List.setIfInBounds_toArray, List.set_cons_zero, List.set_cons_succ, i64_w, i32_w]; rfl)
  refine pure_ (i := 11) (N := some 4) (v := ?_) (a' := ?_) (bs 12 4095) rfl rfl (by kernel_rfl) (fun _ _ _ h => h) (Or.inl ⟨by rfl, ?_⟩) ?_ ?_; rotate_left; (· intro w'; go_simp; first | done | with_reducible rfl); rotate_left; (· simp only [Act.put, List.setIfInBounds_toArray, List.set_cons_zero, List.set_cons_succ, i64_w, i32_w]; rfl)
  refine done_ (by kernel_rfl) ?_
  have HB6 := Aside0.mk (HB2.out.below.trans (hb46.mono HB2.out.below.size))
  clear hb46 hb45 hb4 hb4' hb5 hb6 hN4 hN5 a0 a1 b0 b1 HB2 hHeld
  go_wp2
  go_ret
  exact ⟨rfl, HB6.out⟩
theorem xcmp_n (n1 d1 n2 d2 : Int) (w : World) (v1 : valid n1 d1 = true) (v2 : valid n2 d2 = true) :
    Calls Try.prog 65 #[tm n1 d1, tm n2 d2] w (ValP w (.int .i64 (cmpI (n1 * d2) (n2 * d1)))) := by
  cases h : (small n1 d1 && small n2 d2) with
  | true =>
    simp only [Bool.and_eq_true] at h
    exact xcmpS_n n1 d1 n2 d2 w h.1 h.2 (valid_bd v1).1 (valid_bd v2).1
  | false => exact xcmpL_n n1 d1 n2 d2 w h v1 v2
def vCmp (n1 d1 n2 d2 : Int) : Value := if valid n1 d1 && valid n2 d2 then two (.int .i64 (cmpI (n1 * d2) (n2 * d1))) (er 0) else two (.int .i64 0) (er 4)
set_option maxHeartbeats 8000000 in
set_option maxRecDepth 100000 in
theorem Cmp_n (n1 d1 n2 d2 : Int) (w : World) :
    Calls Try.prog 37 #[tm n1 d1, tm n2 d2] w (ValP w (vCmp n1 d1 n2 d2)) := by
  have hu := Try.underlying25
  have hB := Aside0.mk (Boxed2.start w n1 d1 n2 d2)
  cases hv : (valid n1 d1 && valid n2 d2) with
  | false =>
    rw [show vCmp n1 d1 n2 d2 = .tuple #[.int .i64 0, .int .i64 4] by unfold vCmp; rw [hv]; rfl]
    unfold tm
    go_enter Try.func37, Try.ntmps37
    go_wp2_with fail
    generalize hW : World.alloc (World.alloc _ _) _ = W
    have HB := Aside0.mk (show Boxed2 w W n1 d1 n2 d2 by rw [← hW]; exact hB.out)
    clear hW hB
    refine (valid2_n _ n1 d1 n2 d2 W HB.out.s).mono ?_
    rintro e w2 ⟨rfl, hb2⟩
    rw [hv]
    go_wp2_with fail
    go_ret2
    exact ⟨rfl, HB.out.below.trans (hb2.mono HB.out.below.size)⟩
  | true =>
    rw [show vCmp n1 d1 n2 d2 = .tuple #[.int .i64 (cmpI (n1 * d2) (n2 * d1)), .int .i64 0] by unfold vCmp; rw [hv]; rfl]
    have hv2 := hv
    simp only [Bool.and_eq_true] at hv2
    have HC := Aside0.mk (fun w => xcmp_n n1 d1 n2 d2 w hv2.1 hv2.2)
    clear hv2
    generalize cmpI (n1 * d2) (n2 * d1) = c at *
    unfold tm at HC
    unfold tm
    go_enter Try.func37, Try.ntmps37
    go_wp2_with fail
    generalize hW : World.alloc (World.alloc _ _) _ = W
    have HB := Aside0.mk (show Boxed2 w W n1 d1 n2 d2 by rw [← hW]; exact hB.out)
    clear hW hB
    refine (valid2_n _ n1 d1 n2 d2 W HB.out.s).mono ?_
    rintro e w2 ⟨rfl, hb2⟩
    rw [hv]
    have HB2 := Aside0.mk (HB.out.step hb2)
    clear hb2 HB
    obtain ⟨a0, a1, _, _⟩ := time_cells HB2.out.a
    obtain ⟨b0, b1, _, _⟩ := time_cells HB2.out.b
    go_wp2_with fail
    refine (HC.out _).mono ?_
    rintro e w3 ⟨rfl, hb3⟩
    go_wp2_with fail
    go_ret2
    exact ⟨rfl, HB2.out.below.trans (hb3.mono HB2.out.below.size)⟩
end Go.Proofs.Ytdginjpppgfdaaa.Rc

namespace Go.Proofs.Ytdginjpppgfdaaa.Rd
open Go.RowKit Go Go.Proofs.YtdginjpppgfdaaaW.PrintWords Go.Proofs.YtdginjpppgfdaaaW.PrintLast Go.Proofs.YtdginjpppgfdaaaW.PrintMore Go.Proofs.Ytdginjpppgfdaaa.Ml Go.Proofs.Ytdginjpppgfdaaa.Mn Go.Proofs.Ytdginjpppgfdaaa.Nd Go.Proofs.Ytdginjpppgfdaaa.P Go.Proofs.Ytdginjpppgfdaaa.Nc Go.Proofs.Ytdginjpppgfdaaa.Nb Go.Proofs.Ytdginjpppgfdaaa.Qa Go.Proofs.Ytdginjpppgfdaaa.Qb Go.Proofs.Ytdginjpppgfdaaa.Ea Go.Proofs.Ytdginjpppgfdaaa.Eb Go.Proofs.Ytdginjpppgfdaaa.Ec Go.Proofs.Ytdginjpppgfdaaa.Ed Go.Proofs.Ytdginjpppgfdaaa.Ee Go.Proofs.Ytdginjpppgfdaaa.Ra Go.Proofs.Ytdginjpppgfdaaa.Rb Go.Proofs.Ytdginjpppgfdaaa.Rc
set_option linter.unusedVariables false
set_option linter.unusedSimpArgs false

theorem vLow_form (n d : Int) : ∃ N D E, vLow n d = .tuple #[.agg #[.int .i64 N, .int .i64 D], .int .i64 E] := by
  unfold vLow two tm er
  split
  all_goals exact ⟨_, _, _, rfl⟩
theorem ratioV_n (N D E : Int) (gn gd : Nat) (n d : Int) (nn nd : Nat) (w : World) (hV : vLow n d = .tuple #[.agg #[.int .i64 N, .int .i64 D], .int .i64 E]) (hn : IsN w gn 0 n nn) (hd : IsN w gd 0 d nd) (hd0 : d ≠ 0) (hl : nn + nd ≤ 900) :
    Calls Try.prog 59 #[.pointer (some ⟨gn, 0, none⟩), .pointer (some ⟨gd, 0, none⟩)] w (ValP w (.tuple #[.agg #[.int .i64 N, .int .i64 D], .int .i64 E])) := hV ▸ ratio_n gn gd n d nn nd w hn hd hd0 hl
theorem _root_.Go.Proofs.Ytdginjpppgfdaaa.Ee.Boxed.cells {w W : World} {n1 d1 n2 d2 : Int} (h : Boxed w W n1 d1 n2 d2) : W.cell? ⟨w.heap.size, 0, none⟩ = some (.int .i64 n1) ∧ W.cell? ⟨w.heap.size, 1, none⟩ = some (.int .i64 d1) ∧ W.cell? ⟨w.heap.size + 1, 0, none⟩ = some (.int .i64 n2) ∧ W.cell? ⟨w.heap.size + 1, 1, none⟩ = some (.int .i64 d2) := by
  obtain ⟨a0, a1, _, _⟩ := time_cells h.a
  obtain ⟨b0, b1, _, _⟩ := time_cells h.b
  exact ⟨a0, a1, b0, b1⟩
theorem _root_.Go.Proofs.Ytdginjpppgfdaaa.Ee.Boxed.wrote {w W W2 : World} {n1 d1 n2 d2 : Int} {g o : Nat} (h : Boxed w W n1 d1 n2 d2) (hw : Wrote W W2 g o) (hg : w.heap.size + 1 + 1 + 1 < g) : Boxed w W2 n1 d1 n2 d2 :=
  have f : ∀ k, k ≤ w.heap.size + 1 + 1 + 1 → ∀ o, W.heap[k]? = some o → W2.heap[k]? = some o := fun k hk o ho => (hw.other k (lt_of_some ho) (by omega)).trans ho
  ⟨f _ (by omega) _ h.a, f _ (by omega) _ h.b, f _ (by omega) _ h.r, f _ (by omega) _ h.s, h.below.trans (hw.below (by omega) h.below.size)⟩
theorem _root_.Go.Proofs.Ytdginjpppgfdaaa.Ee.Boxed.top {w W : World} {n1 d1 n2 d2 : Int} (h : Boxed w W n1 d1 n2 d2) : w.heap.size + 1 + 1 + 1 < W.heap.size := lt_of_some h.s
theorem mul_pos' {a b : Int} (ha : 1 ≤ a) (hb : 1 ≤ b) : a * b ≠ 0 := by
  have := Int.mul_le_mul_of_nonneg_right ha (show 0 ≤ b by omega)
  omega
theorem mul_ne' {a b : Int} (ha : a ≠ 0) (hb : b ≠ 0) : a * b ≠ 0 := Int.mul_ne_zero ha hb
set_option maxHeartbeats 8000000 in
set_option maxRecDepth 100000 in
theorem addSx_n (n1 d1 n2 d2 : Int) (w : World) (h1 : small n1 d1 = true) (h2 : small n2 d2 = true) (p1 : 1 ≤ d1) (p2 : 1 ≤ d2) (N D : Int) (hN : N = lowN (n1 * d2 + n2 * d1) (d1 * d2)) (hD : D = lowD (n1 * d2 + n2 * d1) (d1 * d2)) (hv : valid N D = false) :
    Calls Try.prog 57 #[tm n1 d1, tm n2 d2] w (ValP w (two (tm 0 0) (er 2))) := by
  have hu := Try.underlying25
  have hB := Aside0.mk (Boxed.start w n1 d1 n2 d2)
  have hs1 : (n1 < 1073741824 ∧ -1073741824 < n1) ∧ d1 < 1073741824 := by unfold small at h1; simpa using h1
  have hs2 : (n2 < 1073741824 ∧ -1073741824 < n2) ∧ d2 < 1073741824 := by unfold small at h2; simpa using h2
  obtain ⟨x1, x2⟩ := mul_bd hs1.1.2 hs1.1.1 p2 hs2.2
  obtain ⟨y1, y2⟩ := mul_bd hs2.1.2 hs2.1.1 p1 hs1.2
  obtain ⟨z1, z2⟩ := mul_bd (a := d1) (by omega) hs1.2 p2 hs2.2
  have z3 : 1 ≤ d1 * d2 := by have := Int.mul_le_mul_of_nonneg_right p1 (show 0 ≤ d2 by omega); omega
  obtain ⟨k, hk⟩ := lowest_f (n1 * d2 + n2 * d1) (d1 * d2) (by omega) (by omega) z3 (by omega)
  rw [← hN, ← hD] at hk
  have HK := Aside0.mk hk
  clear hs1 hs2 hk hN hD
  unfold two tm er
  go_enter Try.func57, Try.ntmps57
  go_wp2_with fail
  generalize hW : World.alloc (World.alloc _ _) _ = W
  have HB := Aside0.mk (show Boxed w W n1 d1 n2 d2 by rw [← hW]; exact hB.out)
  clear hW hB
  refine (little2_n _ n1 d1 n2 d2 W HB.out.s).mono ?_
  rintro e w2 ⟨rfl, hb2⟩
  rw [h1, h2]
  have HB2 := Aside0.mk (HB.out.step hb2)
  clear hb2 HB
  obtain ⟨a0, a1, b0, b1⟩ := HB2.out.cells
  go_wp2_with fail
  refine (exact_lowest.calls k (n1 * d2 + n2 * d1) (d1 * d2) N D _ HK.out).mono ?_
  rintro e w3 ⟨rfl, hb3⟩
  have HB3 := Aside0.mk (HB2.out.step hb3)
  clear hb3 HB2 a0 a1 b0 b1
  go_wp2_with fail
  have hq := blk_new w3 (timeObj N D)
  have hb4 : Below w3.heap.size w3 (w3.alloc (timeObj N D)) := below_alloc (Below.refl _ w3) _
  refine (Valid_n N D _).mono ?_
  rintro e w5 ⟨rfl, hb5⟩
  rw [hv]
  have HB5 := Aside0.mk ((HB3.out.step hb4).step hb5)
  have hq5 := blk_below hq hb5
  obtain ⟨q0, q1, q2, q3⟩ := time_cells hq5
  obtain ⟨r0, r1, r2, r3⟩ := time_cells HB5.out.r
  clear hb4 hb5 hq hq5 HB3
  go_wp2_with fail
  refine bodyPost_ret (results_ct rfl _ _ (w.heap.size + 1 + 1) 25 #[.int .i64 0, .int .i64 0] (0, 0) _ rfl (blk_two HB5.out.r) Try.underlying25 rfl (by kernel_rfl)) rfl ?_
  exact ⟨rfl, (HB5.out.below.setCell (by simp; omega) _).setCell (by simp; omega) _⟩
set_option maxHeartbeats 8000000 in
set_option maxRecDepth 100000 in
theorem addL_n (n1 d1 n2 d2 : Int) (w : World) (hl : (small n1 d1 && small n2 d2) = false) (v1 : valid n1 d1 = true) (v2 : valid n2 d2 = true) :
    Calls Try.prog 57 #[tm n1 d1, tm n2 d2] w (ValP w (vLow (n1 * d2 + n2 * d1) (d1 * d2))) := by
  have hu := Try.underlying25
  have hB := Aside0.mk (Boxed.start w n1 d1 n2 d2)
  have q1 := valid_bd v1
  have q2 := valid_bd v2
  have hdd := mul_pos' q1.1 q2.1
  obtain ⟨N, D, E, hV⟩ := vLow_form (n1 * d2 + n2 * d1) (d1 * d2)
  have HV := Aside0.mk hV
  rw [hV]
  clear hV
  unfold tm
  go_enter Try.func57, Try.ntmps57
  go_wp2_with fail
  generalize hW : World.alloc (World.alloc _ _) _ = W
  have HB := Aside0.mk (show Boxed w W n1 d1 n2 d2 by rw [← hW]; exact hB.out)
  clear hW hB
  refine (little2_n _ n1 d1 n2 d2 W HB.out.s).mono ?_
  rintro e w2 ⟨rfl, hb2⟩
  rw [hl]
  have HB2 := Aside0.mk (HB.out.step hb2)
  clear hb2 HB
  obtain ⟨a0, a1, b0, b1⟩ := HB2.out.cells
  go_wp2_with fail
  refine (product_n n1 d2 _ (by omega) (by omega) (by omega) (by omega)).mono ?_
  rintro e w3 ⟨g3, hg3, rfl, hb3, hN3⟩
  have HB3 := Aside0.mk (HB2.out.step hb3)
  have H3 := Aside0.mk hN3
  obtain ⟨c0, c1, c2, c3⟩ := HB3.out.cells
  have hg3' := HB2.out.top
  clear hb3 hN3 HB2 a0 a1 b0 b1
  go_wp2_with fail
  refine start_ (n := 18) (S := fun w' => w'.cell? ⟨w.heap.size, 0, none⟩ = some (.int .i64 n1) ∧ w'.cell? ⟨w.heap.size, 1, none⟩ = some (.int .i64 d1) ∧ w'.cell? ⟨w.heap.size + 1, 0, none⟩ = some (.int .i64 n2) ∧ w'.cell? ⟨w.heap.size + 1, 1, none⟩ = some (.int .i64 d2)) (ds := [16]) (bs 18 0) (by kernel_rfl) rfl rfl (HB3.out.step (below_drew' (Below.refl _ _))).cells (fun hHeld => ?_)
  refine pure_ (i := 0) (N := some 39) (v := ?_) (a' := ?_) (bs 18 1) rfl rfl (by kernel_rfl) (fun _ _ _ h => h) (Or.inl ⟨by rfl, ?_⟩) ?_ ?_; rotate_left; (· intro w'; go_simp; first | done | with_reducible rfl); rotate_left; (· simp only [Act.put, List.setIfInBounds_toArray, List.set_cons_zero, List.set_cons_succ, i64_w, i32_w]; rfl)
  refine pure_ (i := 1) (N := some 40) (v := ?_) (a' := ?_) (bs 18 3) rfl rfl (by kernel_rfl) (fun _ _ _ h => h) (Or.inl ⟨by rfl, ?_⟩) ?_ ?_; rotate_left; (· intro w'; go_simp; first | done | with_reducible rfl); rotate_left; (· simp only [Act.put, List.setIfInBounds_toArray, List.set_cons_zero, List.set_cons_succ, i64_w, i32_w]; rfl)
  refine pure_ (i := 2) (N := some 41) (v := ?_) (a' := ?_) (bs 18 7) rfl rfl (by kernel_rfl) (fun _ _ _ h => h) (Or.inl ⟨by rfl, ?_⟩) ?_ ?_; rotate_left; (· intro w'; go_simp; first | done | with_reducible rfl); rotate_left; (· simp only [Act.put, List.setIfInBounds_toArray, List.set_cons_zero, List.set_cons_succ, i64_w, i32_w]; rfl)
  refine pure_ (i := 4) (N := some 43) (v := ?_) (a' := ?_) (bs 18 23) rfl rfl (by kernel_rfl) (fun _ _ _ h => h) (Or.inl ⟨by rfl, ?_⟩) ?_ ?_; rotate_left; (· intro w'; go_simp; first | done | with_reducible rfl); rotate_left; (· simp only [Act.put, List.setIfInBounds_toArray, List.set_cons_zero, List.set_cons_succ, i64_w, i32_w]; rfl)
  refine pure_ (i := 8) (N := some 47) (v := ?_) (a' := ?_) (bs 18 279) rfl rfl (by kernel_rfl) (fun _ _ _ h => h) (Or.inl ⟨by rfl, ?_⟩) ?_ ?_; rotate_left; (· intro w'; go_simp; first | done | with_reducible rfl); rotate_left; (· simp only [Act.put, List.setIfInBounds_toArray, List.set_cons_zero, List.set_cons_succ, i64_w, i32_w]; rfl)
  refine pure_ (i := 10) (N := some 49) (v := ?_) (a' := ?_) (bs 18 1303) rfl rfl (by kernel_rfl) (fun _ _ _ h => h) (Or.inl ⟨by rfl, ?_⟩) ?_ ?_; rotate_left; (· intro w'; go_simp; first | done | with_reducible rfl); rotate_left; (· simp only [Act.put, List.setIfInBounds_toArray, List.set_cons_zero, List.set_cons_succ, i64_w, i32_w]; rfl)
  refine take_ (i := 3) (N := some 42) (v := ?_) (a' := ?_) (bs 18 1311) rfl rfl (by kernel_rfl) (fun _ _ _ h => h) (Or.inl ⟨by rfl, ?_⟩) hHeld ?_ ?_; rotate_left; (· rintro w' ⟨s0, s1, s2, s3⟩; go_simp; first | done | with_reducible rfl); rotate_left; (· simp only [Act.put, List.setIfInBounds_toArray, List.set_cons_zero, List.set_cons_succ, i64_w, i32_w]; rfl)
  refine take_ (i := 5) (N := some 44) (v := ?_) (a' := ?_) (bs 18 1343) rfl rfl (by kernel_rfl) (fun _ _ _ h => h) (Or.inl ⟨by rfl, ?_⟩) hHeld ?_ ?_; rotate_left; (· rintro w' ⟨s0, s1, s2, s3⟩; go_simp; first | done | with_reducible rfl); rotate_left; (· simp only [Act.put, List.setIfInBounds_toArray, List.set_cons_zero, List.set_cons_succ, i64_w, i32_w]; rfl)
  refine take_ (i := 9) (N := some 48) (v := ?_) (a' := ?_) (bs 18 1855) rfl rfl (by kernel_rfl) (fun _ _ _ h => h) (Or.inl ⟨by rfl, ?_⟩) hHeld ?_ ?_; rotate_left; (· rintro w' ⟨s0, s1, s2, s3⟩; go_simp; first | done | with_reducible rfl); rotate_left; (· simp only [Act.put, List.setIfInBounds_toArray, List.set_cons_zero, List.set_cons_succ, i64_w, i32_w]; rfl)
  refine take_ (i := 11) (N := some 50) (v := ?_) (a' := ?_) (bs 18 3903) rfl rfl (by kernel_rfl) (fun _ _ _ h => h) (Or.inl ⟨by rfl, ?_⟩) hHeld ?_ ?_; rotate_left; (· rintro w' ⟨s0, s1, s2, s3⟩; go_simp; first | done | with_reducible rfl); rotate_left; (· simp only [Act.put, List.setIfInBounds_toArray, List.set_cons_zero, List.set_cons_succ, i64_w, i32_w]; rfl)
  refine one_ (i := 6) (N := some 45) (bs 18 3967) rfl rfl (by kernel_rfl) (by decide) (fun K hK => ?_)
  refine goes_ Try.func60 (by kernel_rfl) rfl #[.int .i64 n2, .int .i64 d1] (by rfl) rfl rfl (by simp only [List.map_toArray, List.map_cons, List.map_nil]; rfl) ?_
  with_reducible refine (product_n n2 d1 _ (by omega) (by omega) (by omega) (by omega)).mono ?_
  rintro e w4 ⟨g4, hg4, rfl, hb4, hN4⟩
  refine ⟨_, rfl, ?_⟩
  have hb4' := below_drew' hb4
  have hB4 := HB3.out.step hb4'
  refine hK.out _ _ hB4.cells (fun hHeld => ?_)
  clear hK K
  refine norm_ (a' := ?_) ?_ ?_; rotate_left; (· show Act.put _ (some 45) _ = _; simp only [Act.put, List.setIfInBounds_toArray, List.set_cons_zero, List.set_cons_succ, i64_w, i32_w]; rfl)
  refine one_ (i := 7) (N := some 46) (bs 18 4095) rfl rfl (by kernel_rfl) (by decide) (fun K hK => ?_)
  refine goes_ Try.func85 (by kernel_rfl) rfl #[.pointer (some ⟨g3, 0, none⟩), .pointer (some ⟨g3, 0, none⟩), .pointer (some ⟨g4, 0, none⟩)] (by rfl) rfl rfl (by simp only [List.map_toArray, List.map_cons, List.map_nil]; rfl) ?_
  with_reducible refine (add_n g3 0 g3 0 g4 0 (n1 * d2) (n2 * d1) 4 4 w4 (H3.out.below hb4').room (H3.out.below hb4') hN4.w (by decide)).mono ?_
  rintro e w5 ⟨rfl, hw5, hN5⟩
  refine ⟨_, rfl, ?_⟩
  have hB5 := hB4.wrote hw5 (by omega)
  refine hK.out _ _ hB5.cells (fun hHeld => ?_)
  clear hK K
  refine norm_ (a' := ?_) ?_ ?_; rotate_left; (· show Act.put _ (some 46) _ = _; simp only [Act.put, List.setIfInBounds_toArray, List.set_cons_zero, List.set_cons_succ, i64_w, i32_w]; rfl)
  refine one_ (i := 12) (N := some 51) (bs 18 8191) rfl rfl (by kernel_rfl) (by decide) (fun K hK => ?_)
  refine goes_ Try.func60 (by kernel_rfl) rfl #[.int .i64 d1, .int .i64 d2] (by rfl) rfl rfl (by simp only [List.map_toArray, List.map_cons, List.map_nil]; rfl) ?_
  with_reducible refine (product_n d1 d2 _ (by omega) (by omega) (by omega) (by omega)).mono ?_
  rintro e w6 ⟨g6, hg6, rfl, hb6, hN6⟩
  refine ⟨_, rfl, ?_⟩
  have hB6 := hB5.step hb6
  refine hK.out _ _ hB6.cells (fun hHeld => ?_)
  clear hK K
  refine norm_ (a' := ?_) ?_ ?_; rotate_left; (· show Act.put _ (some 51) _ = _; simp only [Act.put, List.setIfInBounds_toArray, List.set_cons_zero, List.set_cons_succ, i64_w, i32_w]; rfl)
  refine one_ (i := 13) (N := some 52) (bs 18 16383) rfl rfl (by kernel_rfl) (by decide) (fun K hK => ?_)
  refine goes_ Try.func59 (by kernel_rfl) rfl #[.pointer (some ⟨g3, 0, none⟩), .pointer (some ⟨g6, 0, none⟩)] (by rfl) rfl rfl (by simp only [List.map_toArray, List.map_cons, List.map_nil]; rfl) ?_
  with_reducible refine (ratioV_n N D E g3 g6 (n1 * d2 + n2 * d1) (d1 * d2) _ 4 w6 HV.out (hN5.below hb6) hN6 hdd (by decide)).mono ?_
  rintro e w7 ⟨rfl, hb7⟩
  refine ⟨_, rfl, ?_⟩
  have hB7 := hB6.step hb7
  refine hK.out _ _ hB7.cells (fun hHeld => ?_)
  clear hK K
  refine norm_ (a' := ?_) ?_ ?_; rotate_left; (· show Act.put _ (some 52) _ = _; simp only [Act.put, List.setIfInBounds_toArray, List.set_cons_zero, List.set_cons_succ, i64_w, i32_w]; rfl)
  refine pure_ (i := 14) (N := some 53) (v := ?_) (a' := ?_) (bs 18 32767) rfl rfl (by kernel_rfl) (fun _ _ _ h => h) (Or.inl ⟨by rfl, ?_⟩) ?_ ?_; rotate_left; (· intro w'; go_simp; first | done | with_reducible rfl); rotate_left; (· simp only [Act.put, List.setIfInBounds_toArray, List.set_cons_zero, List.set_cons_succ, i64_w, i32_w]; rfl)
  refine pure_ (i := 15) (N := some 54) (v := ?_) (a' := ?_) (bs 18 65535) rfl rfl (by kernel_rfl) (fun _ _ _ h => h) (Or.inl ⟨by rfl, ?_⟩) ?_ ?_; rotate_left; (· intro w'; go_simp; first | done | with_reducible rfl); rotate_left; (· simp only [Act.put, List.setIfInBounds_toArray, List.set_cons_zero, List.set_cons_succ, i64_w, i32_w]; rfl)
  refine last_ (i := 16) (N := none) (bs 18 131071) rfl rfl (by kernel_rfl) (by decide) (fun K hK => ?_)
  obtain ⟨r0, r1, r2, r3⟩ := time_cells hB7.r
  refine skip_ (w1 := ?_) (by rfl) rfl ?_ ?_
  rotate_left
  · (go_simp; with_reducible rfl)
  refine hK.out _ _ ?_
  clear hK K
  refine pure_ (i := 17) (N := some 5) (v := ?_) (a' := ?_) (bs 18 262143) rfl rfl (by kernel_rfl) (fun _ _ _ h => h) (Or.inl ⟨by rfl, ?_⟩) ?_ ?_; rotate_left; (· intro w'; go_simp; first | done | with_reducible rfl); rotate_left; (· simp only [Act.put, List.setIfInBounds_toArray, List.set_cons_zero, List.set_cons_succ, i64_w, i32_w]; rfl)
  refine done_ (by kernel_rfl) ?_
  have HB7 := Aside0.mk hB7
  go_wp2
  refine bodyPost_ret (results_ct rfl _ _ (w.heap.size + 1 + 1) 25 #[.int .i64 N, .int .i64 D] (0, 0) _ rfl (blk_two HB7.out.r) Try.underlying25 rfl (by kernel_rfl)) rfl ?_
  exact ⟨rfl, (HB7.out.below.setCell (by simp; omega) _).setCell (by simp; omega) _⟩
theorem ratN_pos {n d : Int} (hd : 0 < d) : ratN n d = lowN n d ∧ ratD n d = lowD n d := by
  unfold ratN ratD
  rw [if_neg (by omega), if_neg (by omega)]
  exact ⟨rfl, rfl⟩
theorem xadd_n (n1 d1 n2 d2 : Int) (w : World) (v1 : valid n1 d1 = true) (v2 : valid n2 d2 = true) :
    Calls Try.prog 57 #[tm n1 d1, tm n2 d2] w (ValP w (vLow (n1 * d2 + n2 * d1) (d1 * d2))) := by
  cases h : (small n1 d1 && small n2 d2) with
  | false => exact addL_n n1 d1 n2 d2 w h v1 v2
  | true =>
    simp only [Bool.and_eq_true] at h
    have q1 := valid_bd v1
    have q2 := valid_bd v2
    have hd : 0 < d1 * d2 := Int.mul_pos (by omega) (by omega)
    unfold vLow
    rw [(ratN_pos (n := n1 * d2 + n2 * d1) hd).1, (ratN_pos (n := n1 * d2 + n2 * d1) hd).2]
    split
    · next hv => exact addS_n n1 d1 n2 d2 w h.1 h.2 q1.1 q2.1 _ _ rfl rfl hv
    · next hv => exact addSx_n n1 d1 n2 d2 w h.1 h.2 q1.1 q2.1 _ _ rfl rfl (by simpa using hv)
def vAdd (n1 d1 n2 d2 : Int) : Value := if valid n1 d1 && valid n2 d2 then vLow (n1 * d2 + n2 * d1) (d1 * d2) else two (tm 0 0) (er 4)
def vSub (n1 d1 n2 d2 : Int) : Value := if valid n1 d1 && valid n2 d2 then vLow (n1 * d2 + -n2 * d1) (d1 * d2) else two (tm 0 0) (er 4)
def vMul (n1 d1 n2 d2 : Int) : Value := if valid n1 d1 && valid n2 d2 then vLow (n1 * n2) (d1 * d2) else two (tm 0 0) (er 4)
def vDiv (n1 d1 n2 d2 : Int) : Value := if valid n1 d1 && valid n2 d2 then (if n2 = 0 then two (tm 0 0) (er 1) else vLow (n1 * d2) (d1 * n2)) else two (tm 0 0) (er 4)
def vLowest (n d : Int) : Value := if valid n d then two (tm (lowN n d) (lowD n d)) (er 0) else two (tm 0 0) (er 4)
set_option maxHeartbeats 8000000 in
set_option maxRecDepth 100000 in
theorem Add_n (n1 d1 n2 d2 : Int) (w : World) :
    Calls Try.prog 26 #[tm n1 d1, tm n2 d2] w (ValP w (vAdd n1 d1 n2 d2)) := by
  have hu := Try.underlying25
  have hB := Aside0.mk (Boxed.start w n1 d1 n2 d2)
  cases hv : (valid n1 d1 && valid n2 d2) with
  | false =>
    rw [show vAdd n1 d1 n2 d2 = .tuple #[.agg #[.int .i64 0, .int .i64 0], .int .i64 4] by unfold vAdd; rw [hv]; rfl]
    unfold tm
    go_enter Try.func26, Try.ntmps26
    go_wp2_with fail
    generalize hW : World.alloc (World.alloc _ _) _ = W
    have HB := Aside0.mk (show Boxed w W n1 d1 n2 d2 by rw [← hW]; exact hB.out)
    clear hW hB
    refine (valid2_n _ n1 d1 n2 d2 W HB.out.s).mono ?_
    rintro e w2 ⟨rfl, hb2⟩
    rw [hv]
    have HB2 := Aside0.mk (HB.out.step hb2)
    clear hb2 HB
    obtain ⟨r0, r1, r2, r3⟩ := time_cells HB2.out.r
    go_wp2_with fail
    refine bodyPost_ret (results_ct rfl _ _ (w.heap.size + 1 + 1) 25 #[.int .i64 0, .int .i64 0] (0, 0) _ rfl (blk_two HB2.out.r) Try.underlying25 rfl (by kernel_rfl)) rfl ?_
    exact ⟨rfl, (HB2.out.below.setCell (by simp; omega) _).setCell (by simp; omega) _⟩
  | true =>
    have hv2 := hv
    simp only [Bool.and_eq_true] at hv2
    have q1 := valid_bd hv2.1
    have q2 := valid_bd hv2.2
    obtain ⟨N, D, E, hV⟩ := vLow_form (n1 * d2 + n2 * d1) (d1 * d2)
    have hC := fun w => xadd_n n1 d1 (n2) d2 w hv2.1 hv2.2
    rw [hV] at hC
    rw [show vAdd n1 d1 n2 d2 = .tuple #[.agg #[.int .i64 N, .int .i64 D], .int .i64 E] by unfold vAdd; rw [hv, ← hV]; rfl]
    have HC := Aside0.mk hC
    clear hC hV hv2
    unfold tm at HC
    unfold tm
    go_enter Try.func26, Try.ntmps26
    go_wp2_with fail
    generalize hW : World.alloc (World.alloc _ _) _ = W
    have HB := Aside0.mk (show Boxed w W n1 d1 n2 d2 by rw [← hW]; exact hB.out)
    clear hW hB
    refine (valid2_n _ n1 d1 n2 d2 W HB.out.s).mono ?_
    rintro e w2 ⟨rfl, hb2⟩
    rw [hv]
    have HB2 := Aside0.mk (HB.out.step hb2)
    clear hb2 HB
    obtain ⟨a0, a1, b0, b1⟩ := HB2.out.cells
    go_wp2_with fail
    refine (HC.out _).mono ?_
    rintro e w3 ⟨rfl, hb3⟩
    have HB3 := Aside0.mk (HB2.out.step hb3)
    obtain ⟨r0, r1, r2, r3⟩ := time_cells HB3.out.r
    clear hb3 HB2 a0 a1 b0 b1
    go_wp2_with fail
    refine bodyPost_ret (results_ct rfl _ _ (w.heap.size + 1 + 1) 25 #[.int .i64 N, .int .i64 D] (0, 0) _ rfl (blk_two HB3.out.r) Try.underlying25 rfl (by kernel_rfl)) rfl ?_
    exact ⟨rfl, (HB3.out.below.setCell (by simp; omega) _).setCell (by simp; omega) _⟩
set_option maxHeartbeats 8000000 in
set_option maxRecDepth 100000 in
theorem Sub_n (n1 d1 n2 d2 : Int) (w : World) :
    Calls Try.prog 28 #[tm n1 d1, tm n2 d2] w (ValP w (vSub n1 d1 n2 d2)) := by
  have hu := Try.underlying25
  have hB := Aside0.mk (Boxed.start w n1 d1 n2 d2)
  cases hv : (valid n1 d1 && valid n2 d2) with
  | false =>
    rw [show vSub n1 d1 n2 d2 = .tuple #[.agg #[.int .i64 0, .int .i64 0], .int .i64 4] by unfold vSub; rw [hv]; rfl]
    unfold tm
    go_enter Try.func28, Try.ntmps28
    go_wp2_with fail
    generalize hW : World.alloc (World.alloc _ _) _ = W
    have HB := Aside0.mk (show Boxed w W n1 d1 n2 d2 by rw [← hW]; exact hB.out)
    clear hW hB
    refine (valid2_n _ n1 d1 n2 d2 W HB.out.s).mono ?_
    rintro e w2 ⟨rfl, hb2⟩
    rw [hv]
    have HB2 := Aside0.mk (HB.out.step hb2)
    clear hb2 HB
    obtain ⟨r0, r1, r2, r3⟩ := time_cells HB2.out.r
    go_wp2_with fail
    refine bodyPost_ret (results_ct rfl _ _ (w.heap.size + 1 + 1) 25 #[.int .i64 0, .int .i64 0] (0, 0) _ rfl (blk_two HB2.out.r) Try.underlying25 rfl (by kernel_rfl)) rfl ?_
    exact ⟨rfl, (HB2.out.below.setCell (by simp; omega) _).setCell (by simp; omega) _⟩
  | true =>
    have hv2 := hv
    simp only [Bool.and_eq_true] at hv2
    have q1 := valid_bd hv2.1
    have q2 := valid_bd hv2.2
    obtain ⟨N, D, E, hV⟩ := vLow_form (n1 * d2 + -n2 * d1) (d1 * d2)
    have hC := fun w => xadd_n n1 d1 (-n2) d2 w hv2.1 (by unfold valid; simp; omega)
    rw [hV] at hC
    rw [show vSub n1 d1 n2 d2 = .tuple #[.agg #[.int .i64 N, .int .i64 D], .int .i64 E] by unfold vSub; rw [hv, ← hV]; rfl]
    have HC := Aside0.mk hC
    clear hC hV hv2
    unfold tm at HC
    unfold tm
    go_enter Try.func28, Try.ntmps28
    go_wp2_with fail
    generalize hW : World.alloc (World.alloc _ _) _ = W
    have HB := Aside0.mk (show Boxed w W n1 d1 n2 d2 by rw [← hW]; exact hB.out)
    clear hW hB
    refine (valid2_n _ n1 d1 n2 d2 W HB.out.s).mono ?_
    rintro e w2 ⟨rfl, hb2⟩
    rw [hv]
    have HB2 := Aside0.mk (HB.out.step hb2)
    clear hb2 HB
    obtain ⟨a0, a1, b0, b1⟩ := HB2.out.cells
    go_wp2_with fail
    refine (HC.out _).mono ?_
    rintro e w3 ⟨rfl, hb3⟩
    have HB3 := Aside0.mk (HB2.out.step hb3)
    obtain ⟨r0, r1, r2, r3⟩ := time_cells HB3.out.r
    clear hb3 HB2 a0 a1 b0 b1
    go_wp2_with fail
    refine bodyPost_ret (results_ct rfl _ _ (w.heap.size + 1 + 1) 25 #[.int .i64 N, .int .i64 D] (0, 0) _ rfl (blk_two HB3.out.r) Try.underlying25 rfl (by kernel_rfl)) rfl ?_
    exact ⟨rfl, (HB3.out.below.setCell (by simp; omega) _).setCell (by simp; omega) _⟩
set_option maxHeartbeats 8000000 in
set_option maxRecDepth 100000 in
theorem Mul_n (n1 d1 n2 d2 : Int) (w : World) :
    Calls Try.prog 31 #[tm n1 d1, tm n2 d2] w (ValP w (vMul n1 d1 n2 d2)) := by
  have hu := Try.underlying25
  have hB := Aside0.mk (Boxed.start w n1 d1 n2 d2)
  cases hv : (valid n1 d1 && valid n2 d2) with
  | false =>
    rw [show vMul n1 d1 n2 d2 = .tuple #[.agg #[.int .i64 0, .int .i64 0], .int .i64 4] by unfold vMul; rw [hv]; rfl]
    unfold tm
    go_enter Try.func31, Try.ntmps31
    go_wp2_with fail
    generalize hW : World.alloc (World.alloc _ _) _ = W
    have HB := Aside0.mk (show Boxed w W n1 d1 n2 d2 by rw [← hW]; exact hB.out)
    clear hW hB
    refine (valid2_n _ n1 d1 n2 d2 W HB.out.s).mono ?_
    rintro e w2 ⟨rfl, hb2⟩
    rw [hv]
    have HB2 := Aside0.mk (HB.out.step hb2)
    clear hb2 HB
    obtain ⟨r0, r1, r2, r3⟩ := time_cells HB2.out.r
    go_wp2_with fail
    refine bodyPost_ret (results_ct rfl _ _ (w.heap.size + 1 + 1) 25 #[.int .i64 0, .int .i64 0] (0, 0) _ rfl (blk_two HB2.out.r) Try.underlying25 rfl (by kernel_rfl)) rfl ?_
    exact ⟨rfl, (HB2.out.below.setCell (by simp; omega) _).setCell (by simp; omega) _⟩
  | true =>
    have hv2 := hv
    simp only [Bool.and_eq_true] at hv2
    have q1 := valid_bd hv2.1
    have q2 := valid_bd hv2.2
    obtain ⟨N, D, E, hV⟩ := vLow_form (n1 * n2) (d1 * d2)
    rw [show vMul n1 d1 n2 d2 = .tuple #[.agg #[.int .i64 N, .int .i64 D], .int .i64 E] by unfold vMul; rw [hv, ← hV]; rfl]
    have HV := Aside0.mk hV
    have hdd := mul_pos' q1.1 q2.1
    clear hV hv2
    unfold tm
    go_enter Try.func31, Try.ntmps31
    go_wp2_with fail
    generalize hW : World.alloc (World.alloc _ _) _ = W
    have HB := Aside0.mk (show Boxed w W n1 d1 n2 d2 by rw [← hW]; exact hB.out)
    clear hW hB
    refine (valid2_n _ n1 d1 n2 d2 W HB.out.s).mono ?_
    rintro e w2 ⟨rfl, hb2⟩
    rw [hv]
    have HB2 := Aside0.mk (HB.out.step hb2)
    clear hb2 HB
    obtain ⟨a0, a1, b0, b1⟩ := HB2.out.cells
    go_wp2_with fail
    refine start_ (n := 15) (S := fun w' => w'.cell? ⟨w.heap.size, 0, none⟩ = some (.int .i64 n1) ∧ w'.cell? ⟨w.heap.size, 1, none⟩ = some (.int .i64 d1) ∧ w'.cell? ⟨w.heap.size + 1, 0, none⟩ = some (.int .i64 n2) ∧ w'.cell? ⟨w.heap.size + 1, 1, none⟩ = some (.int .i64 d2)) (ds := [13]) (bs 15 0) (by kernel_rfl) rfl rfl (HB2.out.step (below_drew' (Below.refl _ _))).cells (fun hHeld => ?_)
    refine pure_ (i := 0) (N := some 12) (v := ?_) (a' := ?_) (bs 15 1) rfl rfl (by kernel_rfl) (fun _ _ _ h => h) (Or.inl ⟨by rfl, ?_⟩) ?_ ?_; rotate_left; (· intro w'; go_simp; first | done | with_reducible rfl); rotate_left; (· simp only [Act.put, List.setIfInBounds_toArray, List.set_cons_zero, List.set_cons_succ, i64_w, i32_w]; rfl)
    refine pure_ (i := 2) (N := some 14) (v := ?_) (a' := ?_) (bs 15 5) rfl rfl (by kernel_rfl) (fun _ _ _ h => h) (Or.inl ⟨by rfl, ?_⟩) ?_ ?_; rotate_left; (· intro w'; go_simp; first | done | with_reducible rfl); rotate_left; (· simp only [Act.put, List.setIfInBounds_toArray, List.set_cons_zero, List.set_cons_succ, i64_w, i32_w]; rfl)
    refine pure_ (i := 5) (N := some 17) (v := ?_) (a' := ?_) (bs 15 37) rfl rfl (by kernel_rfl) (fun _ _ _ h => h) (Or.inl ⟨by rfl, ?_⟩) ?_ ?_; rotate_left; (· intro w'; go_simp; first | done | with_reducible rfl); rotate_left; (· simp only [Act.put, List.setIfInBounds_toArray, List.set_cons_zero, List.set_cons_succ, i64_w, i32_w]; rfl)
    refine pure_ (i := 7) (N := some 19) (v := ?_) (a' := ?_) (bs 15 165) rfl rfl (by kernel_rfl) (fun _ _ _ h => h) (Or.inl ⟨by rfl, ?_⟩) ?_ ?_; rotate_left; (· intro w'; go_simp; first | done | with_reducible rfl); rotate_left; (· simp only [Act.put, List.setIfInBounds_toArray, List.set_cons_zero, List.set_cons_succ, i64_w, i32_w]; rfl)
    refine take_ (i := 1) (N := some 13) (v := ?_) (a' := ?_) (bs 15 167) rfl rfl (by kernel_rfl) (fun _ _ _ h => h) (Or.inl ⟨by rfl, ?_⟩) hHeld ?_ ?_; rotate_left; (· rintro w' ⟨s0, s1, s2, s3⟩; go_simp; first | done | with_reducible rfl); rotate_left; (· simp only [Act.put, List.setIfInBounds_toArray, List.set_cons_zero, List.set_cons_succ, i64_w, i32_w]; rfl)
    refine take_ (i := 3) (N := some 15) (v := ?_) (a' := ?_) (bs 15 175) rfl rfl (by kernel_rfl) (fun _ _ _ h => h) (Or.inl ⟨by rfl, ?_⟩) hHeld ?_ ?_; rotate_left; (· rintro w' ⟨s0, s1, s2, s3⟩; go_simp; first | done | with_reducible rfl); rotate_left; (· simp only [Act.put, List.setIfInBounds_toArray, List.set_cons_zero, List.set_cons_succ, i64_w, i32_w]; rfl)
    refine take_ (i := 6) (N := some 18) (v := ?_) (a' := ?_) (bs 15 239) rfl rfl (by kernel_rfl) (fun _ _ _ h => h) (Or.inl ⟨by rfl, ?_⟩) hHeld ?_ ?_; rotate_left; (· rintro w' ⟨s0, s1, s2, s3⟩; go_simp; first | done | with_reducible rfl); rotate_left; (· simp only [Act.put, List.setIfInBounds_toArray, List.set_cons_zero, List.set_cons_succ, i64_w, i32_w]; rfl)
    refine take_ (i := 8) (N := some 20) (v := ?_) (a' := ?_) (bs 15 495) rfl rfl (by kernel_rfl) (fun _ _ _ h => h) (Or.inl ⟨by rfl, ?_⟩) hHeld ?_ ?_; rotate_left; (· rintro w' ⟨s0, s1, s2, s3⟩; go_simp; first | done | with_reducible rfl); rotate_left; (· simp only [Act.put, List.setIfInBounds_toArray, List.set_cons_zero, List.set_cons_succ, i64_w, i32_w]; rfl)
    refine one_ (i := 4) (N := some 16) (bs 15 511) rfl rfl (by kernel_rfl) (by decide) (fun K hK => ?_)
    refine goes_ Try.func60 (by kernel_rfl) rfl #[.int .i64 n1, .int .i64 n2] (by rfl) rfl rfl (by simp only [List.map_toArray, List.map_cons, List.map_nil]; rfl) ?_
    with_reducible refine (product_n n1 n2 _ (by omega) (by omega) (by omega) (by omega)).mono ?_
    rintro e w4 ⟨g4, hg4, rfl, hb4, hN4⟩
    refine ⟨_, rfl, ?_⟩
    have hB4 := HB2.out.step (below_drew' hb4)
    refine hK.out _ _ hB4.cells (fun hHeld => ?_)
    clear hK K
    refine norm_ (a' := ?_) ?_ ?_; rotate_left; (· show Act.put _ (some 16) _ = _; simp only [Act.put, List.setIfInBounds_toArray, List.set_cons_zero, List.set_cons_succ, i64_w, i32_w]; rfl)
    refine one_ (i := 9) (N := some 21) (bs 15 1023) rfl rfl (by kernel_rfl) (by decide) (fun K hK => ?_)
    refine goes_ Try.func60 (by kernel_rfl) rfl #[.int .i64 d1, .int .i64 d2] (by rfl) rfl rfl (by simp only [List.map_toArray, List.map_cons, List.map_nil]; rfl) ?_
    with_reducible refine (product_n d1 d2 _ (by omega) (by omega) (by omega) (by omega)).mono ?_
    rintro e w6 ⟨g6, hg6, rfl, hb6, hN6⟩
    refine ⟨_, rfl, ?_⟩
    have hB6 := hB4.step hb6
    refine hK.out _ _ hB6.cells (fun hHeld => ?_)
    clear hK K
    refine norm_ (a' := ?_) ?_ ?_; rotate_left; (· show Act.put _ (some 21) _ = _; simp only [Act.put, List.setIfInBounds_toArray, List.set_cons_zero, List.set_cons_succ, i64_w, i32_w]; rfl)
    refine one_ (i := 10) (N := some 22) (bs 15 2047) rfl rfl (by kernel_rfl) (by decide) (fun K hK => ?_)
    refine goes_ Try.func59 (by kernel_rfl) rfl #[.pointer (some ⟨g4, 0, none⟩), .pointer (some ⟨g6, 0, none⟩)] (by rfl) rfl rfl (by simp only [List.map_toArray, List.map_cons, List.map_nil]; rfl) ?_
    with_reducible refine (ratioV_n N D E g4 g6 (n1 * n2) (d1 * d2) 4 4 w6 HV.out (hN4.below hb6) hN6 hdd (by decide)).mono ?_
    rintro e w7 ⟨rfl, hb7⟩
    refine ⟨_, rfl, ?_⟩
    have hB7 := hB6.step hb7
    refine hK.out _ _ hB7.cells (fun hHeld => ?_)
    clear hK K
    refine norm_ (a' := ?_) ?_ ?_; rotate_left; (· show Act.put _ (some 22) _ = _; simp only [Act.put, List.setIfInBounds_toArray, List.set_cons_zero, List.set_cons_succ, i64_w, i32_w]; rfl)
    refine pure_ (i := 11) (N := some 23) (v := ?_) (a' := ?_) (bs 15 4095) rfl rfl (by kernel_rfl) (fun _ _ _ h => h) (Or.inl ⟨by rfl, ?_⟩) ?_ ?_; rotate_left; (· intro w'; go_simp; first | done | with_reducible rfl); rotate_left; (· simp only [Act.put, List.setIfInBounds_toArray, List.set_cons_zero, List.set_cons_succ, i64_w, i32_w]; rfl)
    refine pure_ (i := 12) (N := some 24) (v := ?_) (a' := ?_) (bs 15 8191) rfl rfl (by kernel_rfl) (fun _ _ _ h => h) (Or.inl ⟨by rfl, ?_⟩) ?_ ?_; rotate_left; (· intro w'; go_simp; first | done | with_reducible rfl); rotate_left; (· simp only [Act.put, List.setIfInBounds_toArray, List.set_cons_zero, List.set_cons_succ, i64_w, i32_w]; rfl)
    refine last_ (i := 13) (N := none) (bs 15 16383) rfl rfl (by kernel_rfl) (by decide) (fun K hK => ?_)
    obtain ⟨r0, r1, r2, r3⟩ := time_cells hB7.r
    refine skip_ (w1 := ?_) (by rfl) rfl ?_ ?_
    rotate_left
    · (go_simp; with_reducible rfl)
    refine hK.out _ _ ?_
    clear hK K
    refine pure_ (i := 14) (N := some 5) (v := ?_) (a' := ?_) (bs 15 32767) rfl rfl (by kernel_rfl) (fun _ _ _ h => h) (Or.inl ⟨by rfl, ?_⟩) ?_ ?_; rotate_left; (· intro w'; go_simp; first | done | with_reducible rfl); rotate_left; (· simp only [Act.put, List.setIfInBounds_toArray, List.set_cons_zero, List.set_cons_succ, i64_w, i32_w]; rfl)
    refine done_ (by kernel_rfl) ?_
    have HB7 := Aside0.mk hB7
    go_wp2
    refine bodyPost_ret (results_ct rfl _ _ (w.heap.size + 1 + 1) 25 #[.int .i64 N, .int .i64 D] (0, 0) _ rfl (blk_two HB7.out.r) Try.underlying25 rfl (by kernel_rfl)) rfl ?_
    exact ⟨rfl, (HB7.out.below.setCell (by simp; omega) _).setCell (by simp; omega) _⟩
set_option maxHeartbeats 8000000 in
set_option maxRecDepth 100000 in
theorem Div_n (n1 d1 n2 d2 : Int) (w : World) :
    Calls Try.prog 35 #[tm n1 d1, tm n2 d2] w (ValP w (vDiv n1 d1 n2 d2)) := by
  have hu := Try.underlying25
  have hB := Aside0.mk (Boxed.start w n1 d1 n2 d2)
  cases hv : (valid n1 d1 && valid n2 d2) with
  | false =>
    rw [show vDiv n1 d1 n2 d2 = .tuple #[.agg #[.int .i64 0, .int .i64 0], .int .i64 4] by unfold vDiv; rw [hv]; rfl]
    unfold tm
    go_enter Try.func35, Try.ntmps35
    go_wp2_with fail
    generalize hW : World.alloc (World.alloc _ _) _ = W
    have HB := Aside0.mk (show Boxed w W n1 d1 n2 d2 by rw [← hW]; exact hB.out)
    clear hW hB
    refine (valid2_n _ n1 d1 n2 d2 W HB.out.s).mono ?_
    rintro e w2 ⟨rfl, hb2⟩
    rw [hv]
    have HB2 := Aside0.mk (HB.out.step hb2)
    clear hb2 HB
    obtain ⟨r0, r1, r2, r3⟩ := time_cells HB2.out.r
    go_wp2_with fail
    refine bodyPost_ret (results_ct rfl _ _ (w.heap.size + 1 + 1) 25 #[.int .i64 0, .int .i64 0] (0, 0) _ rfl (blk_two HB2.out.r) Try.underlying25 rfl (by kernel_rfl)) rfl ?_
    exact ⟨rfl, (HB2.out.below.setCell (by simp; omega) _).setCell (by simp; omega) _⟩
  | true =>
    have hv2 := hv
    simp only [Bool.and_eq_true] at hv2
    have q1 := valid_bd hv2.1
    have q2 := valid_bd hv2.2
    by_cases hz : n2 = 0
    · rw [show vDiv n1 d1 n2 d2 = .tuple #[.agg #[.int .i64 0, .int .i64 0], .int .i64 1] by unfold vDiv; rw [hv, if_pos hz]; rfl]
      subst hz
      unfold tm
      go_enter Try.func35, Try.ntmps35
      go_wp2_with fail
      generalize hW : World.alloc (World.alloc _ _) _ = W
      have HB := Aside0.mk (show Boxed w W n1 d1 0 d2 by rw [← hW]; exact hB.out)
      clear hW hB
      refine (valid2_n _ n1 d1 0 d2 W HB.out.s).mono ?_
      rintro e w2 ⟨rfl, hb2⟩
      rw [hv]
      have HB2 := Aside0.mk (HB.out.step hb2)
      clear hb2 HB
      obtain ⟨a0, a1, b0, b1⟩ := HB2.out.cells
      obtain ⟨r0, r1, r2, r3⟩ := time_cells HB2.out.r
      go_wp2_with fail
      refine bodyPost_ret (results_ct rfl _ _ (w.heap.size + 1 + 1) 25 #[.int .i64 0, .int .i64 0] (0, 0) _ rfl (blk_two HB2.out.r) Try.underlying25 rfl (by kernel_rfl)) rfl ?_
      exact ⟨rfl, (HB2.out.below.setCell (by simp; omega) _).setCell (by simp; omega) _⟩
    · obtain ⟨N, D, E, hV⟩ := vLow_form (n1 * d2) (d1 * n2)
      rw [show vDiv n1 d1 n2 d2 = .tuple #[.agg #[.int .i64 N, .int .i64 D], .int .i64 E] by unfold vDiv; rw [hv, if_neg hz, ← hV]; rfl]
      have HV := Aside0.mk (And.intro hV (mul_ne' (show d1 ≠ 0 by omega) hz))
      have hzb : (n2 == 0) = false := by simpa using hz
      clear hV hv2 hz
      unfold tm
      go_enter Try.func35, Try.ntmps35
      go_wp2_with fail
      generalize hW : World.alloc (World.alloc _ _) _ = W
      have HB := Aside0.mk (show Boxed w W n1 d1 n2 d2 by rw [← hW]; exact hB.out)
      clear hW hB
      refine (valid2_n _ n1 d1 n2 d2 W HB.out.s).mono ?_
      rintro e w2 ⟨rfl, hb2⟩
      rw [hv]
      have HB2 := Aside0.mk (HB.out.step hb2)
      clear hb2 HB
      obtain ⟨a0, a1, b0, b1⟩ := HB2.out.cells
      go_wp2_with fail
      refine start_ (n := 15) (S := fun w' => w'.cell? ⟨w.heap.size, 0, none⟩ = some (.int .i64 n1) ∧ w'.cell? ⟨w.heap.size, 1, none⟩ = some (.int .i64 d1) ∧ w'.cell? ⟨w.heap.size + 1, 0, none⟩ = some (.int .i64 n2) ∧ w'.cell? ⟨w.heap.size + 1, 1, none⟩ = some (.int .i64 d2)) (ds := [13]) (bs 15 0) (by kernel_rfl) rfl rfl (HB2.out.step (below_drew' (Below.refl _ _))).cells (fun hHeld => ?_)
      refine pure_ (i := 0) (N := some 16) (v := ?_) (a' := ?_) (bs 15 1) rfl rfl (by kernel_rfl) (fun _ _ _ h => h) (Or.inl ⟨by rfl, ?_⟩) ?_ ?_; rotate_left; (· intro w'; go_simp; first | done | with_reducible rfl); rotate_left; (· simp only [Act.put, List.setIfInBounds_toArray, List.set_cons_zero, List.set_cons_succ, i64_w, i32_w]; rfl)
      refine pure_ (i := 2) (N := some 18) (v := ?_) (a' := ?_) (bs 15 5) rfl rfl (by kernel_rfl) (fun _ _ _ h => h) (Or.inl ⟨by rfl, ?_⟩) ?_ ?_; rotate_left; (· intro w'; go_simp; first | done | with_reducible rfl); rotate_left; (· simp only [Act.put, List.setIfInBounds_toArray, List.set_cons_zero, List.set_cons_succ, i64_w, i32_w]; rfl)
      refine pure_ (i := 5) (N := some 21) (v := ?_) (a' := ?_) (bs 15 37) rfl rfl (by kernel_rfl) (fun _ _ _ h => h) (Or.inl ⟨by rfl, ?_⟩) ?_ ?_; rotate_left; (· intro w'; go_simp; first | done | with_reducible rfl); rotate_left; (· simp only [Act.put, List.setIfInBounds_toArray, List.set_cons_zero, List.set_cons_succ, i64_w, i32_w]; rfl)
      refine pure_ (i := 7) (N := some 23) (v := ?_) (a' := ?_) (bs 15 165) rfl rfl (by kernel_rfl) (fun _ _ _ h => h) (Or.inl ⟨by rfl, ?_⟩) ?_ ?_; rotate_left; (· intro w'; go_simp; first | done | with_reducible rfl); rotate_left; (· simp only [Act.put, List.setIfInBounds_toArray, List.set_cons_zero, List.set_cons_succ, i64_w, i32_w]; rfl)
      refine take_ (i := 1) (N := some 17) (v := ?_) (a' := ?_) (bs 15 167) rfl rfl (by kernel_rfl) (fun _ _ _ h => h) (Or.inl ⟨by rfl, ?_⟩) hHeld ?_ ?_; rotate_left; (· rintro w' ⟨s0, s1, s2, s3⟩; go_simp; first | done | with_reducible rfl); rotate_left; (· simp only [Act.put, List.setIfInBounds_toArray, List.set_cons_zero, List.set_cons_succ, i64_w, i32_w]; rfl)
      refine take_ (i := 3) (N := some 19) (v := ?_) (a' := ?_) (bs 15 175) rfl rfl (by kernel_rfl) (fun _ _ _ h => h) (Or.inl ⟨by rfl, ?_⟩) hHeld ?_ ?_; rotate_left; (· rintro w' ⟨s0, s1, s2, s3⟩; go_simp; first | done | with_reducible rfl); rotate_left; (· simp only [Act.put, List.setIfInBounds_toArray, List.set_cons_zero, List.set_cons_succ, i64_w, i32_w]; rfl)
      refine take_ (i := 6) (N := some 22) (v := ?_) (a' := ?_) (bs 15 239) rfl rfl (by kernel_rfl) (fun _ _ _ h => h) (Or.inl ⟨by rfl, ?_⟩) hHeld ?_ ?_; rotate_left; (· rintro w' ⟨s0, s1, s2, s3⟩; go_simp; first | done | with_reducible rfl); rotate_left; (· simp only [Act.put, List.setIfInBounds_toArray, List.set_cons_zero, List.set_cons_succ, i64_w, i32_w]; rfl)
      refine take_ (i := 8) (N := some 24) (v := ?_) (a' := ?_) (bs 15 495) rfl rfl (by kernel_rfl) (fun _ _ _ h => h) (Or.inl ⟨by rfl, ?_⟩) hHeld ?_ ?_; rotate_left; (· rintro w' ⟨s0, s1, s2, s3⟩; go_simp; first | done | with_reducible rfl); rotate_left; (· simp only [Act.put, List.setIfInBounds_toArray, List.set_cons_zero, List.set_cons_succ, i64_w, i32_w]; rfl)
      refine one_ (i := 4) (N := some 20) (bs 15 511) rfl rfl (by kernel_rfl) (by decide) (fun K hK => ?_)
      refine goes_ Try.func60 (by kernel_rfl) rfl #[.int .i64 n1, .int .i64 d2] (by rfl) rfl rfl (by simp only [List.map_toArray, List.map_cons, List.map_nil]; rfl) ?_
      with_reducible refine (product_n n1 d2 _ (by omega) (by omega) (by omega) (by omega)).mono ?_
      rintro e w4 ⟨g4, hg4, rfl, hb4, hN4⟩
      refine ⟨_, rfl, ?_⟩
      have hB4 := HB2.out.step (below_drew' hb4)
      refine hK.out _ _ hB4.cells (fun hHeld => ?_)
      clear hK K
      refine norm_ (a' := ?_) ?_ ?_; rotate_left; (· show Act.put _ (some 20) _ = _; simp only [Act.put, List.setIfInBounds_toArray, List.set_cons_zero, List.set_cons_succ, i64_w, i32_w]; rfl)
      refine one_ (i := 9) (N := some 25) (bs 15 1023) rfl rfl (by kernel_rfl) (by decide) (fun K hK => ?_)
      refine goes_ Try.func60 (by kernel_rfl) rfl #[.int .i64 d1, .int .i64 n2] (by rfl) rfl rfl (by simp only [List.map_toArray, List.map_cons, List.map_nil]; rfl) ?_
      with_reducible refine (product_n d1 n2 _ (by omega) (by omega) (by omega) (by omega)).mono ?_
      rintro e w6 ⟨g6, hg6, rfl, hb6, hN6⟩
      refine ⟨_, rfl, ?_⟩
      have hB6 := hB4.step hb6
      refine hK.out _ _ hB6.cells (fun hHeld => ?_)
      clear hK K
      refine norm_ (a' := ?_) ?_ ?_; rotate_left; (· show Act.put _ (some 25) _ = _; simp only [Act.put, List.setIfInBounds_toArray, List.set_cons_zero, List.set_cons_succ, i64_w, i32_w]; rfl)
      refine one_ (i := 10) (N := some 26) (bs 15 2047) rfl rfl (by kernel_rfl) (by decide) (fun K hK => ?_)
      refine goes_ Try.func59 (by kernel_rfl) rfl #[.pointer (some ⟨g4, 0, none⟩), .pointer (some ⟨g6, 0, none⟩)] (by rfl) rfl rfl (by simp only [List.map_toArray, List.map_cons, List.map_nil]; rfl) ?_
      with_reducible refine (ratioV_n N D E g4 g6 (n1 * d2) (d1 * n2) 4 4 w6 HV.out.1 (hN4.below hb6) hN6 HV.out.2 (by decide)).mono ?_
      rintro e w7 ⟨rfl, hb7⟩
      refine ⟨_, rfl, ?_⟩
      have hB7 := hB6.step hb7
      refine hK.out _ _ hB7.cells (fun hHeld => ?_)
      clear hK K
      refine norm_ (a' := ?_) ?_ ?_; rotate_left; (· show Act.put _ (some 26) _ = _; simp only [Act.put, List.setIfInBounds_toArray, List.set_cons_zero, List.set_cons_succ, i64_w, i32_w]; rfl)
      refine pure_ (i := 11) (N := some 27) (v := ?_) (a' := ?_) (bs 15 4095) rfl rfl (by kernel_rfl) (fun _ _ _ h => h) (Or.inl ⟨by rfl, ?_⟩) ?_ ?_; rotate_left; (· intro w'; go_simp; first | done | with_reducible rfl); rotate_left; (· simp only [Act.put, List.setIfInBounds_toArray, List.set_cons_zero, List.set_cons_succ, i64_w, i32_w]; rfl)
      refine pure_ (i := 12) (N := some 28) (v := ?_) (a' := ?_) (bs 15 8191) rfl rfl (by kernel_rfl) (fun _ _ _ h => h) (Or.inl ⟨by rfl, ?_⟩) ?_ ?_; rotate_left; (· intro w'; go_simp; first | done | with_reducible rfl); rotate_left; (· simp only [Act.put, List.setIfInBounds_toArray, List.set_cons_zero, List.set_cons_succ, i64_w, i32_w]; rfl)
      refine last_ (i := 13) (N := none) (bs 15 16383) rfl rfl (by kernel_rfl) (by decide) (fun K hK => ?_)
      obtain ⟨r0, r1, r2, r3⟩ := time_cells hB7.r
      refine skip_ (w1 := ?_) (by rfl) rfl ?_ ?_
      rotate_left
      · (go_simp; with_reducible rfl)
      refine hK.out _ _ ?_
      clear hK K
      refine pure_ (i := 14) (N := some 5) (v := ?_) (a' := ?_) (bs 15 32767) rfl rfl (by kernel_rfl) (fun _ _ _ h => h) (Or.inl ⟨by rfl, ?_⟩) ?_ ?_; rotate_left; (· intro w'; go_simp; first | done | with_reducible rfl); rotate_left; (· simp only [Act.put, List.setIfInBounds_toArray, List.set_cons_zero, List.set_cons_succ, i64_w, i32_w]; rfl)
      refine done_ (by kernel_rfl) ?_
      have HB7 := Aside0.mk hB7
      go_wp2
      refine bodyPost_ret (results_ct rfl _ _ (w.heap.size + 1 + 1) 25 #[.int .i64 N, .int .i64 D] (0, 0) _ rfl (blk_two HB7.out.r) Try.underlying25 rfl (by kernel_rfl)) rfl ?_
      exact ⟨rfl, (HB7.out.below.setCell (by simp; omega) _).setCell (by simp; omega) _⟩
set_option maxHeartbeats 8000000 in
set_option maxRecDepth 100000 in
theorem Lowest_n (n d : Int) (w : World) :
    Calls Try.prog 22 #[tm n d] w (ValP w (vLowest n d)) := by
  have hu := Try.underlying25
  have e1 : (w.alloc (timeObj n d)).heap.size = w.heap.size + 1 := by simp
  have k2 := blk_new (w.alloc (timeObj n d)) (timeObj 0 0)
  rw [e1] at k2
  have hbw : Below w.heap.size w ((w.alloc (timeObj n d)).alloc (timeObj 0 0)) := below_alloc (below_alloc (Below.refl _ w) _) _
  have k1 := blk_alloc (blk_new w (timeObj n d)) (timeObj 0 0)
  generalize hW : (w.alloc (timeObj n d)).alloc (timeObj 0 0) = W at *
  have HW := Aside0.mk (And.intro hbw (And.intro k1 k2))
  clear hbw k1 k2
  cases hv : valid n d with
  | false =>
    rw [show vLowest n d = .tuple #[.agg #[.int .i64 0, .int .i64 0], .int .i64 4] by unfold vLowest; rw [hv]; rfl]
    unfold tm
    go_enter Try.func22, Try.ntmps22
    go_wp2_with fail
    rw [show (w.alloc (.cells #[.int .i64 n, .int .i64 d] 25)).alloc (.cells #[.int .i64 0, .int .i64 0] 25) = W from hW]
    refine (Valid_n n d W).mono ?_
    rintro e w2 ⟨rfl, hb2⟩
    rw [hv]
    have HB2 := Aside0.mk (And.intro (HW.out.1.trans (hb2.mono HW.out.1.size)) (blk_below HW.out.2.2 hb2))
    obtain ⟨r0, r1, r2, r3⟩ := time_cells HB2.out.2
    clear hb2
    go_wp2_with fail
    refine bodyPost_ret (results_ct rfl _ _ (w.heap.size + 1) 25 #[.int .i64 0, .int .i64 0] (0, 0) _ rfl (blk_two HB2.out.2) Try.underlying25 rfl (by kernel_rfl)) rfl ?_
    exact ⟨rfl, (HB2.out.1.setCell (by simp) _).setCell (by simp) _⟩
  | true =>
    have q := valid_bd hv
    rw [show vLowest n d = .tuple #[.agg #[.int .i64 (lowN n d), .int .i64 (lowD n d)], .int .i64 0] by unfold vLowest; rw [hv]; rfl]
    obtain ⟨k, hk⟩ := lowest_f n d (by omega) (by omega) q.1 (by omega)
    generalize lowN n d = N at *
    generalize lowD n d = D at *
    have HK := Aside0.mk hk
    clear hk
    unfold tm
    go_enter Try.func22, Try.ntmps22
    go_wp2_with fail
    rw [show (w.alloc (.cells #[.int .i64 n, .int .i64 d] 25)).alloc (.cells #[.int .i64 0, .int .i64 0] 25) = W from hW]
    refine (Valid_n n d W).mono ?_
    rintro e w2 ⟨rfl, hb2⟩
    rw [hv]
    have HB2 := Aside0.mk (And.intro (HW.out.1.trans (hb2.mono HW.out.1.size)) (And.intro (blk_below HW.out.2.1 hb2) (blk_below HW.out.2.2 hb2)))
    obtain ⟨a0, a1, _, _⟩ := time_cells HB2.out.2.1
    clear hb2
    go_wp2_with fail
    refine (exact_lowest.calls k n d N D _ HK.out).mono ?_
    rintro e w3 ⟨rfl, hb3⟩
    have HB3 := Aside0.mk (And.intro (HB2.out.1.trans (hb3.mono HB2.out.1.size)) (blk_below HB2.out.2.2 hb3))
    obtain ⟨r0, r1, r2, r3⟩ := time_cells HB3.out.2
    clear hb3 a0 a1
    go_wp2_with fail
    refine bodyPost_ret (results_ct rfl _ _ (w.heap.size + 1) 25 #[.int .i64 N, .int .i64 D] (0, 0) _ rfl (blk_two HB3.out.2) Try.underlying25 rfl (by kernel_rfl)) rfl ?_
    exact ⟨rfl, (HB3.out.1.setCell (by simp) _).setCell (by simp) _⟩
end Go.Proofs.Ytdginjpppgfdaaa.Rd

namespace Go.Proofs.Ytdginjpppgfdaaa.Lb
open Go.RowKit Go Go.Proofs.Ytdginjpppgfdaaa.Nd Go.Proofs.Ytdginjpppgfdaaa.Ea Go.Proofs.Ytdginjpppgfdaaa.Eb Go.Proofs.Ytdginjpppgfdaaa.Ee Go.Proofs.Ytdginjpppgfdaaa.Ra Go.Proofs.Ytdginjpppgfdaaa.Rb Go.Proofs.Ytdginjpppgfdaaa.Rc Go.Proofs.Ytdginjpppgfdaaa.Rd
set_option linter.unusedVariables false
set_option linter.unusedSimpArgs false

abbrev R3 := Int × Int × Int
def tv (r : R3) : Value := .tuple #[.agg #[.int .i64 r.1, .int .i64 r.2.1], .int .i64 r.2.2]
def rLow (n d : Int) : R3 := if valid (ratN n d) (ratD n d) then (ratN n d, ratD n d, 0) else (0, 0, 2)
def rAdd (n1 d1 n2 d2 : Int) : R3 := if valid n1 d1 && valid n2 d2 then rLow (n1 * d2 + n2 * d1) (d1 * d2) else (0, 0, 4)
def rSub (n1 d1 n2 d2 : Int) : R3 := if valid n1 d1 && valid n2 d2 then rLow (n1 * d2 + -n2 * d1) (d1 * d2) else (0, 0, 4)
def rMul (n1 d1 n2 d2 : Int) : R3 := if valid n1 d1 && valid n2 d2 then rLow (n1 * n2) (d1 * d2) else (0, 0, 4)
def rDiv (n1 d1 n2 d2 : Int) : R3 := if valid n1 d1 && valid n2 d2 then (if n2 = 0 then (0, 0, 1) else rLow (n1 * d2) (d1 * n2)) else (0, 0, 4)
def rLowest (n d : Int) : R3 := if valid n d then (lowN n d, lowD n d, 0) else (0, 0, 4)
theorem vLow_r (n d : Int) : vLow n d = tv (rLow n d) := by unfold vLow rLow; split <;> rfl
theorem vAdd_r (n1 d1 n2 d2 : Int) : vAdd n1 d1 n2 d2 = tv (rAdd n1 d1 n2 d2) := by
  unfold vAdd rAdd
  split
  · exact vLow_r _ _
  · rfl
theorem vSub_r (n1 d1 n2 d2 : Int) : vSub n1 d1 n2 d2 = tv (rSub n1 d1 n2 d2) := by
  unfold vSub rSub
  split
  · exact vLow_r _ _
  · rfl
theorem vMul_r (n1 d1 n2 d2 : Int) : vMul n1 d1 n2 d2 = tv (rMul n1 d1 n2 d2) := by
  unfold vMul rMul
  split
  · exact vLow_r _ _
  · rfl
theorem vDiv_r (n1 d1 n2 d2 : Int) : vDiv n1 d1 n2 d2 = tv (rDiv n1 d1 n2 d2) := by
  unfold vDiv rDiv
  split
  · split
    · rfl
    · exact vLow_r _ _
  · rfl
theorem vLowest_r (n d : Int) : vLowest n d = tv (rLowest n d) := by unfold vLowest rLowest; split <;> rfl
def TvP (w : World) (N D E : Int) (e : Ending) (w' : World) : Prop := e = .returned (.tuple #[.agg #[.int .i64 N, .int .i64 D], .int .i64 E]) ∧ Below w.heap.size w w'
theorem TvP.of {w : World} {v : Value} {N D E : Int} {e : Ending} {w' : World} (h : ValP w v e w') (hv : v = tv (N, D, E)) : TvP w N D E e w' := by
  subst hv
  exact h
theorem AddT_n {n1 d1 n2 d2 N D E : Int} (h : rAdd n1 d1 n2 d2 = (N, D, E)) (w : World) : Calls Try.prog 26 #[.agg #[.int .i64 n1, .int .i64 d1], .agg #[.int .i64 n2, .int .i64 d2]] w (TvP w N D E) := (Add_n n1 d1 n2 d2 w).mono fun e w' hp => TvP.of hp ((vAdd_r _ _ _ _).trans (by rw [h]))
theorem SubT_n {n1 d1 n2 d2 N D E : Int} (h : rSub n1 d1 n2 d2 = (N, D, E)) (w : World) : Calls Try.prog 28 #[.agg #[.int .i64 n1, .int .i64 d1], .agg #[.int .i64 n2, .int .i64 d2]] w (TvP w N D E) := (Sub_n n1 d1 n2 d2 w).mono fun e w' hp => TvP.of hp ((vSub_r _ _ _ _).trans (by rw [h]))
theorem MulT_n {n1 d1 n2 d2 N D E : Int} (h : rMul n1 d1 n2 d2 = (N, D, E)) (w : World) : Calls Try.prog 31 #[.agg #[.int .i64 n1, .int .i64 d1], .agg #[.int .i64 n2, .int .i64 d2]] w (TvP w N D E) := (Mul_n n1 d1 n2 d2 w).mono fun e w' hp => TvP.of hp ((vMul_r _ _ _ _).trans (by rw [h]))
theorem DivT_n {n1 d1 n2 d2 N D E : Int} (h : rDiv n1 d1 n2 d2 = (N, D, E)) (w : World) : Calls Try.prog 35 #[.agg #[.int .i64 n1, .int .i64 d1], .agg #[.int .i64 n2, .int .i64 d2]] w (TvP w N D E) := (Div_n n1 d1 n2 d2 w).mono fun e w' hp => TvP.of hp ((vDiv_r _ _ _ _).trans (by rw [h]))
theorem LowestT_n {n d N D E : Int} (h : rLowest n d = (N, D, E)) (w : World) : Calls Try.prog 22 #[.agg #[.int .i64 n, .int .i64 d]] w (TvP w N D E) := (Lowest_n n d w).mono fun e w' hp => TvP.of hp ((vLowest_r _ _).trans (by rw [h]))

/-! ### fractions -/
theorem lowD_pos {n d : Int} (hd : 1 ≤ d) : 1 ≤ lowD n d := by
  have := ratD_pos (n := n) (d := d) (by omega)
  rwa [(ratN_pos (n := n) (d := d) (by omega)).2] at this
theorem low_eq {n d : Int} (hd : 1 ≤ d) : lowN n d * d = n * lowD n d := by
  have e1 : n = lowN n d * (Int.gcd n d : Int) := (Int.ediv_mul_cancel (Int.gcd_dvd_left n d)).symm
  have e2 : d = lowD n d * (Int.gcd n d : Int) := (Int.ediv_mul_cancel (Int.gcd_dvd_right n d)).symm
  generalize (Int.gcd n d : Int) = g at e1 e2
  generalize lowN n d = N at *
  generalize lowD n d = D at *
  subst e1
  subst e2
  grind
theorem low_gcd {n d : Int} (hd : 1 ≤ d) : Int.gcd (lowN n d) (lowD n d) = 1 := by
  unfold lowN lowD
  exact Int.gcd_ediv_gcd_ediv_gcd_of_ne_zero_right (by omega)
theorem dvd_cop {d n m : Int} (h : d ∣ n * m) (hg : Int.gcd d n = 1) : d ∣ m := by
  have h1 := Int.natAbs_dvd_natAbs.2 h
  rw [Int.natAbs_mul] at h1
  exact Int.natAbs_dvd_natAbs.1 (Nat.Coprime.dvd_of_dvd_mul_left (show Nat.Coprime d.natAbs n.natAbs from hg) h1)
/-- Lowest terms hang on the fraction alone. -/
theorem low_uniq {n d n' d' : Int} (hd : 1 ≤ d) (hd' : 1 ≤ d') (hg : Int.gcd n d = 1) (hg' : Int.gcd n' d' = 1) (h : n * d' = n' * d) : n = n' ∧ d = d' := by
  have h1 : d ∣ d' := by
    have : d ∣ n * d' := ⟨n', by rw [h, Int.mul_comm]⟩
    exact dvd_cop this (by rw [Int.gcd_comm]; exact hg)
  have h2 : d' ∣ d := by
    have : d' ∣ n' * d := ⟨n, by rw [← h, Int.mul_comm]⟩
    exact dvd_cop this (by rw [Int.gcd_comm]; exact hg')
  have h3 := Int.le_of_dvd (by omega) h1
  have h4 := Int.le_of_dvd (by omega) h2
  have e : d = d' := by omega
  subst e
  exact ⟨Int.eq_of_mul_eq_mul_right (by omega) h, rfl⟩
theorem low_same {n d n' d' : Int} (hd : 1 ≤ d) (hd' : 1 ≤ d') (h : n * d' = n' * d) : lowN n d = lowN n' d' ∧ lowD n d = lowD n' d' := by
  refine low_uniq (lowD_pos hd) (lowD_pos hd') (low_gcd hd) (low_gcd hd') ?_
  have e1 := low_eq (n := n) hd
  have e2 := low_eq (n := n') hd'
  generalize lowN n d = N at *
  generalize lowD n d = D at *
  generalize lowN n' d' = N' at *
  generalize lowD n' d' = D' at *
  refine Int.eq_of_mul_eq_mul_right (a := d * d') (Int.ne_of_gt (Int.mul_pos (by omega) (by omega))) ?_
  grind
theorem rat_eq {n d : Int} (hd : d ≠ 0) : ratN n d * d = n * ratD n d := by
  unfold ratN ratD
  by_cases h : d < 0
  · rw [if_pos h, if_pos h]
    have := low_eq (n := -n) (d := -d) (by omega)
    grind
  · rw [if_neg h, if_neg h]
    exact low_eq (by omega)
theorem rat_gcd {n d : Int} (hd : d ≠ 0) : Int.gcd (ratN n d) (ratD n d) = 1 := by
  unfold ratN ratD
  by_cases h : d < 0
  · rw [if_pos h, if_pos h]
    exact low_gcd (by omega)
  · rw [if_neg h, if_neg h]
    exact low_gcd (by omega)
theorem rat_same {n d n' d' : Int} (hd : d ≠ 0) (hd' : d' ≠ 0) (h : n * d' = n' * d) : ratN n d = ratN n' d' ∧ ratD n d = ratD n' d' := by
  refine low_uniq (ratD_pos hd) (ratD_pos hd') (rat_gcd hd) (rat_gcd hd') ?_
  have e1 := rat_eq (n := n) hd
  have e2 := rat_eq (n := n') hd'
  generalize ratN n d = N at *
  generalize ratD n d = D at *
  generalize ratN n' d' = N' at *
  generalize ratD n' d' = D' at *
  refine Int.eq_of_mul_eq_mul_right (a := d * d') (Int.mul_ne_zero hd hd') ?_
  grind
theorem rLow_same {n d n' d' : Int} (hd : d ≠ 0) (hd' : d' ≠ 0) (h : n * d' = n' * d) : rLow n d = rLow n' d' := by
  have := rat_same hd hd' h
  unfold rLow
  rw [this.1, this.2]
/-- A fraction that is a time. -/
theorem rLow_ok {n d N D : Int} (hd : d ≠ 0) (h : rLow n d = (N, D, 0)) : valid N D = true ∧ N * d = n * D ∧ Int.gcd N D = 1 := by
  unfold rLow at h
  split at h
  · next hv =>
    simp only [Prod.mk.injEq, and_true] at h
    obtain ⟨rfl, rfl⟩ := h
    exact ⟨hv, rat_eq hd, rat_gcd hd⟩
  · simp at h
theorem rAdd_ok {n1 d1 n2 d2 N D : Int} (h : rAdd n1 d1 n2 d2 = (N, D, 0)) : valid n1 d1 = true ∧ valid n2 d2 = true ∧ valid N D = true ∧ N * (d1 * d2) = (n1 * d2 + n2 * d1) * D ∧ Int.gcd N D = 1 := by
  unfold rAdd at h
  split at h
  · next hv =>
    simp only [Bool.and_eq_true] at hv
    exact ⟨hv.1, hv.2, rLow_ok (mul_pos' (valid_bd hv.1).1 (valid_bd hv.2).1) h⟩
  · simp at h
theorem rSub_ok {n1 d1 n2 d2 N D : Int} (h : rSub n1 d1 n2 d2 = (N, D, 0)) : valid n1 d1 = true ∧ valid n2 d2 = true ∧ valid N D = true ∧ N * (d1 * d2) = (n1 * d2 + -n2 * d1) * D ∧ Int.gcd N D = 1 := by
  unfold rSub at h
  split at h
  · next hv =>
    simp only [Bool.and_eq_true] at hv
    exact ⟨hv.1, hv.2, rLow_ok (mul_pos' (valid_bd hv.1).1 (valid_bd hv.2).1) h⟩
  · simp at h
theorem rMul_ok {n1 d1 n2 d2 N D : Int} (h : rMul n1 d1 n2 d2 = (N, D, 0)) : valid n1 d1 = true ∧ valid n2 d2 = true ∧ valid N D = true ∧ N * (d1 * d2) = (n1 * n2) * D ∧ Int.gcd N D = 1 := by
  unfold rMul at h
  split at h
  · next hv =>
    simp only [Bool.and_eq_true] at hv
    exact ⟨hv.1, hv.2, rLow_ok (mul_pos' (valid_bd hv.1).1 (valid_bd hv.2).1) h⟩
  · simp at h
theorem rAdd_val {n1 d1 n2 d2 : Int} (h1 : valid n1 d1 = true) (h2 : valid n2 d2 = true) : rAdd n1 d1 n2 d2 = rLow (n1 * d2 + n2 * d1) (d1 * d2) := by unfold rAdd; rw [h1, h2]; rfl
theorem rSub_val {n1 d1 n2 d2 : Int} (h1 : valid n1 d1 = true) (h2 : valid n2 d2 = true) : rSub n1 d1 n2 d2 = rLow (n1 * d2 + -n2 * d1) (d1 * d2) := by unfold rSub; rw [h1, h2]; rfl
theorem rMul_val {n1 d1 n2 d2 : Int} (h1 : valid n1 d1 = true) (h2 : valid n2 d2 = true) : rMul n1 d1 n2 d2 = rLow (n1 * n2) (d1 * d2) := by unfold rMul; rw [h1, h2]; rfl
theorem rAdd_comm (n1 d1 n2 d2 : Int) : rAdd n1 d1 n2 d2 = rAdd n2 d2 n1 d1 := by
  unfold rAdd
  rw [Bool.and_comm, Int.add_comm, Int.mul_comm d1 d2]
theorem rMul_comm (n1 d1 n2 d2 : Int) : rMul n1 d1 n2 d2 = rMul n2 d2 n1 d1 := by
  unfold rMul
  rw [Bool.and_comm, Int.mul_comm n1 n2, Int.mul_comm d1 d2]
theorem add_assoc3 {na da nb db nc dc N1 D1 N3 D3 : Int} (h1 : rAdd na da nb db = (N1, D1, 0)) (h3 : rAdd nb db nc dc = (N3, D3, 0)) : rAdd N1 D1 nc dc = rAdd na da N3 D3 := by
  obtain ⟨va, vb, v1, e1, _⟩ := rAdd_ok h1
  obtain ⟨_, vc, v3, e3, _⟩ := rAdd_ok h3
  have qa := valid_bd va
  have qb := valid_bd vb
  have qc := valid_bd vc
  have q1 := valid_bd v1
  have q3 := valid_bd v3
  rw [rAdd_val v1 vc, rAdd_val va v3]
  refine rLow_same (mul_pos' q1.1 qc.1) (mul_pos' qa.1 q3.1) ?_
  refine Int.eq_of_mul_eq_mul_right (a := da * db * (db * dc)) (Int.mul_ne_zero (mul_pos' qa.1 qb.1) (mul_pos' qb.1 qc.1)) ?_
  clear h1 h3 va vb v1 vc v3
  grind
theorem mul_assoc3 {na da nb db nc dc N1 D1 N3 D3 : Int} (h1 : rMul na da nb db = (N1, D1, 0)) (h3 : rMul nb db nc dc = (N3, D3, 0)) : rMul N1 D1 nc dc = rMul na da N3 D3 := by
  obtain ⟨va, vb, v1, e1, _⟩ := rMul_ok h1
  obtain ⟨_, vc, v3, e3, _⟩ := rMul_ok h3
  have qa := valid_bd va
  have qb := valid_bd vb
  have qc := valid_bd vc
  have q1 := valid_bd v1
  have q3 := valid_bd v3
  rw [rMul_val v1 vc, rMul_val va v3]
  refine rLow_same (mul_pos' q1.1 qc.1) (mul_pos' qa.1 q3.1) ?_
  refine Int.eq_of_mul_eq_mul_right (a := da * db * (db * dc)) (Int.mul_ne_zero (mul_pos' qa.1 qb.1) (mul_pos' qb.1 qc.1)) ?_
  clear h1 h3 va vb v1 vc v3
  grind
theorem distrib3 {na da nb db nc dc N3 D3 P1 Q1 P6 Q6 : Int} (h3 : rAdd nb db nc dc = (N3, D3, 0)) (h1 : rMul na da nb db = (P1, Q1, 0)) (h6 : rMul na da nc dc = (P6, Q6, 0)) : rMul na da N3 D3 = rAdd P1 Q1 P6 Q6 := by
  obtain ⟨va, vb, v1, e1, _⟩ := rMul_ok h1
  obtain ⟨_, vc, v6, e6, _⟩ := rMul_ok h6
  obtain ⟨_, _, v3, e3, _⟩ := rAdd_ok h3
  have qa := valid_bd va
  have qb := valid_bd vb
  have qc := valid_bd vc
  have q1 := valid_bd v1
  have q3 := valid_bd v3
  have q6 := valid_bd v6
  rw [rMul_val va v3, rAdd_val v1 v6]
  refine rLow_same (mul_pos' qa.1 q3.1) (mul_pos' q1.1 q6.1) ?_
  refine Int.eq_of_mul_eq_mul_right (a := da * db * (da * dc) * (db * dc)) (Int.mul_ne_zero (Int.mul_ne_zero (mul_pos' qa.1 qb.1) (mul_pos' qa.1 qc.1)) (mul_pos' qb.1 qc.1)) ?_
  clear h1 h3 h6 va vb v1 vc v3 v6
  grind
end Go.Proofs.Ytdginjpppgfdaaa.Lb

namespace Go.Proofs.Ytdginjpppgfdaaa.Lw
open Go.RowKit Go Go.Proofs.YtdginjpppgfdaaaW.PrintWords Go.Proofs.YtdginjpppgfdaaaW.PrintLast Go.Proofs.YtdginjpppgfdaaaW.PrintMore Go.Proofs.Ytdginjpppgfdaaa.Nd Go.Proofs.Ytdginjpppgfdaaa.Ea Go.Proofs.Ytdginjpppgfdaaa.Eb Go.Proofs.Ytdginjpppgfdaaa.Ee Go.Proofs.Ytdginjpppgfdaaa.Lb
set_option linter.unusedVariables false
set_option linter.unusedSimpArgs false

/-- What has been boxed since w0. -/
structure St (w0 w : World) (l : List (Nat × Int × Int)) : Prop where
  b : Below w0.heap.size w0 w
  at_ : ∀ x ∈ l, w.heap[x.1]? = some (timeObj x.2.1 x.2.2)
theorem St.start (w : World) : St w w [] := ⟨Below.refl _ _, by simp⟩
theorem St.call {w0 w w' : World} {l : List (Nat × Int × Int)} (h : St w0 w l) (hb : Below w.heap.size w w') : St w0 w' l :=
  ⟨h.b.trans (hb.mono h.b.size), fun x hx => blk_below (h.at_ x hx) hb⟩
theorem St.box {w0 w : World} {l : List (Nat × Int × Int)} (h : St w0 w l) (n d : Int) {g : Nat} (hg : g = w.heap.size) : St w0 (w.alloc (.cells #[.int .i64 n, .int .i64 d] 25)) ((g, n, d) :: l) := by
  refine ⟨below_alloc h.b _, fun x hx => ?_⟩
  rcases List.mem_cons.1 hx with rfl | hx
  · subst hg
    exact blk_new w _
  · exact blk_alloc (h.at_ x hx) _
theorem St.get {w0 w : World} {l : List (Nat × Int × Int)} (h : St w0 w l) {g : Nat} {n d : Int} (hm : (g, n, d) ∈ l) : w.cell? ⟨g, 0, none⟩ = some (.int .i64 n) ∧ w.cell? ⟨g, 1, none⟩ = some (.int .i64 d) := by
  obtain ⟨a, b, _, _⟩ := time_cells (h.at_ _ hm)
  exact ⟨a, b⟩
theorem St.lt {w0 w : World} {l : List (Nat × Int × Int)} (h : St w0 w l) {g : Nat} {n d : Int} (hm : (g, n, d) ∈ l) : g < w.heap.size := lt_of_some (h.at_ _ hm)
def sameB (n1 d1 e1 n2 d2 e2 : Int) : Bool := !(e1 == 0) || !(e2 == 0) || (n1 == n2 && d1 == d2)
set_option maxHeartbeats 4000000 in
set_option maxRecDepth 100000 in
theorem same_n (n1 d1 e1 n2 d2 e2 : Int) (w : World) :
    Calls Try.prog 30 #[.agg #[.int .i64 n1, .int .i64 d1], .int .i64 e1, .agg #[.int .i64 n2, .int .i64 d2], .int .i64 e2] w (ValP w (.bool (sameB n1 d1 e1 n2 d2 e2))) := by
  have hu := Try.underlying25
  go_enter Try.func30, Try.ntmps30
  go_wp2_with fail
  all_goals
    go_ret
    refine ⟨ret_b ?_, below_alloc (below_alloc (Below.refl _ _) _) _⟩
    unfold sameB
    first | (simp_all; done) | grind
end Go.Proofs.Ytdginjpppgfdaaa.Lw

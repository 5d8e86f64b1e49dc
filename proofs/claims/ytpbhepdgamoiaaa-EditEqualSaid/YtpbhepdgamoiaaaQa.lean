/-
  What the calls of package num do to numbers in memory: QuoRem, Sub, Sign, Int64.
-/
import Derived.Test.YtpbhepdgamoiaaaDc
namespace Go.Proofs.Ytpbhepdgamoiaaa.Qa
open Go.RowKit Go Go.Proofs.YtpbhepdgamoiaaaW.PrintWords Go.Proofs.YtpbhepdgamoiaaaW.PrintLast Go.Proofs.YtpbhepdgamoiaaaW.PrintMore Go.Proofs.Ytpbhepdgamoiaaa.Ml Go.Proofs.Ytpbhepdgamoiaaa.Mn Go.Proofs.Ytpbhepdgamoiaaa.Nd Go.Proofs.Ytpbhepdgamoiaaa.P Go.Proofs.Ytpbhepdgamoiaaa.Nc Go.Proofs.Ytpbhepdgamoiaaa.Na Go.Proofs.Ytpbhepdgamoiaaa.Nb Go.Proofs.Ytpbhepdgamoiaaa.Ns Go.Proofs.Ytpbhepdgamoiaaa.Da Go.Proofs.Ytpbhepdgamoiaaa.Dc
attribute [local go_sem] max2_int min2_int max_two min_two
set_option linter.unusedVariables false
set_option linter.unusedSimpArgs false

theorem divMag_n (A0 : Option Addr) (c0 : Nat) (la : List Int) (A1 : Option Addr) (c1 : Nat) (lb : List Int) (w : World) (h0 : la.length ≤ c0) (r0 : Kd.C (Kd.int .u32) w A0 la.length la) (h1 : lb.length ≤ c1) (r1 : Kd.C (Kd.int .u32) w A1 lb.length lb) (ha : Cn 4294967296 la) (hb : Cn 4294967296 lb) (hp : lb ≠ []) (hn : la.length ≤ 1000) (hm : lb.length ≤ 1000) :
    Calls Try.prog 162 #[.slice A0 la.length c0, .slice A1 lb.length c1] w (DivP w la lb) := by
  by_cases hlt : dv 4294967296 la < dv 4294967296 lb
  · exact divMag_a A0 c0 la A1 c1 lb w h0 r0 h1 r1 ha hb hn hm hlt
  · rcases lb with _ | ⟨x, _ | ⟨y, t⟩⟩
    · exact absurd rfl hp
    · exact divMag_b A0 c0 la A1 c1 x w h0 r0 h1 r1 ha hb hn (by omega)
    · exact divMag_c A0 c0 la A1 c1 t.length (x :: y :: t) w h0 r0 (by simpa using h1) r1 (by simp) ha hb hn (by simp at hm; omega) (by omega)

theorem sg_div {na nb : Bool} {A B Q R : Int} (hB : 0 < B) (hQ : 0 ≤ Q) (hR : 0 ≤ R) (hlt : R < B) (h : A = Q * B + R) :
    (sg na A).tdiv (sg nb B) = sg (!na == nb) Q ∧ (sg na A).tmod (sg nb B) = sg na R := by
  have hA : 0 ≤ A := by have := Int.mul_nonneg hQ (Int.le_of_lt hB); omega
  have e1 : A.tdiv B = Q := by
    rw [Int.tdiv_eq_ediv_of_nonneg hA, h, Int.add_comm, Int.add_mul_ediv_right _ _ (by omega), Int.ediv_eq_zero_of_lt hR hlt, Int.zero_add]
  have e2 : A.tmod B = R := by
    rw [Int.tmod_eq_emod_of_nonneg hA, h, Int.add_comm, Int.add_mul_emod_self_right, Int.emod_eq_of_lt hR hlt]
  cases na <;> cases nb <;> simp [sg, Int.neg_tdiv, Int.tdiv_neg, Int.neg_tmod, Int.tmod_neg, e1, e2]

theorem Wrote.room {w w' : World} {g o g2 o2 : Nat} (h : Wrote w w' g o) (hr : Room w g2 o2) (hne : g2 ≠ g) : Room w' g2 o2 := by
  obtain ⟨n, v, hs⟩ := hr
  exact ⟨n, v, h.slot hs (.inl hne)⟩
/-- What QuoRem answers. -/
def QrP (w : World) (gx ox gr og : Nat) (a b : Int) (na nb B : Nat) (e : Ending) (w' : World) : Prop := e = .returned (.tuple #[.pointer (some ⟨gx, ox, none⟩), .pointer (some ⟨gr, og, none⟩)]) ∧ Below B w w' ∧ IsN w' gx ox (a.tdiv b) na ∧ IsN w' gr og (a.tmod b) nb ∧ ∀ g2 o2 z n, g2 ≠ gx → g2 ≠ gr → IsN w g2 o2 z n → IsN w' g2 o2 z n
set_option maxHeartbeats 4000000 in
set_option maxRecDepth 100000 in
theorem quoRem_n (gx ox ga oa gb ob gr og : Nat) (a b : Int) (na nb B : Nat) (w : World) (hx : Room w gx ox) (ha : IsN w ga oa a na) (hb : IsN w gb ob b nb) (hr : Room w gr og) (hne : gr ≠ gx) (hbp : b ≠ 0) (hl : na + nb ≤ 1000) (hB1 : B ≤ gx) (hB2 : B ≤ gr) :
    Calls Try.prog 145 #[.pointer (some ⟨gx, ox, none⟩), .pointer (some ⟨ga, oa, none⟩), .pointer (some ⟨gb, ob, none⟩), .pointer (some ⟨gr, og, none⟩)] w (QrP w gx ox gr og a b na nb B) := by
  obtain ⟨nega, Aa, cca, la, sa, hca, ra, ca, hla, hza, qa⟩ := ha.open
  obtain ⟨negb, Ab, ccb, lb, sb, hcb, rb, cb, hlb, hzb, qb⟩ := hb.open
  have hx0 := hx.lt
  have a0 := sa.cell0
  have a1 := sa.cell1
  have b0 := sb.cell0
  have b1 := sb.cell1
  have hp : lb ≠ [] := by
    intro h
    subst h
    apply hbp
    rw [hzb]
    cases negb <;> simp [sg, dv]
  have HZ := Aside0.mk (And.intro hza hzb)
  have HP := Aside0.mk hp
  clear ha hb hza hzb qa qb hbp hp
  go_enter Try.func145, Try.ntmps145
  go_wp2_with fail
  go_quiet (fail)
  go_wp2_with fail
  generalize hq : World.drewN w _ = W
  have hB : Below w.heap.size w W := by rw [← hq]; exact pw_below_drewN (Below.refl _ _) _
  clear hq
  replace ra := Kd.C_below ra hB
  replace rb := Kd.C_below rb hB
  replace sa := sa.below hB
  replace sb := sb.below hB
  replace hx := hx.below hB
  replace hr := hr.below hB
  replace a1 := sa.cell1
  replace b1 := sb.cell1
  clear a0 b0
  refine start_ (n := 14) (S := fun w' => w'.cell? ⟨ga, oa + 1, none⟩ = some (.slice Aa la.length cca) ∧ w'.cell? ⟨gb, ob + 1, none⟩ = some (.slice Ab lb.length ccb)) (ds := []) (bs 14 0) (by kernel_rfl) rfl rfl ⟨a1, b1⟩ (fun hHeld => ?_)
  refine pure_ (i := 0) (N := some 28) (v := ?_) (a' := ?_) (bs 14 1) rfl rfl (by kernel_rfl) (fun _ _ _ h => h) (Or.inl ⟨by rfl, ?_⟩) ?_ ?_; rotate_left; (· intro w'; go_simp; first | done | with_reducible rfl); rotate_left; (· simp only [Act.put, List.setIfInBounds_toArray, List.set_cons_zero, List.set_cons_succ, i64_w, i32_w]; rfl)
  refine pure_ (i := 1) (N := some 29) (v := ?_) (a' := ?_) (bs 14 3) rfl rfl (by kernel_rfl) (fun _ _ _ h => h) (Or.inl ⟨by rfl, ?_⟩) ?_ ?_; rotate_left; (· intro w'; go_simp; first | done | with_reducible rfl); rotate_left; (· simp only [Act.put, List.setIfInBounds_toArray, List.set_cons_zero, List.set_cons_succ, i64_w, i32_w]; rfl)
  refine pure_ (i := 2) (N := some 30) (v := ?_) (a' := ?_) (bs 14 7) rfl rfl (by kernel_rfl) (fun _ _ _ h => h) (Or.inl ⟨by rfl, ?_⟩) ?_ ?_; rotate_left; (· intro w'; go_simp; first | done | with_reducible rfl); rotate_left; (· simp only [Act.put, List.setIfInBounds_toArray, List.set_cons_zero, List.set_cons_succ, i64_w, i32_w]; rfl)
  refine pure_ (i := 4) (N := some 32) (v := ?_) (a' := ?_) (bs 14 23) rfl rfl (by kernel_rfl) (fun _ _ _ h => h) (Or.inl ⟨by rfl, ?_⟩) ?_ ?_; rotate_left; (· intro w'; go_simp; first | done | with_reducible rfl); rotate_left; (· simp only [Act.put, List.setIfInBounds_toArray, List.set_cons_zero, List.set_cons_succ, i64_w, i32_w]; rfl)
  refine pure_ (i := 5) (N := some 33) (v := ?_) (a' := ?_) (bs 14 55) rfl rfl (by kernel_rfl) (fun _ _ _ h => h) (Or.inl ⟨by rfl, ?_⟩) ?_ ?_; rotate_left; (· intro w'; go_simp; first | done | with_reducible rfl); rotate_left; (· simp only [Act.put, List.setIfInBounds_toArray, List.set_cons_zero, List.set_cons_succ, i64_w, i32_w]; rfl)
  refine pure_ (i := 6) (N := some 34) (v := ?_) (a' := ?_) (bs 14 119) rfl rfl (by kernel_rfl) (fun _ _ _ h => h) (Or.inl ⟨by rfl, ?_⟩) ?_ ?_; rotate_left; (· intro w'; go_simp; first | done | with_reducible rfl); rotate_left; (· simp only [Act.put, List.setIfInBounds_toArray, List.set_cons_zero, List.set_cons_succ, i64_w, i32_w]; rfl)
  refine take_ (i := 3) (N := some 31) (v := ?_) (a' := ?_) (bs 14 127) rfl rfl (by kernel_rfl) (fun _ _ _ h => h) (Or.inl ⟨by rfl, ?_⟩) hHeld ?_ ?_; rotate_left; (· rintro w' ⟨s0, s1⟩; go_simp; first | done | with_reducible rfl); rotate_left; (· simp only [Act.put, List.setIfInBounds_toArray, List.set_cons_zero, List.set_cons_succ, i64_w, i32_w]; rfl)
  refine take_ (i := 7) (N := some 35) (v := ?_) (a' := ?_) (bs 14 255) rfl rfl (by kernel_rfl) (fun _ _ _ h => h) (Or.inl ⟨by rfl, ?_⟩) hHeld ?_ ?_; rotate_left; (· rintro w' ⟨s0, s1⟩; go_simp; first | done | with_reducible rfl); rotate_left; (· simp only [Act.put, List.setIfInBounds_toArray, List.set_cons_zero, List.set_cons_succ, i64_w, i32_w]; rfl)
  refine one_ (i := 8) (N := some 36) (bs 14 511) rfl rfl (by kernel_rfl) (by decide) (fun K hK => ?_)
  refine goes_ Try.func162 (by kernel_rfl) rfl #[.slice Aa la.length cca, .slice Ab lb.length ccb] (by rfl) rfl rfl (by simp only [List.map_toArray, List.map_cons, List.map_nil]; rfl) ?_
  with_reducible refine (divMag_n Aa cca la Ab ccb lb _ hca (Kd.C_drew ra) hcb (Kd.C_drew rb) ca cb HP.out (by omega) (by omega)).mono ?_
  rintro e w1 ⟨v0, v1, q, r, rfl, hM0, hM1, hc0, hc1, hl0, hl1, hv, hlt, hd⟩
  refine ⟨_, rfl, ?_⟩
  have hb' := below_drew' hd
  refine hK.out _ _ ⟨(sa.below hb').cell1, (sb.below hb').cell1⟩ (fun hHeld => ?_)
  clear hK K
  refine norm_ (a' := ?_) ?_ ?_; rotate_left; (· show Act.put _ (some 36) _ = _; simp only [Act.put, List.setIfInBounds_toArray, List.set_cons_zero, List.set_cons_succ, i64_w, i32_w]; rfl)
  refine pure_ (i := 9) (N := some 27) (v := ?_) (a' := ?_) (bs 14 1023) rfl rfl (by kernel_rfl) (fun _ _ _ h => h) (Or.inl ⟨by rfl, ?_⟩) ?_ ?_; rotate_left; (· intro w'; go_simp; first | done | with_reducible rfl); rotate_left; (· simp only [Act.put, List.setIfInBounds_toArray, List.set_cons_zero, List.set_cons_succ, i64_w, i32_w]; rfl)
  refine pure_ (i := 10) (N := some 37) (v := ?_) (a' := ?_) (bs 14 2047) rfl rfl (by kernel_rfl) (fun _ _ _ h => h) (Or.inl ⟨by rfl, ?_⟩) ?_ ?_; rotate_left; (· intro w'; go_simp; first | done | with_reducible rfl); rotate_left; (· simp only [Act.put, List.setIfInBounds_toArray, List.set_cons_zero, List.set_cons_succ, i64_w, i32_w]; rfl)
  refine pure_ (i := 11) (N := some 38) (v := ?_) (a' := ?_) (bs 14 4095) rfl rfl (by kernel_rfl) (fun _ _ _ h => h) (Or.inl ⟨by rfl, ?_⟩) ?_ ?_; rotate_left; (· intro w'; go_simp; first | done | with_reducible rfl); rotate_left; (· simp only [Act.put, List.setIfInBounds_toArray, List.set_cons_zero, List.set_cons_succ, i64_w, i32_w]; rfl)
  refine pure_ (i := 12) (N := some 12) (v := ?_) (a' := ?_) (bs 14 8191) rfl rfl (by kernel_rfl) (fun _ _ _ h => h) (Or.inl ⟨by rfl, ?_⟩) ?_ ?_; rotate_left; (· intro w'; go_simp; first | done | with_reducible rfl); rotate_left; (· simp only [Act.put, List.setIfInBounds_toArray, List.set_cons_zero, List.set_cons_succ, i64_w, i32_w]; rfl)
  refine pure_ (i := 13) (N := some 13) (v := ?_) (a' := ?_) (bs 14 16383) rfl rfl (by kernel_rfl) (fun _ _ _ h => h) (Or.inl ⟨by rfl, ?_⟩) ?_ ?_; rotate_left; (· intro w'; go_simp; first | done | with_reducible rfl); rotate_left; (· simp only [Act.put, List.setIfInBounds_toArray, List.set_cons_zero, List.set_cons_succ, i64_w, i32_w]; rfl)
  refine done_ (by kernel_rfl) ?_
  have HD := Aside0.mk (And.intro hM0 (And.intro hM1 (And.intro hc0 (And.intro hc1 (And.intro hv hlt)))))
  clear hM0 hM1 hc0 hc1 hv hlt
  go_wp2_with fail
  refine (set_n gr og v1 r nega nb w1 (hr.below hb') HD.out.2.1 HD.out.2.2.2.1 (by omega)).mono ?_
  rintro e w2 ⟨rfl, hw, hN⟩
  have HW := Aside0.mk (And.intro hw hN)
  clear hw hN
  go_wp2_with fail
  refine (set_n gx ox v0 q _ na w2 (Wrote.room HW.out.1 (hx.below hb') (Ne.symm hne)) (HW.out.1.mag (hr.below hb') HD.out.1) HD.out.2.2.1 (by omega)).mono ?_
  rintro e w3 ⟨rfl, hw3, hN3⟩
  have HW3 := Aside0.mk (And.intro hw3 hN3)
  clear hw3 hN3
  go_wp2_with fail
  go_ret2
  have hs1 := hx0
  have hs2 := hB.size
  have hs3 := hb'.size
  have hs4 := HW.out.1.size
  have hx2 := Wrote.room HW.out.1 (hx.below hb') (Ne.symm hne)
  obtain ⟨e1, e2⟩ := sg_div (na := nega) (nb := negb) (Int.lt_of_le_of_lt (dv_nonneg (by decide) HD.out.2.2.2.1.dg) HD.out.2.2.2.2.2) (dv_nonneg (by decide) HD.out.2.2.1.dg) (dv_nonneg (by decide) HD.out.2.2.2.1.dg) HD.out.2.2.2.2.2 HD.out.2.2.2.2.1
  rw [← HZ.out.1, ← HZ.out.2] at e1 e2
  have h3 := HW3.out.2
  have h2 := HW3.out.1.isN hx2 HW.out.2 (.inl hne)
  refine ⟨rfl, ?_, e1 ▸ h3, e2 ▸ h2, fun g2 o2 z n n1 n2 h => HW3.out.1.isN hx2 (HW.out.1.isN (hr.below hb') ((h.below hB).below hb') (.inl n2)) (.inl n1)⟩
  have k1 : Below B w W := ⟨hB.os, hB.tape, hB.output, hB.size, fun i hi => hB.block i (by omega)⟩
  have k2 : Below B W w1 := ⟨hb'.os, hb'.tape, hb'.output, hb'.size, fun i hi => hb'.block i (by omega)⟩
  exact (k1.trans k2).trans ((HW.out.1.below hB2 (by omega)).trans (HW3.out.1.below hB1 (by omega)))
set_option maxHeartbeats 4000000 in
set_option maxRecDepth 100000 in
theorem subI_n (gx ox ga oa gb ob : Nat) (a b : Int) (na nb : Nat) (w : World) (hx : Room w gx ox) (ha : IsN w ga oa a na) (hb : IsN w gb ob b nb) (hl : na + nb ≤ 1000) :
    Calls Try.prog 107 #[.pointer (some ⟨gx, ox, none⟩), .pointer (some ⟨ga, oa, none⟩), .pointer (some ⟨gb, ob, none⟩)] w (SetP w gx ox (a - b) (max na nb + 1)) := by
  obtain ⟨negb, Ab, ccb, lb, sb, hcb, rb, cb, hlb, hzb, qb⟩ := hb.open
  have b0 := sb.cell0
  have b1 := sb.cell1
  have hBa : Below w.heap.size w (w.drew.alloc (.cells #[.bool (!negb), .slice Ab lb.length ccb] 86)) := below_alloc (below_drew' (Below.refl _ w.drew)) _
  have HNB := Aside0.mk (show IsW (w.drew.alloc (.cells #[.bool (!negb), .slice Ab lb.length ccb] 86)) w.drew.heap.size 0 (-b) nb from
    ⟨!negb, Ab, ccb, lb, ⟨_, 86, blk_new w.drew _, ⟨Ab, lb.length, ccb, rfl⟩, rfl, rfl⟩, hcb, Kd.C_below rb hBa, cb, hlb, by rw [hzb]; cases negb <;> simp [sg]⟩)
  go_enter Try.func107, Try.ntmps107
  go_wp2_with fail
  refine start_ (n := 15) (S := fun w' => w'.cell? ⟨gb, ob, none⟩ = some (.bool negb) ∧ w'.cell? ⟨gb, ob + 1, none⟩ = some (.slice Ab lb.length ccb)) (ds := [13]) (bs 15 0) (by kernel_rfl) rfl rfl ⟨b0, b1⟩ (fun hHeld => ?_)
  refine pure_ (i := 0) (N := some 7) (v := ?_) (a' := ?_) (bs 15 1) rfl rfl (by kernel_rfl) (fun _ _ _ h => h) (Or.inl ⟨by rfl, ?_⟩) ?_ ?_; rotate_left; (· intro w'; go_simp; first | done | with_reducible rfl); rotate_left; (· simp only [Act.put, List.setIfInBounds_toArray, List.set_cons_zero, List.set_cons_succ, i64_w, i32_w]; rfl)
  refine pure_ (i := 1) (N := some 8) (v := ?_) (a' := ?_) (bs 15 3) rfl rfl (by kernel_rfl) (fun _ _ _ h => h) (Or.inl ⟨by rfl, ?_⟩) ?_ ?_; rotate_left; (· intro w'; go_simp; first | done | with_reducible rfl); rotate_left; (· simp only [Act.put, List.setIfInBounds_toArray, List.set_cons_zero, List.set_cons_succ, i64_w, i32_w]; rfl)
  refine pure_ (i := 2) (N := some 9) (v := ?_) (a' := ?_) (bs 15 7) rfl rfl (by kernel_rfl) (fun _ _ _ h => h) (Or.inl ⟨by rfl, ?_⟩) ?_ ?_; rotate_left; (· intro w'; go_simp; first | done | with_reducible rfl); rotate_left; (· simp only [Act.put, List.setIfInBounds_toArray, List.set_cons_zero, List.set_cons_succ, i64_w, i32_w]; rfl)
  refine pure_ (i := 3) (N := some 10) (v := ?_) (a' := ?_) (bs 15 15) rfl rfl (by kernel_rfl) (fun _ _ _ h => h) (Or.inl ⟨by rfl, ?_⟩) ?_ ?_; rotate_left; (· intro w'; go_simp; first | done | with_reducible rfl); rotate_left; (· simp only [Act.put, List.setIfInBounds_toArray, List.set_cons_zero, List.set_cons_succ, i64_w, i32_w]; rfl)
  refine pure_ (i := 4) (N := some 11) (v := ?_) (a' := ?_) (bs 15 31) rfl rfl (by kernel_rfl) (fun _ _ _ h => h) (Or.inl ⟨by rfl, ?_⟩) ?_ ?_; rotate_left; (· intro w'; go_simp; first | done | with_reducible rfl); rotate_left; (· simp only [Act.put, List.setIfInBounds_toArray, List.set_cons_zero, List.set_cons_succ, i64_w, i32_w]; rfl)
  refine pure_ (i := 7) (N := some 14) (v := ?_) (a' := ?_) (bs 15 159) rfl rfl (by kernel_rfl) (fun _ _ _ h => h) (Or.inl ⟨by rfl, ?_⟩) ?_ ?_; rotate_left; (· intro w'; go_simp; first | done | with_reducible rfl); rotate_left; (· simp only [Act.put, List.setIfInBounds_toArray, List.set_cons_zero, List.set_cons_succ, i64_w, i32_w]; rfl)
  refine pure_ (i := 8) (N := some 15) (v := ?_) (a' := ?_) (bs 15 415) rfl rfl (by kernel_rfl) (fun _ _ _ h => h) (Or.inl ⟨by rfl, ?_⟩) ?_ ?_; rotate_left; (· intro w'; go_simp; first | done | with_reducible rfl); rotate_left; (· simp only [Act.put, List.setIfInBounds_toArray, List.set_cons_zero, List.set_cons_succ, i64_w, i32_w]; rfl)
  refine pure_ (i := 9) (N := some 16) (v := ?_) (a' := ?_) (bs 15 927) rfl rfl (by kernel_rfl) (fun _ _ _ h => h) (Or.inl ⟨by rfl, ?_⟩) ?_ ?_; rotate_left; (· intro w'; go_simp; first | done | with_reducible rfl); rotate_left; (· simp only [Act.put, List.setIfInBounds_toArray, List.set_cons_zero, List.set_cons_succ, i64_w, i32_w]; rfl)
  refine take_ (i := 5) (N := some 12) (v := ?_) (a' := ?_) (bs 15 959) rfl rfl (by kernel_rfl) (fun _ _ _ h => h) (Or.inl ⟨by rfl, ?_⟩) hHeld ?_ ?_; rotate_left; (· rintro w' ⟨s0, s1⟩; go_simp; first | done | with_reducible rfl); rotate_left; (· simp only [Act.put, List.setIfInBounds_toArray, List.set_cons_zero, List.set_cons_succ, i64_w, i32_w]; rfl)
  refine pure_ (i := 6) (N := some 13) (v := ?_) (a' := ?_) (bs 15 1023) rfl rfl (by kernel_rfl) (fun _ _ _ h => h) (Or.inl ⟨by rfl, ?_⟩) ?_ ?_; rotate_left; (· intro w'; go_simp; first | done | with_reducible rfl); rotate_left; (· simp only [Act.put, List.setIfInBounds_toArray, List.set_cons_zero, List.set_cons_succ, i64_w, i32_w]; rfl)
  refine take_ (i := 10) (N := some 17) (v := ?_) (a' := ?_) (bs 15 2047) rfl rfl (by kernel_rfl) (fun _ _ _ h => h) (Or.inl ⟨by rfl, ?_⟩) hHeld ?_ ?_; rotate_left; (· rintro w' ⟨s0, s1⟩; go_simp; first | done | with_reducible rfl); rotate_left; (· simp only [Act.put, List.setIfInBounds_toArray, List.set_cons_zero, List.set_cons_succ, i64_w, i32_w]; rfl)
  refine pure_ (i := 11) (N := some 18) (v := ?_) (a' := ?_) (bs 15 4095) rfl rfl (by kernel_rfl) (fun _ _ _ h => h) (Or.inl ⟨by rfl, ?_⟩) ?_ ?_; rotate_left; (· intro w'; go_simp; first | done | with_reducible rfl); rotate_left; (· simp only [Act.put, List.setIfInBounds_toArray, List.set_cons_zero, List.set_cons_succ, i64_w, i32_w]; rfl)
  refine one_ (i := 12) (N := some 19) (bs 15 8191) rfl rfl (by kernel_rfl) (by decide) (fun K hK => ?_)
  refine value_ (v := .pointer (some ⟨w.drew.heap.size, 0, none⟩)) (w1 := w.drew.alloc (.cells #[.bool (!negb), .slice Ab lb.length ccb] 86)) (by rfl) rfl ?_ ?_
  · go_simp
  refine hK.out _ _ ⟨pw_cell_below (below_alloc (below_drew' (Below.refl _ w.drew)) _) b0, pw_cell_below (below_alloc (below_drew' (Below.refl _ w.drew)) _) b1⟩ (fun hHeld => ?_)
  clear hK K
  refine norm_ (a' := ?_) ?_ ?_; rotate_left; (· show Act.put _ (some 19) _ = _; simp only [Act.put, List.setIfInBounds_toArray, List.set_cons_zero, List.set_cons_succ, i64_w, i32_w]; rfl)
  refine last_ (i := 13) (N := some 20) (bs 15 16383) rfl rfl (by kernel_rfl) (by decide) (fun K hK => ?_)
  refine goes_ Try.func63 (by kernel_rfl) rfl #[.pointer (some ⟨gx, ox, none⟩), .pointer (some ⟨ga, oa, none⟩), .pointer (some ⟨w.drew.heap.size, 0, none⟩)] (by rfl) rfl rfl (by simp only [List.map_toArray, List.map_cons, List.map_nil]; rfl) ?_
  with_reducible refine (add_n gx ox ga oa w.drew.heap.size 0 a (-b) na nb (w.drew.alloc (.cells #[.bool (!negb), .slice Ab lb.length ccb] 86)) (hx.below hBa) (ha.below hBa) HNB.out hl).mono ?_
  rintro e w2 ⟨rfl, hw, hN⟩
  refine ⟨_, rfl, ?_⟩
  refine hK.out _ _ ?_
  clear hK K
  refine norm_ (a' := ?_) ?_ ?_; rotate_left; (· show Act.put _ (some 20) _ = _; simp only [Act.put, List.setIfInBounds_toArray, List.set_cons_zero, List.set_cons_succ, i64_w, i32_w]; rfl)
  refine pure_ (i := 14) (N := some 6) (v := ?_) (a' := ?_) (bs 15 32767) rfl rfl (by kernel_rfl) (fun _ _ _ h => h) (Or.inl ⟨by rfl, ?_⟩) ?_ ?_; rotate_left; (· intro w'; go_simp; first | done | with_reducible rfl); rotate_left; (· simp only [Act.put, List.setIfInBounds_toArray, List.set_cons_zero, List.set_cons_succ, i64_w, i32_w]; rfl)
  refine done_ (by kernel_rfl) ?_
  have HN := Aside0.mk hN
  clear hN
  go_wp2
  go_ret
  exact ⟨rfl, (Wrote.of_below hBa gx ox).trans hw, by have := HN.out; rwa [← Int.sub_eq_add_neg] at this⟩
set_option maxHeartbeats 4000000 in
theorem signI_n (ga oa : Nat) (a : Int) (na : Nat) (w : World) (ha : IsN w ga oa a na) :
    Calls Try.prog 65 #[.pointer (some ⟨ga, oa, none⟩)] w (ValP w (.int .i64 (cmpI a 0))) := by
  obtain ⟨nega, Aa, cca, la, sa, hca, ra, ca, hla, hza, qa⟩ := ha.open
  have a0 := sa.cell0
  have a1 := sa.cell1
  have hz : la = [] → cmpI a 0 = 0 := by
    intro h; rw [hza, h]; cases nega <;> simp [sg, dv, cmpI]
  have hp : la ≠ [] → 0 < dv 4294967296 la := by
    intro h
    have h1 := dv_len (a := []) (by decide) (Dg.nil _) ca (by cases la with | nil => exact absurd rfl h | cons x t => simp)
    simpa only [dv] using h1
  cases la with
  | nil =>
    rw [hz rfl]
    clear hz hp hza qa ha
    go_enter Try.func65, Try.ntmps65
    go_wp2_with fail
    go_ret
    exact ⟨rfl, Below.refl _ _⟩
  | cons x t =>
    have hp1 := hp (by simp)
    have hb0 : ((((x :: t).length : Nat) : Int) == 0) = false := by simp; omega
    cases nega with
    | true =>
      rw [show cmpI a 0 = -1 by rw [hza]; simp [sg, cmpI]; omega]
      clear hz hp hza qa ha hp1
      go_enter Try.func65, Try.ntmps65
      go_wp2_with fail
      go_ret
      exact ⟨rfl, Below.refl _ _⟩
    | false =>
      rw [show cmpI a 0 = 1 by rw [hza]; simp [sg, cmpI]; omega]
      clear hz hp hza qa ha hp1
      go_enter Try.func65, Try.ntmps65
      go_wp2_with fail
      go_ret
      exact ⟨rfl, Below.refl _ _⟩
structure LwI (la : List Int) (k : Nat) (v : Int) : Prop where
  v0 : 0 ≤ v
  v1 : v < pw 4294967296 (min 2 la.length - k)
  val : v = dv 4294967296 ((la.take 2).drop k)
theorem LwI.start (la : List Int) : LwI la (min 2 la.length) 0 := by
  refine ⟨by omega, by simp [pw], ?_⟩
  rw [List.drop_of_length_le (by simp [List.length_take])]
  rfl
theorem LwI.step {la : List Int} {k : Nat} {v : Int} (h : LwI la (k + 1) v) (hd : Dg 4294967296 la) (hk : k < min 2 la.length) : v < 4294967296 ∧ LwI la k (v * 4294967296 + la.getD k 0) := by
  have h1 := hd.getD (by decide) k
  have h2 : v < 4294967296 := by
    have := h.v1
    have h3 : min 2 la.length - (k + 1) = 0 ∨ min 2 la.length - (k + 1) = 1 := by omega
    rcases h3 with h3 | h3 <;> rw [h3] at this <;> simp [pw] at this <;> omega
  have e1 := dv_drop 4294967296 (la.take 2) k (by rw [List.length_take]; exact hk)
  have e2 : (la.take 2).getD k 0 = la.getD k 0 := by
    simp only [List.getD_eq_getElem?_getD, List.getElem?_take]
    rw [if_pos (by omega)]
  refine ⟨h2, by have := h.v0; omega, ?_, ?_⟩
  · have h4 := dv_lt (by decide) ((hd.take 2).drop k)
    rw [List.length_drop, List.length_take] at h4
    have h5 := h.val
    have : v * 4294967296 + la.getD k 0 = dv 4294967296 ((la.take 2).drop k) := by rw [e1, e2, h5]; omega
    rw [this]
    exact h4
  · rw [e1, e2, h.val]; omega
set_option maxHeartbeats 4000000 in
set_option maxRecDepth 100000 in
theorem low_n (g o : Nat) (neg : Bool) (A : Option Addr) (c : Nat) (la : List Int) (w : World) (hs : Slot w g o neg (.slice A la.length c)) (hc : la.length ≤ c) (hr : Kd.C (Kd.int .u32) w A la.length la) (hd : Dg 4294967296 la) (hn : la.length ≤ 2) :
    Calls Try.prog 120 #[.pointer (some ⟨g, o, none⟩)] w fun e w' => e = .returned (.int .u64 (dv 4294967296 (la.take 2))) ∧ w = w' := by
  have a1 := hs.cell1
  have h0 := LwI.start la
  obtain ⟨L, hL⟩ : ∃ L, L = min 2 la.length := ⟨_, rfl⟩
  rw [← hL] at h0
  have hmin : min (2 : Int) (la.length : Int) = (L : Int) := by omega
  have hmin2 : (min 2 la.length) = L := by omega
  have HL := Aside0.mk hL
  have HS := Aside0.mk h0
  have HD := Aside0.mk (And.intro hr hd)
  clear hL h0 hr hd
  rcases (show la.length < 2 ∨ la.length = 2 by omega) with hlen | hlen
  · go_enter Try.func120, Try.ntmps120
    go_wp2_with fail
    go_loopg [3, 4] L (fun kq v3 v4 w' => ∃ (v z : Int), v3 = .int .u64 v ∧ v4 = .int .i64 z ∧ Aside0 (z = (kq : Int) - 1 ∧ kq ≤ L) ∧ Aside0 (LwI la kq v) ∧ w = w')
    case atStart => exact ⟨0, _, rfl, rfl, ⟨by omega⟩, HS, rfl⟩
    case round =>
      clear HS
      obtain ⟨v, z, rfl, rfl, HK, HI, rfl⟩ := hrel
      cases gk with
      | zero =>
        obtain rfl : z = -1 := by have := HK.out.1; omega
        have hb9 : decide ((0 : Int) ≤ -1) = false := by decide
        go_wp2_with fail
        go_ret
        exact ⟨ret_i (by rw [HI.out.val, List.drop_zero]), rfl⟩
      | succ k1 =>
        obtain rfl : z = (k1 : Int) := by have := HK.out.1; omega
        have hk : k1 < la.length := by have := HK.out.2; have := HL.out; omega
        obtain ⟨ada, ea, hac⟩ := mag_cell HD.out.1 (Below.refl _ _) k1 hk
        cases ea
        obtain ⟨hv1, hst⟩ := HI.out.step HD.out.2 (by have := HK.out.2; have := HL.out; omega)
        have hv0 := HI.out.v0
        have hda := HD.out.2.getD (by decide) k1
        generalize la.getD k1 0 = a at hac hst hda
        obtain ⟨hda0, hda1⟩ := hda
        have hor : bits BinOp.or IntKind.u64 (v * 4294967296) a = v * 4294967296 + a := or_high _ _ 32 (by omega) (by omega) (by omega) hda0 (by omega) (by omega)
        have HST := Aside0.mk hst
        clear hst
        go_wp2_with fail
        go_roundg k1
        case measure => omega
        case rel => exact ⟨_, _, rfl, rfl, ⟨by have := HK.out; omega⟩, HST, rfl⟩
  · go_enter Try.func120, Try.ntmps120
    go_wp2_with fail
    go_loopg [3, 4] L (fun kq v3 v4 w' => ∃ (v z : Int), v3 = .int .u64 v ∧ v4 = .int .i64 z ∧ Aside0 (z = (kq : Int) - 1 ∧ kq ≤ L) ∧ Aside0 (LwI la kq v) ∧ w = w')
    case atStart => exact ⟨0, _, rfl, rfl, ⟨by omega⟩, HS, rfl⟩
    case round =>
      clear HS
      obtain ⟨v, z, rfl, rfl, HK, HI, rfl⟩ := hrel
      cases gk with
      | zero =>
        obtain rfl : z = -1 := by have := HK.out.1; omega
        have hb9 : decide ((0 : Int) ≤ -1) = false := by decide
        go_wp2_with fail
        go_ret
        exact ⟨ret_i (by rw [HI.out.val, List.drop_zero]), rfl⟩
      | succ k1 =>
        obtain rfl : z = (k1 : Int) := by have := HK.out.1; omega
        have hk : k1 < la.length := by have := HK.out.2; have := HL.out; omega
        obtain ⟨ada, ea, hac⟩ := mag_cell HD.out.1 (Below.refl _ _) k1 hk
        cases ea
        obtain ⟨hv1, hst⟩ := HI.out.step HD.out.2 (by have := HK.out.2; have := HL.out; omega)
        have hv0 := HI.out.v0
        have hda := HD.out.2.getD (by decide) k1
        generalize la.getD k1 0 = a at hac hst hda
        obtain ⟨hda0, hda1⟩ := hda
        have hor : bits BinOp.or IntKind.u64 (v * 4294967296) a = v * 4294967296 + a := or_high _ _ 32 (by omega) (by omega) (by omega) hda0 (by omega) (by omega)
        have HST := Aside0.mk hst
        clear hst
        go_wp2_with fail
        go_roundg k1
        case measure => omega
        case rel => exact ⟨_, _, rfl, rfl, ⟨by have := HK.out; omega⟩, HST, rfl⟩
theorem len2 {la : List Int} (hc : Cn 4294967296 la) (h : dv 4294967296 la < 18446744073709551616) : la.length ≤ 2 := by
  refine Nat.le_of_not_lt fun h2 => ?_
  have h1 := dv_len (B := 4294967296) (a := [4294967295, 4294967295]) (by decide) (by intro x hx; simp at hx; omega) hc (by simp; omega)
  simp [dv] at h1
  omega
set_option maxHeartbeats 4000000 in
theorem int64_n (ga oa : Nat) (a : Int) (na : Nat) (w : World) (ha : IsN w ga oa a na) (h0 : -9223372036854775807 ≤ a) (h1 : a ≤ 9223372036854775807) (hn : na ≤ 1000) :
    Calls Try.prog 67 #[.pointer (some ⟨ga, oa, none⟩)] w (ValP w (.int .i64 a)) := by
  obtain ⟨nega, Aa, cca, la, sa, hca, ra, ca, hla, hza, qa⟩ := ha.open
  have a0 := sa.cell0
  have p0 := dv_nonneg (by decide) ca.dg
  have hlt : dv 4294967296 la < 9223372036854775808 := by
    cases nega <;> simp [sg] at hza <;> omega
  have hl2 := len2 ca (by omega)
  have hlo := low_n ga oa nega Aa cca la w sa hca ra ca.dg (by omega)
  rw [List.take_of_length_le hl2] at hlo
  generalize dv 4294967296 la = m at *
  have HLO := Aside0.mk hlo
  clear hlo ha ra ca qa sa
  cases nega with
  | true =>
    have hm : a = -m := by simpa [sg] using hza
    clear hza
    go_enter Try.func67, Try.ntmps67
    go_wp2_with fail
    refine HLO.out.mono ?_
    rintro e w1 ⟨rfl, rfl⟩
    go_wp2_with fail
    go_ret
    exact ⟨ret_i hm.symm, Below.refl _ _⟩
  | false =>
    have hm : a = m := by simpa [sg] using hza
    clear hza
    go_enter Try.func67, Try.ntmps67
    go_wp2_with fail
    refine HLO.out.mono ?_
    rintro e w1 ⟨rfl, rfl⟩
    go_wp2_with fail
    go_ret
    exact ⟨ret_i hm.symm, Below.refl _ _⟩
end Go.Proofs.Ytpbhepdgamoiaaa.Qa

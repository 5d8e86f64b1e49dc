/-
  What the calls of package num do to numbers in memory: CmpAbs, Cmp, Sign, Int64, Add, Sub.
-/
import Derived.Test.YtpbhepdgamoiaaaNa
namespace Go.Proofs.Ytpbhepdgamoiaaa.Nb
open Go.RowKit Go Go.Proofs.YtpbhepdgamoiaaaW.PrintWords Go.Proofs.YtpbhepdgamoiaaaW.PrintLast Go.Proofs.YtpbhepdgamoiaaaW.PrintMore Go.Proofs.Ytpbhepdgamoiaaa.Ml Go.Proofs.Ytpbhepdgamoiaaa.Mn Go.Proofs.Ytpbhepdgamoiaaa.Nd Go.Proofs.Ytpbhepdgamoiaaa.P Go.Proofs.Ytpbhepdgamoiaaa.Nc Go.Proofs.Ytpbhepdgamoiaaa.Na
attribute [local go_sem] max2_int min2_int max_two min_two
set_option linter.unusedVariables false
set_option linter.unusedSimpArgs false

set_option maxHeartbeats 400000 in
theorem sign_n (c : Int) (w : World) : Calls Try.prog 153 #[.int .i64 c] w fun e w' => e = .returned (.int .i64 (cmpI c 0)) ∧ w = w' := by
  go_enter Try.func153, Try.ntmps153
  go_wp2
  all_goals
    go_ret
    refine ⟨?_, rfl⟩
    have h1 : ∀ x y : Int, x = y → Ending.returned (Value.int .i64 x) = Ending.returned (Value.int .i64 y) := fun _ _ h => by rw [h]
    refine h1 _ _ ?_
    unfold cmpI
    repeat' split
    all_goals first | omega | (split at * <;> omega)
theorem cmpMag_n (A0 : Option Addr) (c0 : Nat) (la : List Int) (A1 : Option Addr) (c1 : Nat) (lb : List Int) (w : World) (h0 : la.length ≤ c0) (r0 : Kd.C (Kd.int .u32) w A0 la.length la) (h1 : lb.length ≤ c1) (r1 : Kd.C (Kd.int .u32) w A1 lb.length lb) (ha : Cn 4294967296 la) (hb : Cn 4294967296 lb) (hn : la.length ≤ 1000000) (hm : lb.length ≤ 1000000) :
    Calls Try.prog 116 #[.slice A0 la.length c0, .slice A1 lb.length c1] w fun e w' => ∃ c, e = .returned (.int .i64 c) ∧ Sg c (dv 4294967296 la) (dv 4294967296 lb) ∧ Below w.heap.size w w' := by
  obtain ⟨c, hf, hs, _, _⟩ := cmp_f la lb ha hb (by omega) (by omega) (la.length + 1) (by omega)
  refine (num_cmpMag.calls (la.length + 1) A0 c0 la A1 c1 lb c w r0 h0 r1 h1 hf).mono ?_
  rintro e w' ⟨rfl, hd⟩
  exact ⟨c, rfl, hs, hd.below⟩
theorem Sg_cmp {c a b : Int} (h : Sg c a b) : cmpI c 0 = cmpI a b := by
  unfold Sg at h
  unfold cmpI
  repeat' split
  all_goals omega

set_option maxHeartbeats 2000000 in
set_option maxRecDepth 100000 in
theorem cmpAbs_n (ga oa gb ob : Nat) (a b : Int) (na nb : Nat) (w : World) (ha : IsN w ga oa a na) (hb : IsN w gb ob b nb) (hl : na + nb ≤ 1000) :
    Calls Try.prog 119 #[.pointer (some ⟨ga, oa, none⟩), .pointer (some ⟨gb, ob, none⟩)] w (ValP w (.int .i64 (cmpI (a.natAbs : Int) (b.natAbs : Int)))) := by
  obtain ⟨nega, Aa, cca, la, sa, hca, ra, ca, hla, hza, qa⟩ := ha.open
  obtain ⟨negb, Ab, ccb, lb, sb, hcb, rb, cb, hlb, hzb, qb⟩ := hb.open
  have eq1 := sg_abs (dv_nonneg (by decide) ca.dg) hza
  have eq2 := sg_abs (dv_nonneg (by decide) cb.dg) hzb
  rw [eq1, eq2]
  have a1 := sa.cell1
  have b1 := sb.cell1
  clear hza hzb eq1 eq2 ha hb
  go_enter Try.func119, Try.ntmps119
  go_wp2_with fail
  refine start_ (n := 11) (S := fun w' => w'.cell? ⟨ga, oa + 1, none⟩ = some (.slice Aa la.length cca) ∧ w'.cell? ⟨gb, ob + 1, none⟩ = some (.slice Ab lb.length ccb)) (ds := []) (bs 11 0) (by kernel_rfl) rfl rfl ⟨a1, b1⟩ (fun hHeld => ?_)
  refine pure_ (i := 0) (N := some 5) (v := ?_) (a' := ?_) (bs 11 1) rfl rfl (by kernel_rfl) (fun _ _ _ h => h) (Or.inl ⟨by rfl, ?_⟩) ?_ ?_; rotate_left; (· intro w'; go_simp; first | done | with_reducible rfl); rotate_left; (· simp only [Act.put, List.setIfInBounds_toArray, List.set_cons_zero, List.set_cons_succ, i64_w, i32_w]; rfl)
  refine pure_ (i := 1) (N := some 6) (v := ?_) (a' := ?_) (bs 11 3) rfl rfl (by kernel_rfl) (fun _ _ _ h => h) (Or.inl ⟨by rfl, ?_⟩) ?_ ?_; rotate_left; (· intro w'; go_simp; first | done | with_reducible rfl); rotate_left; (· simp only [Act.put, List.setIfInBounds_toArray, List.set_cons_zero, List.set_cons_succ, i64_w, i32_w]; rfl)
  refine pure_ (i := 2) (N := some 7) (v := ?_) (a' := ?_) (bs 11 7) rfl rfl (by kernel_rfl) (fun _ _ _ h => h) (Or.inl ⟨by rfl, ?_⟩) ?_ ?_; rotate_left; (· intro w'; go_simp; first | done | with_reducible rfl); rotate_left; (· simp only [Act.put, List.setIfInBounds_toArray, List.set_cons_zero, List.set_cons_succ, i64_w, i32_w]; rfl)
  refine pure_ (i := 4) (N := some 9) (v := ?_) (a' := ?_) (bs 11 23) rfl rfl (by kernel_rfl) (fun _ _ _ h => h) (Or.inl ⟨by rfl, ?_⟩) ?_ ?_; rotate_left; (· intro w'; go_simp; first | done | with_reducible rfl); rotate_left; (· simp only [Act.put, List.setIfInBounds_toArray, List.set_cons_zero, List.set_cons_succ, i64_w, i32_w]; rfl)
  refine pure_ (i := 5) (N := some 10) (v := ?_) (a' := ?_) (bs 11 55) rfl rfl (by kernel_rfl) (fun _ _ _ h => h) (Or.inl ⟨by rfl, ?_⟩) ?_ ?_; rotate_left; (· intro w'; go_simp; first | done | with_reducible rfl); rotate_left; (· simp only [Act.put, List.setIfInBounds_toArray, List.set_cons_zero, List.set_cons_succ, i64_w, i32_w]; rfl)
  refine pure_ (i := 6) (N := some 11) (v := ?_) (a' := ?_) (bs 11 119) rfl rfl (by kernel_rfl) (fun _ _ _ h => h) (Or.inl ⟨by rfl, ?_⟩) ?_ ?_; rotate_left; (· intro w'; go_simp; first | done | with_reducible rfl); rotate_left; (· simp only [Act.put, List.setIfInBounds_toArray, List.set_cons_zero, List.set_cons_succ, i64_w, i32_w]; rfl)
  refine take_ (i := 3) (N := some 8) (v := ?_) (a' := ?_) (bs 11 127) rfl rfl (by kernel_rfl) (fun _ _ _ h => h) (Or.inl ⟨by rfl, ?_⟩) hHeld ?_ ?_; rotate_left; (· rintro w' ⟨s0, s1⟩; go_simp; first | done | with_reducible rfl); rotate_left; (· simp only [Act.put, List.setIfInBounds_toArray, List.set_cons_zero, List.set_cons_succ, i64_w, i32_w]; rfl)
  refine take_ (i := 7) (N := some 12) (v := ?_) (a' := ?_) (bs 11 255) rfl rfl (by kernel_rfl) (fun _ _ _ h => h) (Or.inl ⟨by rfl, ?_⟩) hHeld ?_ ?_; rotate_left; (· rintro w' ⟨s0, s1⟩; go_simp; first | done | with_reducible rfl); rotate_left; (· simp only [Act.put, List.setIfInBounds_toArray, List.set_cons_zero, List.set_cons_succ, i64_w, i32_w]; rfl)
  refine one_ (i := 8) (N := some 13) (bs 11 511) rfl rfl (by kernel_rfl) (by decide) (fun K hK => ?_)
  refine goes_ Try.func116 (by kernel_rfl) rfl #[.slice Aa la.length cca, .slice Ab lb.length ccb] (by rfl) rfl rfl (by simp only [List.map_toArray, List.map_cons, List.map_nil]; rfl) ?_
  with_reducible refine (cmpMag_n Aa cca la Ab ccb lb _ hca (Kd.C_drew ra) hcb (Kd.C_drew rb) ca cb (by omega) (by omega)).mono ?_
  rintro e w1 ⟨c, rfl, hs, hd⟩
  refine ⟨_, rfl, ?_⟩
  have hb' := below_drew' hd
  refine hK.out _ _ ⟨(sa.below hb').cell1, (sb.below hb').cell1⟩ (fun hHeld => ?_)
  clear hK K
  refine norm_ (a' := ?_) ?_ ?_; rotate_left; (· show Act.put _ (some 13) _ = _; simp only [Act.put, List.setIfInBounds_toArray, List.set_cons_zero, List.set_cons_succ, i64_w, i32_w]; rfl)
  refine one_ (i := 9) (N := some 14) (bs 11 1023) rfl rfl (by kernel_rfl) (by decide) (fun K hK => ?_)
  refine goes_ Try.func153 (by kernel_rfl) rfl #[.int .i64 c] (by rfl) rfl rfl (by simp only [List.map_toArray, List.map_cons, List.map_nil]; rfl) ?_
  with_reducible refine (sign_n c _).mono ?_
  rintro e w2 ⟨rfl, rfl⟩
  refine ⟨_, rfl, ?_⟩
  refine hK.out _ _ ⟨(sa.below hb').cell1, (sb.below hb').cell1⟩ (fun hHeld => ?_)
  clear hK K
  refine norm_ (a' := ?_) ?_ ?_; rotate_left; (· show Act.put _ (some 14) _ = _; simp only [Act.put, List.setIfInBounds_toArray, List.set_cons_zero, List.set_cons_succ, i64_w, i32_w]; rfl)
  refine pure_ (i := 10) (N := some 4) (v := ?_) (a' := ?_) (bs 11 2047) rfl rfl (by kernel_rfl) (fun _ _ _ h => h) (Or.inl ⟨by rfl, ?_⟩) ?_ ?_; rotate_left; (· intro w'; go_simp; first | done | with_reducible rfl); rotate_left; (· simp only [Act.put, List.setIfInBounds_toArray, List.set_cons_zero, List.set_cons_succ, i64_w, i32_w]; rfl)
  refine done_ (by kernel_rfl) ?_
  have HS := Aside0.mk hs
  clear hs
  go_wp2
  go_ret
  exact ⟨ret_i (Sg_cmp HS.out), hb'⟩
set_option maxHeartbeats 2000000 in
set_option maxRecDepth 100000 in
theorem cmp_n (ga oa gb ob : Nat) (a b : Int) (na nb : Nat) (w : World) (ha : IsN w ga oa a na) (hb : IsN w gb ob b nb) (hl : na + nb ≤ 1000) :
    Calls Try.prog 66 #[.pointer (some ⟨ga, oa, none⟩), .pointer (some ⟨gb, ob, none⟩)] w (ValP w (.int .i64 (cmpI a b))) := by
  obtain ⟨nega, Aa, cca, la, sa, hca, ra, ca, hla, hza, qa⟩ := ha.open
  obtain ⟨negb, Ab, ccb, lb, sb, hcb, rb, cb, hlb, hzb, qb⟩ := hb.open
  have pa := dv_nonneg (by decide) ca.dg
  have pb := dv_nonneg (by decide) cb.dg
  have HQ := Aside0.mk (show (nega = true → 0 < dv 4294967296 la) ∧ (negb = true → 0 < dv 4294967296 lb) from ⟨fun h => dv_pos (by decide) ca (qa h), fun h => dv_pos (by decide) cb (qb h)⟩)
  have HP := Aside0.mk (And.intro pa pb)
  have HZ := Aside0.mk (And.intro hza hzb)
  have HA := Aside0.mk (And.intro ha hb)
  have a0 := sa.cell0
  have b0 := sb.cell0
  clear hza hzb ha hb pa pb qa qb sa sb hca hcb ra rb ca cb hla hlb
  cases nega <;> cases negb
  · go_enter Try.func66, Try.ntmps66
    go_wp2_with fail
    refine (cmpAbs_n ga oa gb ob a b na nb w HA.out.1 HA.out.2 hl).mono ?_
    rintro e w1 ⟨rfl, hb⟩
    go_wp2_with fail
    go_ret
    refine ⟨ret_i ?_, hb⟩
    obtain ⟨h1, h2⟩ := HP.out
    obtain ⟨h3, h4⟩ := HZ.out
    simp [sg] at h3 h4
    rw [show (a.natAbs : Int) = a by omega, show (b.natAbs : Int) = b by omega]
  · go_enter Try.func66, Try.ntmps66
    go_wp2_with fail
    go_ret
    refine ⟨ret_i ?_, Below.refl _ _⟩
    obtain ⟨h1, h2⟩ := HP.out
    obtain ⟨h3, h4⟩ := HZ.out
    have h5 := HQ.out.2
    simp at h5
    simp [sg] at h3 h4
    have : cmpI a b = 1 := by unfold cmpI; rw [if_neg (by omega), if_pos (by omega)]
    exact this.symm
  · go_enter Try.func66, Try.ntmps66
    go_wp2_with fail
    go_ret
    refine ⟨ret_i ?_, Below.refl _ _⟩
    obtain ⟨h1, h2⟩ := HP.out
    obtain ⟨h3, h4⟩ := HZ.out
    have h5 := HQ.out.1
    simp at h5
    simp [sg] at h3 h4
    have : cmpI a b = -1 := by unfold cmpI; rw [if_pos (by omega)]
    exact this.symm
  · go_enter Try.func66, Try.ntmps66
    go_wp2_with fail
    refine (cmpAbs_n ga oa gb ob a b na nb w HA.out.1 HA.out.2 hl).mono ?_
    rintro e w1 ⟨rfl, hb⟩
    go_wp2_with fail
    go_ret
    refine ⟨ret_i ?_, hb⟩
    obtain ⟨h1, h2⟩ := HP.out
    obtain ⟨h3, h4⟩ := HZ.out
    simp [sg] at h3 h4
    have e1 : (a.natAbs : Int) = -a := by omega
    have e2 : (b.natAbs : Int) = -b := by omega
    rw [e1, e2]
    have : wrap64 (-cmpI (-a) (-b)) = cmpI a b := by
      unfold cmpI wrap64
      repeat' split
      all_goals omega
    exact this

theorem sub_n (A0 : Option Addr) (c0 : Nat) (la : List Int) (A1 : Option Addr) (c1 : Nat) (lb : List Int) (w : World) (h0 : la.length ≤ c0) (r0 : Kd.C (Kd.int .u32) w A0 la.length la) (h1 : lb.length ≤ c1) (r1 : Kd.C (Kd.int .u32) w A1 lb.length lb) (ha : Cn 4294967296 la) (hb : Cn 4294967296 lb) (hn : la.length ≤ 1000000) (hle : dv 4294967296 lb ≤ dv 4294967296 la) :
    Calls Try.prog 117 #[.slice A0 la.length c0, .slice A1 lb.length c1] w fun e w' => ∃ v r, e = .returned v ∧ Mag w' v r ∧ Cn 4294967296 r ∧ dv 4294967296 r = dv 4294967296 la - dv 4294967296 lb ∧ r.length ≤ la.length ∧ Below w.heap.size w w' := by
  obtain ⟨k, r, hf, hc, hv, hl⟩ := sub_f la lb ha hb (by omega) hle
  refine (num_subMag.calls k A0 c0 la A1 c1 lb r w r0 h0 r1 h1 hf).mono ?_
  rintro e w' ⟨v, rfl, hV, hb⟩
  exact ⟨v, r, rfl, Mag.of hV, hc, hv, hl, hb⟩
set_option maxHeartbeats 4000000 in
set_option maxRecDepth 100000 in
theorem add_n (gx ox ga oa gb ob : Nat) (a b : Int) (na nb : Nat) (w : World) (hx : Room w gx ox) (ha : IsN w ga oa a na) (hb : IsW w gb ob b nb) (hl : na + nb ≤ 1000) :
    Calls Try.prog 63 #[.pointer (some ⟨gx, ox, none⟩), .pointer (some ⟨ga, oa, none⟩), .pointer (some ⟨gb, ob, none⟩)] w (SetP w gx ox (a + b) (max na nb + 1)) := by
  obtain ⟨nega, Aa, cca, la, sa, hca, ra, ca, hla, hza, qa⟩ := ha.open
  obtain ⟨negb, Ab, ccb, lb, sb, hcb, rb, cb, hlb, hzb⟩ := hb.at_
  have hma : na ≤ max na nb := Nat.le_max_left _ _
  have hmb : nb ≤ max na nb := Nat.le_max_right _ _
  have hmm : max la.length lb.length ≤ max na nb := Nat.max_le.2 ⟨by omega, by omega⟩
  generalize max na nb = nm at hma hmb hmm ⊢
  generalize hz : a + b = z
  rw [hza, hzb] at hz
  have a0 := sa.cell0
  have a1 := sa.cell1
  have b0 := sb.cell0
  have b1 := sb.cell1
  clear ha hb hza hzb qa
  by_cases hs : nega = negb
  · subst hs
    have HZ := Aside0.mk (show sg nega (dv 4294967296 la + dv 4294967296 lb) = z by rw [← hz]; cases nega <;> simp [sg]; omega)
    clear hz
    have ht : (nega == nega) = true := by simp
    go_enter Try.func63, Try.ntmps63
    go_wp2_with fail
    go_quiet (fail)
    go_wp2_with fail
    generalize hq : World.drewN w _ = W
    have hB : Below w.heap.size w W := by rw [← hq]; exact pw_below_drewN (Below.refl _ _) _
    clear hq
    replace ra := Kd.C_below ra hB
    replace rb := Kd.C_below rb hB
    replace sa := sa.below hB
    replace sb := sb.below hB
    replace hx := hx.below hB
    replace a0 := sa.cell0
    replace a1 := sa.cell1
    replace b0 := sb.cell0
    replace b1 := sb.cell1
    refine start_ (n := 16) (S := fun w' => w'.cell? ⟨ga, oa, none⟩ = some (.bool nega) ∧ w'.cell? ⟨ga, oa + 1, none⟩ = some (.slice Aa la.length cca) ∧ w'.cell? ⟨gb, ob + 1, none⟩ = some (.slice Ab lb.length ccb)) (ds := [14]) (bs 16 0) (by kernel_rfl) rfl rfl ⟨a0, a1, b1⟩ (fun hHeld => ?_)
    refine pure_ (i := 0) (N := some 16) (v := ?_) (a' := ?_) (bs 16 1) rfl rfl (by kernel_rfl) (fun _ _ _ h => h) (Or.inl ⟨by rfl, ?_⟩) ?_ ?_; rotate_left; (· intro w'; go_simp; first | done | with_reducible rfl); rotate_left; (· simp only [Act.put, List.setIfInBounds_toArray, List.set_cons_zero, List.set_cons_succ, i64_w, i32_w]; rfl)
    refine pure_ (i := 1) (N := some 17) (v := ?_) (a' := ?_) (bs 16 3) rfl rfl (by kernel_rfl) (fun _ _ _ h => h) (Or.inl ⟨by rfl, ?_⟩) ?_ ?_; rotate_left; (· intro w'; go_simp; first | done | with_reducible rfl); rotate_left; (· simp only [Act.put, List.setIfInBounds_toArray, List.set_cons_zero, List.set_cons_succ, i64_w, i32_w]; rfl)
    refine pure_ (i := 2) (N := some 18) (v := ?_) (a' := ?_) (bs 16 7) rfl rfl (by kernel_rfl) (fun _ _ _ h => h) (Or.inl ⟨by rfl, ?_⟩) ?_ ?_; rotate_left; (· intro w'; go_simp; first | done | with_reducible rfl); rotate_left; (· simp only [Act.put, List.setIfInBounds_toArray, List.set_cons_zero, List.set_cons_succ, i64_w, i32_w]; rfl)
    refine pure_ (i := 3) (N := some 19) (v := ?_) (a' := ?_) (bs 16 15) rfl rfl (by kernel_rfl) (fun _ _ _ h => h) (Or.inl ⟨by rfl, ?_⟩) ?_ ?_; rotate_left; (· intro w'; go_simp; first | done | with_reducible rfl); rotate_left; (· simp only [Act.put, List.setIfInBounds_toArray, List.set_cons_zero, List.set_cons_succ, i64_w, i32_w]; rfl)
    refine pure_ (i := 5) (N := some 21) (v := ?_) (a' := ?_) (bs 16 47) rfl rfl (by kernel_rfl) (fun _ _ _ h => h) (Or.inl ⟨by rfl, ?_⟩) ?_ ?_; rotate_left; (· intro w'; go_simp; first | done | with_reducible rfl); rotate_left; (· simp only [Act.put, List.setIfInBounds_toArray, List.set_cons_zero, List.set_cons_succ, i64_w, i32_w]; rfl)
    refine pure_ (i := 6) (N := some 22) (v := ?_) (a' := ?_) (bs 16 111) rfl rfl (by kernel_rfl) (fun _ _ _ h => h) (Or.inl ⟨by rfl, ?_⟩) ?_ ?_; rotate_left; (· intro w'; go_simp; first | done | with_reducible rfl); rotate_left; (· simp only [Act.put, List.setIfInBounds_toArray, List.set_cons_zero, List.set_cons_succ, i64_w, i32_w]; rfl)
    refine pure_ (i := 7) (N := some 23) (v := ?_) (a' := ?_) (bs 16 239) rfl rfl (by kernel_rfl) (fun _ _ _ h => h) (Or.inl ⟨by rfl, ?_⟩) ?_ ?_; rotate_left; (· intro w'; go_simp; first | done | with_reducible rfl); rotate_left; (· simp only [Act.put, List.setIfInBounds_toArray, List.set_cons_zero, List.set_cons_succ, i64_w, i32_w]; rfl)
    refine pure_ (i := 9) (N := some 25) (v := ?_) (a' := ?_) (bs 16 751) rfl rfl (by kernel_rfl) (fun _ _ _ h => h) (Or.inl ⟨by rfl, ?_⟩) ?_ ?_; rotate_left; (· intro w'; go_simp; first | done | with_reducible rfl); rotate_left; (· simp only [Act.put, List.setIfInBounds_toArray, List.set_cons_zero, List.set_cons_succ, i64_w, i32_w]; rfl)
    refine pure_ (i := 10) (N := some 26) (v := ?_) (a' := ?_) (bs 16 1775) rfl rfl (by kernel_rfl) (fun _ _ _ h => h) (Or.inl ⟨by rfl, ?_⟩) ?_ ?_; rotate_left; (· intro w'; go_simp; first | done | with_reducible rfl); rotate_left; (· simp only [Act.put, List.setIfInBounds_toArray, List.set_cons_zero, List.set_cons_succ, i64_w, i32_w]; rfl)
    refine pure_ (i := 11) (N := some 27) (v := ?_) (a' := ?_) (bs 16 3823) rfl rfl (by kernel_rfl) (fun _ _ _ h => h) (Or.inl ⟨by rfl, ?_⟩) ?_ ?_; rotate_left; (· intro w'; go_simp; first | done | with_reducible rfl); rotate_left; (· simp only [Act.put, List.setIfInBounds_toArray, List.set_cons_zero, List.set_cons_succ, i64_w, i32_w]; rfl)
    refine take_ (i := 4) (N := some 20) (v := ?_) (a' := ?_) (bs 16 3839) rfl rfl (by kernel_rfl) (fun _ _ _ h => h) (Or.inl ⟨by rfl, ?_⟩) hHeld ?_ ?_; rotate_left; (· rintro w' ⟨s0, s1, s2⟩; go_simp; first | done | with_reducible rfl); rotate_left; (· simp only [Act.put, List.setIfInBounds_toArray, List.set_cons_zero, List.set_cons_succ, i64_w, i32_w]; rfl)
    refine take_ (i := 8) (N := some 24) (v := ?_) (a' := ?_) (bs 16 4095) rfl rfl (by kernel_rfl) (fun _ _ _ h => h) (Or.inl ⟨by rfl, ?_⟩) hHeld ?_ ?_; rotate_left; (· rintro w' ⟨s0, s1, s2⟩; go_simp; first | done | with_reducible rfl); rotate_left; (· simp only [Act.put, List.setIfInBounds_toArray, List.set_cons_zero, List.set_cons_succ, i64_w, i32_w]; rfl)
    refine take_ (i := 12) (N := some 28) (v := ?_) (a' := ?_) (bs 16 8191) rfl rfl (by kernel_rfl) (fun _ _ _ h => h) (Or.inl ⟨by rfl, ?_⟩) hHeld ?_ ?_; rotate_left; (· rintro w' ⟨s0, s1, s2⟩; go_simp; first | done | with_reducible rfl); rotate_left; (· simp only [Act.put, List.setIfInBounds_toArray, List.set_cons_zero, List.set_cons_succ, i64_w, i32_w]; rfl)
    refine one_ (i := 13) (N := some 29) (bs 16 16383) rfl rfl (by kernel_rfl) (by decide) (fun K hK => ?_)
    refine goes_ Try.func115 (by kernel_rfl) rfl #[.slice Aa la.length cca, .slice Ab lb.length ccb] (by rfl) rfl rfl (by simp only [List.map_toArray, List.map_cons, List.map_nil]; rfl) ?_
    with_reducible refine (addMag_n (.slice Aa la.length cca) (.slice Ab lb.length ccb) la lb _ (Mag.mk' hca (Kd.C_drew ra)) (Mag.mk' hcb (Kd.C_drew rb)) ca.dg cb.dg (by omega) (by omega)).mono ?_
    rintro e w1 ⟨v, r, rfl, hM, hc, hv, hn, hb⟩
    refine ⟨_, rfl, ?_⟩
    have hb' := below_drew' hb
    refine hK.out _ _ ⟨(sa.below hb').cell0, (sa.below hb').cell1, (sb.below hb').cell1⟩ (fun hHeld => ?_)
    clear hK K
    refine norm_ (a' := ?_) ?_ ?_; rotate_left; (· show Act.put _ (some 29) _ = _; simp only [Act.put, List.setIfInBounds_toArray, List.set_cons_zero, List.set_cons_succ, i64_w, i32_w]; rfl)
    refine last_ (i := 14) (N := some 30) (bs 16 32767) rfl rfl (by kernel_rfl) (by decide) (fun K hK => ?_)
    refine goes_ Try.func114 (by kernel_rfl) rfl #[.pointer (some ⟨gx, ox, none⟩), .bool nega, v] (by rfl) rfl rfl (by simp only [List.map_toArray, List.map_cons, List.map_nil]; rfl) ?_
    with_reducible refine (set_n gx ox v r nega (nm + 1) w1 (hx.below hb') hM hc (by omega)).mono ?_
    rintro e w2 ⟨rfl, hw, hN⟩
    refine ⟨_, rfl, ?_⟩
    refine hK.out _ _ ?_
    clear hK K
    refine norm_ (a' := ?_) ?_ ?_; rotate_left; (· show Act.put _ (some 30) _ = _; simp only [Act.put, List.setIfInBounds_toArray, List.set_cons_zero, List.set_cons_succ, i64_w, i32_w]; rfl)
    refine pure_ (i := 15) (N := some 6) (v := ?_) (a' := ?_) (bs 16 65535) rfl rfl (by kernel_rfl) (fun _ _ _ h => h) (Or.inl ⟨by rfl, ?_⟩) ?_ ?_; rotate_left; (· intro w'; go_simp; first | done | with_reducible rfl); rotate_left; (· simp only [Act.put, List.setIfInBounds_toArray, List.set_cons_zero, List.set_cons_succ, i64_w, i32_w]; rfl)
    refine done_ (by kernel_rfl) ?_
    have HN := Aside0.mk hN
    have HV := Aside0.mk hv
    clear hN hv
    go_wp2
    go_ret
    refine ⟨rfl, (Wrote.of_below (hB.trans (hb'.mono hB.size)) gx ox).trans hw, ?_⟩
    have h1 := HN.out
    rw [HV.out, HZ.out] at h1
    exact h1
  · have ht : (nega == negb) = false := by simp [hs]
    have hn2 : negb = !nega := by cases nega <;> cases negb <;> simp_all
    have pa := dv_nonneg (by decide) ca.dg
    have pb := dv_nonneg (by decide) cb.dg
    have HT := Aside0.mk hn2
    clear hn2 hs
    by_cases hle : dv 4294967296 lb ≤ dv 4294967296 la
    · have HZ := Aside0.mk (show sg nega (dv 4294967296 la - dv 4294967296 lb) = z by rw [← hz, HT.out]; cases nega <;> simp [sg] <;> omega)
      have HLE := Aside0.mk hle
      clear hz hle pa pb
      go_enter Try.func63, Try.ntmps63
      go_wp2_with fail
      go_quiet (fail)
      go_wp2_with fail
      generalize hq : World.drewN w _ = W
      have hB : Below w.heap.size w W := by rw [← hq]; exact pw_below_drewN (Below.refl _ _) _
      clear hq
      replace ra := Kd.C_below ra hB
      replace rb := Kd.C_below rb hB
      replace sa := sa.below hB
      replace sb := sb.below hB
      replace hx := hx.below hB
      replace a0 := sa.cell0
      replace a1 := sa.cell1
      replace b0 := sb.cell0
      replace b1 := sb.cell1
      refine start_ (n := 10) (S := fun w' => w'.cell? ⟨ga, oa + 1, none⟩ = some (.slice Aa la.length cca) ∧ w'.cell? ⟨gb, ob + 1, none⟩ = some (.slice Ab lb.length ccb)) (ds := []) (bs 10 0) (by kernel_rfl) rfl rfl ⟨a1, b1⟩ (fun hHeld => ?_)
      refine pure_ (i := 0) (N := some 31) (v := ?_) (a' := ?_) (bs 10 1) rfl rfl (by kernel_rfl) (fun _ _ _ h => h) (Or.inl ⟨by rfl, ?_⟩) ?_ ?_; rotate_left; (· intro w'; go_simp; first | done | with_reducible rfl); rotate_left; (· simp only [Act.put, List.setIfInBounds_toArray, List.set_cons_zero, List.set_cons_succ, i64_w, i32_w]; rfl)
      refine pure_ (i := 1) (N := some 32) (v := ?_) (a' := ?_) (bs 10 3) rfl rfl (by kernel_rfl) (fun _ _ _ h => h) (Or.inl ⟨by rfl, ?_⟩) ?_ ?_; rotate_left; (· intro w'; go_simp; first | done | with_reducible rfl); rotate_left; (· simp only [Act.put, List.setIfInBounds_toArray, List.set_cons_zero, List.set_cons_succ, i64_w, i32_w]; rfl)
      refine pure_ (i := 2) (N := some 33) (v := ?_) (a' := ?_) (bs 10 7) rfl rfl (by kernel_rfl) (fun _ _ _ h => h) (Or.inl ⟨by rfl, ?_⟩) ?_ ?_; rotate_left; (· intro w'; go_simp; first | done | with_reducible rfl); rotate_left; (· simp only [Act.put, List.setIfInBounds_toArray, List.set_cons_zero, List.set_cons_succ, i64_w, i32_w]; rfl)
      refine pure_ (i := 4) (N := some 35) (v := ?_) (a' := ?_) (bs 10 23) rfl rfl (by kernel_rfl) (fun _ _ _ h => h) (Or.inl ⟨by rfl, ?_⟩) ?_ ?_; rotate_left; (· intro w'; go_simp; first | done | with_reducible rfl); rotate_left; (· simp only [Act.put, List.setIfInBounds_toArray, List.set_cons_zero, List.set_cons_succ, i64_w, i32_w]; rfl)
      refine pure_ (i := 5) (N := some 36) (v := ?_) (a' := ?_) (bs 10 55) rfl rfl (by kernel_rfl) (fun _ _ _ h => h) (Or.inl ⟨by rfl, ?_⟩) ?_ ?_; rotate_left; (· intro w'; go_simp; first | done | with_reducible rfl); rotate_left; (· simp only [Act.put, List.setIfInBounds_toArray, List.set_cons_zero, List.set_cons_succ, i64_w, i32_w]; rfl)
      refine pure_ (i := 6) (N := some 37) (v := ?_) (a' := ?_) (bs 10 119) rfl rfl (by kernel_rfl) (fun _ _ _ h => h) (Or.inl ⟨by rfl, ?_⟩) ?_ ?_; rotate_left; (· intro w'; go_simp; first | done | with_reducible rfl); rotate_left; (· simp only [Act.put, List.setIfInBounds_toArray, List.set_cons_zero, List.set_cons_succ, i64_w, i32_w]; rfl)
      refine take_ (i := 3) (N := some 34) (v := ?_) (a' := ?_) (bs 10 127) rfl rfl (by kernel_rfl) (fun _ _ _ h => h) (Or.inl ⟨by rfl, ?_⟩) hHeld ?_ ?_; rotate_left; (· rintro w' ⟨s0, s1⟩; go_simp; first | done | with_reducible rfl); rotate_left; (· simp only [Act.put, List.setIfInBounds_toArray, List.set_cons_zero, List.set_cons_succ, i64_w, i32_w]; rfl)
      refine take_ (i := 7) (N := some 38) (v := ?_) (a' := ?_) (bs 10 255) rfl rfl (by kernel_rfl) (fun _ _ _ h => h) (Or.inl ⟨by rfl, ?_⟩) hHeld ?_ ?_; rotate_left; (· rintro w' ⟨s0, s1⟩; go_simp; first | done | with_reducible rfl); rotate_left; (· simp only [Act.put, List.setIfInBounds_toArray, List.set_cons_zero, List.set_cons_succ, i64_w, i32_w]; rfl)
      refine one_ (i := 8) (N := some 39) (bs 10 511) rfl rfl (by kernel_rfl) (by decide) (fun K hK => ?_)
      refine goes_ Try.func116 (by kernel_rfl) rfl #[.slice Aa la.length cca, .slice Ab lb.length ccb] (by rfl) rfl rfl (by simp only [List.map_toArray, List.map_cons, List.map_nil]; rfl) ?_
      with_reducible refine (cmpMag_n Aa cca la Ab ccb lb _ hca (Kd.C_drew ra) hcb (Kd.C_drew rb) ca cb (by omega) (by omega)).mono ?_
      rintro e W2 ⟨c, rfl, hs, hd⟩
      refine ⟨_, rfl, ?_⟩
      have hb2 := below_drew' hd
      refine hK.out _ _ ⟨(sa.below hb2).cell1, (sb.below hb2).cell1⟩ (fun hHeld => ?_)
      clear hK K
      refine norm_ (a' := ?_) ?_ ?_; rotate_left; (· show Act.put _ (some 39) _ = _; simp only [Act.put, List.setIfInBounds_toArray, List.set_cons_zero, List.set_cons_succ, i64_w, i32_w]; rfl)
      refine pure_ (i := 9) (N := some 40) (v := ?_) (a' := ?_) (bs 10 1023) rfl rfl (by kernel_rfl) (fun _ _ _ h => h) (Or.inl ⟨by rfl, ?_⟩) ?_ ?_; rotate_left; (· intro w'; go_simp; first | done | with_reducible rfl); rotate_left; (· simp only [Act.put, List.setIfInBounds_toArray, List.set_cons_zero, List.set_cons_succ, i64_w, i32_w]; rfl)
      refine done_ (by kernel_rfl) ?_
      have hc0 : 0 ≤ c := by have := HLE.out; unfold Sg at hs; omega
      clear hs
      go_wp2_with fail
      replace ra := Kd.C_below ra hb2
      replace rb := Kd.C_below rb hb2
      replace sa := sa.below hb2
      replace sb := sb.below hb2
      replace hx := hx.below hb2
      replace a0 := sa.cell0
      replace a1 := sa.cell1
      replace b0 := sb.cell0
      replace b1 := sb.cell1
      refine start_ (n := 16) (S := fun w' => w'.cell? ⟨ga, oa, none⟩ = some (.bool nega) ∧ w'.cell? ⟨ga, oa + 1, none⟩ = some (.slice Aa la.length cca) ∧ w'.cell? ⟨gb, ob + 1, none⟩ = some (.slice Ab lb.length ccb)) (ds := [14]) (bs 16 0) (by kernel_rfl) rfl rfl ⟨a0, a1, b1⟩ (fun hHeld => ?_)
      refine pure_ (i := 0) (N := some 41) (v := ?_) (a' := ?_) (bs 16 1) rfl rfl (by kernel_rfl) (fun _ _ _ h => h) (Or.inl ⟨by rfl, ?_⟩) ?_ ?_; rotate_left; (· intro w'; go_simp; first | done | with_reducible rfl); rotate_left; (· simp only [Act.put, List.setIfInBounds_toArray, List.set_cons_zero, List.set_cons_succ, i64_w, i32_w]; rfl)
      refine pure_ (i := 1) (N := some 42) (v := ?_) (a' := ?_) (bs 16 3) rfl rfl (by kernel_rfl) (fun _ _ _ h => h) (Or.inl ⟨by rfl, ?_⟩) ?_ ?_; rotate_left; (· intro w'; go_simp; first | done | with_reducible rfl); rotate_left; (· simp only [Act.put, List.setIfInBounds_toArray, List.set_cons_zero, List.set_cons_succ, i64_w, i32_w]; rfl)
      refine pure_ (i := 2) (N := some 43) (v := ?_) (a' := ?_) (bs 16 7) rfl rfl (by kernel_rfl) (fun _ _ _ h => h) (Or.inl ⟨by rfl, ?_⟩) ?_ ?_; rotate_left; (· intro w'; go_simp; first | done | with_reducible rfl); rotate_left; (· simp only [Act.put, List.setIfInBounds_toArray, List.set_cons_zero, List.set_cons_succ, i64_w, i32_w]; rfl)
      refine pure_ (i := 3) (N := some 44) (v := ?_) (a' := ?_) (bs 16 15) rfl rfl (by kernel_rfl) (fun _ _ _ h => h) (Or.inl ⟨by rfl, ?_⟩) ?_ ?_; rotate_left; (· intro w'; go_simp; first | done | with_reducible rfl); rotate_left; (· simp only [Act.put, List.setIfInBounds_toArray, List.set_cons_zero, List.set_cons_succ, i64_w, i32_w]; rfl)
      refine pure_ (i := 5) (N := some 46) (v := ?_) (a' := ?_) (bs 16 47) rfl rfl (by kernel_rfl) (fun _ _ _ h => h) (Or.inl ⟨by rfl, ?_⟩) ?_ ?_; rotate_left; (· intro w'; go_simp; first | done | with_reducible rfl); rotate_left; (· simp only [Act.put, List.setIfInBounds_toArray, List.set_cons_zero, List.set_cons_succ, i64_w, i32_w]; rfl)
      refine pure_ (i := 6) (N := some 47) (v := ?_) (a' := ?_) (bs 16 111) rfl rfl (by kernel_rfl) (fun _ _ _ h => h) (Or.inl ⟨by rfl, ?_⟩) ?_ ?_; rotate_left; (· intro w'; go_simp; first | done | with_reducible rfl); rotate_left; (· simp only [Act.put, List.setIfInBounds_toArray, List.set_cons_zero, List.set_cons_succ, i64_w, i32_w]; rfl)
      refine pure_ (i := 7) (N := some 48) (v := ?_) (a' := ?_) (bs 16 239) rfl rfl (by kernel_rfl) (fun _ _ _ h => h) (Or.inl ⟨by rfl, ?_⟩) ?_ ?_; rotate_left; (· intro w'; go_simp; first | done | with_reducible rfl); rotate_left; (· simp only [Act.put, List.setIfInBounds_toArray, List.set_cons_zero, List.set_cons_succ, i64_w, i32_w]; rfl)
      refine pure_ (i := 9) (N := some 50) (v := ?_) (a' := ?_) (bs 16 751) rfl rfl (by kernel_rfl) (fun _ _ _ h => h) (Or.inl ⟨by rfl, ?_⟩) ?_ ?_; rotate_left; (· intro w'; go_simp; first | done | with_reducible rfl); rotate_left; (· simp only [Act.put, List.setIfInBounds_toArray, List.set_cons_zero, List.set_cons_succ, i64_w, i32_w]; rfl)
      refine pure_ (i := 10) (N := some 51) (v := ?_) (a' := ?_) (bs 16 1775) rfl rfl (by kernel_rfl) (fun _ _ _ h => h) (Or.inl ⟨by rfl, ?_⟩) ?_ ?_; rotate_left; (· intro w'; go_simp; first | done | with_reducible rfl); rotate_left; (· simp only [Act.put, List.setIfInBounds_toArray, List.set_cons_zero, List.set_cons_succ, i64_w, i32_w]; rfl)
      refine pure_ (i := 11) (N := some 52) (v := ?_) (a' := ?_) (bs 16 3823) rfl rfl (by kernel_rfl) (fun _ _ _ h => h) (Or.inl ⟨by rfl, ?_⟩) ?_ ?_; rotate_left; (· intro w'; go_simp; first | done | with_reducible rfl); rotate_left; (· simp only [Act.put, List.setIfInBounds_toArray, List.set_cons_zero, List.set_cons_succ, i64_w, i32_w]; rfl)
      refine take_ (i := 4) (N := some 45) (v := ?_) (a' := ?_) (bs 16 3839) rfl rfl (by kernel_rfl) (fun _ _ _ h => h) (Or.inl ⟨by rfl, ?_⟩) hHeld ?_ ?_; rotate_left; (· rintro w' ⟨s0, s1, s2⟩; go_simp; first | done | with_reducible rfl); rotate_left; (· simp only [Act.put, List.setIfInBounds_toArray, List.set_cons_zero, List.set_cons_succ, i64_w, i32_w]; rfl)
      refine take_ (i := 8) (N := some 49) (v := ?_) (a' := ?_) (bs 16 4095) rfl rfl (by kernel_rfl) (fun _ _ _ h => h) (Or.inl ⟨by rfl, ?_⟩) hHeld ?_ ?_; rotate_left; (· rintro w' ⟨s0, s1, s2⟩; go_simp; first | done | with_reducible rfl); rotate_left; (· simp only [Act.put, List.setIfInBounds_toArray, List.set_cons_zero, List.set_cons_succ, i64_w, i32_w]; rfl)
      refine take_ (i := 12) (N := some 53) (v := ?_) (a' := ?_) (bs 16 8191) rfl rfl (by kernel_rfl) (fun _ _ _ h => h) (Or.inl ⟨by rfl, ?_⟩) hHeld ?_ ?_; rotate_left; (· rintro w' ⟨s0, s1, s2⟩; go_simp; first | done | with_reducible rfl); rotate_left; (· simp only [Act.put, List.setIfInBounds_toArray, List.set_cons_zero, List.set_cons_succ, i64_w, i32_w]; rfl)
      refine one_ (i := 13) (N := some 54) (bs 16 16383) rfl rfl (by kernel_rfl) (by decide) (fun K hK => ?_)
      refine goes_ Try.func117 (by kernel_rfl) rfl #[.slice Aa la.length cca, .slice Ab lb.length ccb] (by rfl) rfl rfl (by simp only [List.map_toArray, List.map_cons, List.map_nil]; rfl) ?_
      with_reducible refine (sub_n Aa cca la Ab ccb lb _ hca (Kd.C_drew ra) hcb (Kd.C_drew rb) ca cb (by omega) HLE.out).mono ?_
      rintro e w1 ⟨v, r, rfl, hM, hc, hv, hn, hb⟩
      refine ⟨_, rfl, ?_⟩
      have hb' := below_drew' hb
      refine hK.out _ _ ⟨(sa.below hb').cell0, (sa.below hb').cell1, (sb.below hb').cell1⟩ (fun hHeld => ?_)
      clear hK K
      refine norm_ (a' := ?_) ?_ ?_; rotate_left; (· show Act.put _ (some 54) _ = _; simp only [Act.put, List.setIfInBounds_toArray, List.set_cons_zero, List.set_cons_succ, i64_w, i32_w]; rfl)
      refine last_ (i := 14) (N := some 55) (bs 16 32767) rfl rfl (by kernel_rfl) (by decide) (fun K hK => ?_)
      refine goes_ Try.func114 (by kernel_rfl) rfl #[.pointer (some ⟨gx, ox, none⟩), .bool nega, v] (by rfl) rfl rfl (by simp only [List.map_toArray, List.map_cons, List.map_nil]; rfl) ?_
      with_reducible refine (set_n gx ox v r nega (nm + 1) w1 (hx.below hb') hM hc (by omega)).mono ?_
      rintro e w2 ⟨rfl, hw, hN⟩
      refine ⟨_, rfl, ?_⟩
      refine hK.out _ _ ?_
      clear hK K
      refine norm_ (a' := ?_) ?_ ?_; rotate_left; (· show Act.put _ (some 55) _ = _; simp only [Act.put, List.setIfInBounds_toArray, List.set_cons_zero, List.set_cons_succ, i64_w, i32_w]; rfl)
      refine pure_ (i := 15) (N := some 6) (v := ?_) (a' := ?_) (bs 16 65535) rfl rfl (by kernel_rfl) (fun _ _ _ h => h) (Or.inl ⟨by rfl, ?_⟩) ?_ ?_; rotate_left; (· intro w'; go_simp; first | done | with_reducible rfl); rotate_left; (· simp only [Act.put, List.setIfInBounds_toArray, List.set_cons_zero, List.set_cons_succ, i64_w, i32_w]; rfl)
      refine done_ (by kernel_rfl) ?_
      have HN := Aside0.mk hN
      have HV := Aside0.mk hv
      clear hN hv
      go_wp2
      go_ret
      refine ⟨rfl, (Wrote.of_below ((hB.trans (hb2.mono hB.size)).trans (hb'.mono (hB.trans (hb2.mono hB.size)).size)) gx ox).trans hw, ?_⟩
      have h1 := HN.out
      rw [HV.out, HZ.out] at h1
      exact h1
    · have HZ := Aside0.mk (show sg negb (dv 4294967296 lb - dv 4294967296 la) = z by rw [← hz, HT.out]; cases nega <;> simp [sg] <;> omega)
      have HLE := Aside0.mk (show dv 4294967296 la < dv 4294967296 lb by omega)
      clear hz hle pa pb
      go_enter Try.func63, Try.ntmps63
      go_wp2_with fail
      go_quiet (fail)
      go_wp2_with fail
      generalize hq : World.drewN w _ = W
      have hB : Below w.heap.size w W := by rw [← hq]; exact pw_below_drewN (Below.refl _ _) _
      clear hq
      replace ra := Kd.C_below ra hB
      replace rb := Kd.C_below rb hB
      replace sa := sa.below hB
      replace sb := sb.below hB
      replace hx := hx.below hB
      replace a0 := sa.cell0
      replace a1 := sa.cell1
      replace b0 := sb.cell0
      replace b1 := sb.cell1
      refine start_ (n := 10) (S := fun w' => w'.cell? ⟨ga, oa + 1, none⟩ = some (.slice Aa la.length cca) ∧ w'.cell? ⟨gb, ob + 1, none⟩ = some (.slice Ab lb.length ccb)) (ds := []) (bs 10 0) (by kernel_rfl) rfl rfl ⟨a1, b1⟩ (fun hHeld => ?_)
      refine pure_ (i := 0) (N := some 31) (v := ?_) (a' := ?_) (bs 10 1) rfl rfl (by kernel_rfl) (fun _ _ _ h => h) (Or.inl ⟨by rfl, ?_⟩) ?_ ?_; rotate_left; (· intro w'; go_simp; first | done | with_reducible rfl); rotate_left; (· simp only [Act.put, List.setIfInBounds_toArray, List.set_cons_zero, List.set_cons_succ, i64_w, i32_w]; rfl)
      refine pure_ (i := 1) (N := some 32) (v := ?_) (a' := ?_) (bs 10 3) rfl rfl (by kernel_rfl) (fun _ _ _ h => h) (Or.inl ⟨by rfl, ?_⟩) ?_ ?_; rotate_left; (· intro w'; go_simp; first | done | with_reducible rfl); rotate_left; (· simp only [Act.put, List.setIfInBounds_toArray, List.set_cons_zero, List.set_cons_succ, i64_w, i32_w]; rfl)
      refine pure_ (i := 2) (N := some 33) (v := ?_) (a' := ?_) (bs 10 7) rfl rfl (by kernel_rfl) (fun _ _ _ h => h) (Or.inl ⟨by rfl, ?_⟩) ?_ ?_; rotate_left; (· intro w'; go_simp; first | done | with_reducible rfl); rotate_left; (· simp only [Act.put, List.setIfInBounds_toArray, List.set_cons_zero, List.set_cons_succ, i64_w, i32_w]; rfl)
      refine pure_ (i := 4) (N := some 35) (v := ?_) (a' := ?_) (bs 10 23) rfl rfl (by kernel_rfl) (fun _ _ _ h => h) (Or.inl ⟨by rfl, ?_⟩) ?_ ?_; rotate_left; (· intro w'; go_simp; first | done | with_reducible rfl); rotate_left; (· simp only [Act.put, List.setIfInBounds_toArray, List.set_cons_zero, List.set_cons_succ, i64_w, i32_w]; rfl)
      refine pure_ (i := 5) (N := some 36) (v := ?_) (a' := ?_) (bs 10 55) rfl rfl (by kernel_rfl) (fun _ _ _ h => h) (Or.inl ⟨by rfl, ?_⟩) ?_ ?_; rotate_left; (· intro w'; go_simp; first | done | with_reducible rfl); rotate_left; (· simp only [Act.put, List.setIfInBounds_toArray, List.set_cons_zero, List.set_cons_succ, i64_w, i32_w]; rfl)
      refine pure_ (i := 6) (N := some 37) (v := ?_) (a' := ?_) (bs 10 119) rfl rfl (by kernel_rfl) (fun _ _ _ h => h) (Or.inl ⟨by rfl, ?_⟩) ?_ ?_; rotate_left; (· intro w'; go_simp; first | done | with_reducible rfl); rotate_left; (· simp only [Act.put, List.setIfInBounds_toArray, List.set_cons_zero, List.set_cons_succ, i64_w, i32_w]; rfl)
      refine take_ (i := 3) (N := some 34) (v := ?_) (a' := ?_) (bs 10 127) rfl rfl (by kernel_rfl) (fun _ _ _ h => h) (Or.inl ⟨by rfl, ?_⟩) hHeld ?_ ?_; rotate_left; (· rintro w' ⟨s0, s1⟩; go_simp; first | done | with_reducible rfl); rotate_left; (· simp only [Act.put, List.setIfInBounds_toArray, List.set_cons_zero, List.set_cons_succ, i64_w, i32_w]; rfl)
      refine take_ (i := 7) (N := some 38) (v := ?_) (a' := ?_) (bs 10 255) rfl rfl (by kernel_rfl) (fun _ _ _ h => h) (Or.inl ⟨by rfl, ?_⟩) hHeld ?_ ?_; rotate_left; (· rintro w' ⟨s0, s1⟩; go_simp; first | done | with_reducible rfl); rotate_left; (· simp only [Act.put, List.setIfInBounds_toArray, List.set_cons_zero, List.set_cons_succ, i64_w, i32_w]; rfl)
      refine one_ (i := 8) (N := some 39) (bs 10 511) rfl rfl (by kernel_rfl) (by decide) (fun K hK => ?_)
      refine goes_ Try.func116 (by kernel_rfl) rfl #[.slice Aa la.length cca, .slice Ab lb.length ccb] (by rfl) rfl rfl (by simp only [List.map_toArray, List.map_cons, List.map_nil]; rfl) ?_
      with_reducible refine (cmpMag_n Aa cca la Ab ccb lb _ hca (Kd.C_drew ra) hcb (Kd.C_drew rb) ca cb (by omega) (by omega)).mono ?_
      rintro e W2 ⟨c, rfl, hs, hd⟩
      refine ⟨_, rfl, ?_⟩
      have hb2 := below_drew' hd
      refine hK.out _ _ ⟨(sa.below hb2).cell1, (sb.below hb2).cell1⟩ (fun hHeld => ?_)
      clear hK K
      refine norm_ (a' := ?_) ?_ ?_; rotate_left; (· show Act.put _ (some 39) _ = _; simp only [Act.put, List.setIfInBounds_toArray, List.set_cons_zero, List.set_cons_succ, i64_w, i32_w]; rfl)
      refine pure_ (i := 9) (N := some 40) (v := ?_) (a' := ?_) (bs 10 1023) rfl rfl (by kernel_rfl) (fun _ _ _ h => h) (Or.inl ⟨by rfl, ?_⟩) ?_ ?_; rotate_left; (· intro w'; go_simp; first | done | with_reducible rfl); rotate_left; (· simp only [Act.put, List.setIfInBounds_toArray, List.set_cons_zero, List.set_cons_succ, i64_w, i32_w]; rfl)
      refine done_ (by kernel_rfl) ?_
      have hc0 : c < 0 := by have := HLE.out; unfold Sg at hs; omega
      clear hs
      go_wp2_with fail
      replace ra := Kd.C_below ra hb2
      replace rb := Kd.C_below rb hb2
      replace sa := sa.below hb2
      replace sb := sb.below hb2
      replace hx := hx.below hb2
      replace a0 := sa.cell0
      replace a1 := sa.cell1
      replace b0 := sb.cell0
      replace b1 := sb.cell1
      refine start_ (n := 16) (S := fun w' => w'.cell? ⟨gb, ob, none⟩ = some (.bool negb) ∧ w'.cell? ⟨gb, ob + 1, none⟩ = some (.slice Ab lb.length ccb) ∧ w'.cell? ⟨ga, oa + 1, none⟩ = some (.slice Aa la.length cca)) (ds := [14]) (bs 16 0) (by kernel_rfl) rfl rfl ⟨b0, b1, a1⟩ (fun hHeld => ?_)
      refine pure_ (i := 0) (N := some 56) (v := ?_) (a' := ?_) (bs 16 1) rfl rfl (by kernel_rfl) (fun _ _ _ h => h) (Or.inl ⟨by rfl, ?_⟩) ?_ ?_; rotate_left; (· intro w'; go_simp; first | done | with_reducible rfl); rotate_left; (· simp only [Act.put, List.setIfInBounds_toArray, List.set_cons_zero, List.set_cons_succ, i64_w, i32_w]; rfl)
      refine pure_ (i := 1) (N := some 57) (v := ?_) (a' := ?_) (bs 16 3) rfl rfl (by kernel_rfl) (fun _ _ _ h => h) (Or.inl ⟨by rfl, ?_⟩) ?_ ?_; rotate_left; (· intro w'; go_simp; first | done | with_reducible rfl); rotate_left; (· simp only [Act.put, List.setIfInBounds_toArray, List.set_cons_zero, List.set_cons_succ, i64_w, i32_w]; rfl)
      refine pure_ (i := 2) (N := some 58) (v := ?_) (a' := ?_) (bs 16 7) rfl rfl (by kernel_rfl) (fun _ _ _ h => h) (Or.inl ⟨by rfl, ?_⟩) ?_ ?_; rotate_left; (· intro w'; go_simp; first | done | with_reducible rfl); rotate_left; (· simp only [Act.put, List.setIfInBounds_toArray, List.set_cons_zero, List.set_cons_succ, i64_w, i32_w]; rfl)
      refine pure_ (i := 3) (N := some 59) (v := ?_) (a' := ?_) (bs 16 15) rfl rfl (by kernel_rfl) (fun _ _ _ h => h) (Or.inl ⟨by rfl, ?_⟩) ?_ ?_; rotate_left; (· intro w'; go_simp; first | done | with_reducible rfl); rotate_left; (· simp only [Act.put, List.setIfInBounds_toArray, List.set_cons_zero, List.set_cons_succ, i64_w, i32_w]; rfl)
      refine pure_ (i := 5) (N := some 61) (v := ?_) (a' := ?_) (bs 16 47) rfl rfl (by kernel_rfl) (fun _ _ _ h => h) (Or.inl ⟨by rfl, ?_⟩) ?_ ?_; rotate_left; (· intro w'; go_simp; first | done | with_reducible rfl); rotate_left; (· simp only [Act.put, List.setIfInBounds_toArray, List.set_cons_zero, List.set_cons_succ, i64_w, i32_w]; rfl)
      refine pure_ (i := 6) (N := some 62) (v := ?_) (a' := ?_) (bs 16 111) rfl rfl (by kernel_rfl) (fun _ _ _ h => h) (Or.inl ⟨by rfl, ?_⟩) ?_ ?_; rotate_left; (· intro w'; go_simp; first | done | with_reducible rfl); rotate_left; (· simp only [Act.put, List.setIfInBounds_toArray, List.set_cons_zero, List.set_cons_succ, i64_w, i32_w]; rfl)
      refine pure_ (i := 7) (N := some 63) (v := ?_) (a' := ?_) (bs 16 239) rfl rfl (by kernel_rfl) (fun _ _ _ h => h) (Or.inl ⟨by rfl, ?_⟩) ?_ ?_; rotate_left; (· intro w'; go_simp; first | done | with_reducible rfl); rotate_left; (· simp only [Act.put, List.setIfInBounds_toArray, List.set_cons_zero, List.set_cons_succ, i64_w, i32_w]; rfl)
      refine pure_ (i := 9) (N := some 65) (v := ?_) (a' := ?_) (bs 16 751) rfl rfl (by kernel_rfl) (fun _ _ _ h => h) (Or.inl ⟨by rfl, ?_⟩) ?_ ?_; rotate_left; (· intro w'; go_simp; first | done | with_reducible rfl); rotate_left; (· simp only [Act.put, List.setIfInBounds_toArray, List.set_cons_zero, List.set_cons_succ, i64_w, i32_w]; rfl)
      refine pure_ (i := 10) (N := some 66) (v := ?_) (a' := ?_) (bs 16 1775) rfl rfl (by kernel_rfl) (fun _ _ _ h => h) (Or.inl ⟨by rfl, ?_⟩) ?_ ?_; rotate_left; (· intro w'; go_simp; first | done | with_reducible rfl); rotate_left; (· simp only [Act.put, List.setIfInBounds_toArray, List.set_cons_zero, List.set_cons_succ, i64_w, i32_w]; rfl)
      refine pure_ (i := 11) (N := some 67) (v := ?_) (a' := ?_) (bs 16 3823) rfl rfl (by kernel_rfl) (fun _ _ _ h => h) (Or.inl ⟨by rfl, ?_⟩) ?_ ?_; rotate_left; (· intro w'; go_simp; first | done | with_reducible rfl); rotate_left; (· simp only [Act.put, List.setIfInBounds_toArray, List.set_cons_zero, List.set_cons_succ, i64_w, i32_w]; rfl)
      refine take_ (i := 4) (N := some 60) (v := ?_) (a' := ?_) (bs 16 3839) rfl rfl (by kernel_rfl) (fun _ _ _ h => h) (Or.inl ⟨by rfl, ?_⟩) hHeld ?_ ?_; rotate_left; (· rintro w' ⟨s0, s1, s2⟩; go_simp; first | done | with_reducible rfl); rotate_left; (· simp only [Act.put, List.setIfInBounds_toArray, List.set_cons_zero, List.set_cons_succ, i64_w, i32_w]; rfl)
      refine take_ (i := 8) (N := some 64) (v := ?_) (a' := ?_) (bs 16 4095) rfl rfl (by kernel_rfl) (fun _ _ _ h => h) (Or.inl ⟨by rfl, ?_⟩) hHeld ?_ ?_; rotate_left; (· rintro w' ⟨s0, s1, s2⟩; go_simp; first | done | with_reducible rfl); rotate_left; (· simp only [Act.put, List.setIfInBounds_toArray, List.set_cons_zero, List.set_cons_succ, i64_w, i32_w]; rfl)
      refine take_ (i := 12) (N := some 68) (v := ?_) (a' := ?_) (bs 16 8191) rfl rfl (by kernel_rfl) (fun _ _ _ h => h) (Or.inl ⟨by rfl, ?_⟩) hHeld ?_ ?_; rotate_left; (· rintro w' ⟨s0, s1, s2⟩; go_simp; first | done | with_reducible rfl); rotate_left; (· simp only [Act.put, List.setIfInBounds_toArray, List.set_cons_zero, List.set_cons_succ, i64_w, i32_w]; rfl)
      refine one_ (i := 13) (N := some 69) (bs 16 16383) rfl rfl (by kernel_rfl) (by decide) (fun K hK => ?_)
      refine goes_ Try.func117 (by kernel_rfl) rfl #[.slice Ab lb.length ccb, .slice Aa la.length cca] (by rfl) rfl rfl (by simp only [List.map_toArray, List.map_cons, List.map_nil]; rfl) ?_
      with_reducible refine (sub_n Ab ccb lb Aa cca la _ hcb (Kd.C_drew rb) hca (Kd.C_drew ra) cb ca (by omega) (Int.le_of_lt HLE.out)).mono ?_
      rintro e w1 ⟨v, r, rfl, hM, hc, hv, hn, hb⟩
      refine ⟨_, rfl, ?_⟩
      have hb' := below_drew' hb
      refine hK.out _ _ ⟨(sb.below hb').cell0, (sb.below hb').cell1, (sa.below hb').cell1⟩ (fun hHeld => ?_)
      clear hK K
      refine norm_ (a' := ?_) ?_ ?_; rotate_left; (· show Act.put _ (some 69) _ = _; simp only [Act.put, List.setIfInBounds_toArray, List.set_cons_zero, List.set_cons_succ, i64_w, i32_w]; rfl)
      refine last_ (i := 14) (N := some 70) (bs 16 32767) rfl rfl (by kernel_rfl) (by decide) (fun K hK => ?_)
      refine goes_ Try.func114 (by kernel_rfl) rfl #[.pointer (some ⟨gx, ox, none⟩), .bool negb, v] (by rfl) rfl rfl (by simp only [List.map_toArray, List.map_cons, List.map_nil]; rfl) ?_
      with_reducible refine (set_n gx ox v r negb (nm + 1) w1 (hx.below hb') hM hc (by omega)).mono ?_
      rintro e w2 ⟨rfl, hw, hN⟩
      refine ⟨_, rfl, ?_⟩
      refine hK.out _ _ ?_
      clear hK K
      refine norm_ (a' := ?_) ?_ ?_; rotate_left; (· show Act.put _ (some 70) _ = _; simp only [Act.put, List.setIfInBounds_toArray, List.set_cons_zero, List.set_cons_succ, i64_w, i32_w]; rfl)
      refine pure_ (i := 15) (N := some 6) (v := ?_) (a' := ?_) (bs 16 65535) rfl rfl (by kernel_rfl) (fun _ _ _ h => h) (Or.inl ⟨by rfl, ?_⟩) ?_ ?_; rotate_left; (· intro w'; go_simp; first | done | with_reducible rfl); rotate_left; (· simp only [Act.put, List.setIfInBounds_toArray, List.set_cons_zero, List.set_cons_succ, i64_w, i32_w]; rfl)
      refine done_ (by kernel_rfl) ?_
      have HN := Aside0.mk hN
      have HV := Aside0.mk hv
      clear hN hv
      go_wp2
      go_ret
      refine ⟨rfl, (Wrote.of_below ((hB.trans (hb2.mono hB.size)).trans (hb'.mono (hB.trans (hb2.mono hB.size)).size)) gx ox).trans hw, ?_⟩
      have h1 := HN.out
      rw [HV.out, HZ.out] at h1
      exact h1
end Go.Proofs.Ytpbhepdgamoiaaa.Nb

/-
  Fractions of package num as rational numbers: NewRat, Mul, Add, Sub, Cmp, IsInt.
-/
import Derived.Test.YtpbhepdgamoiaaaRa
namespace Go.Proofs.Ytpbhepdgamoiaaa.Rf
open Go.RowKit Go Go.Proofs.YtpbhepdgamoiaaaW.PrintWords Go.Proofs.YtpbhepdgamoiaaaW.PrintLast Go.Proofs.YtpbhepdgamoiaaaW.PrintMore Go.Proofs.Ytpbhepdgamoiaaa.Ml Go.Proofs.Ytpbhepdgamoiaaa.Mn Go.Proofs.Ytpbhepdgamoiaaa.Nd Go.Proofs.Ytpbhepdgamoiaaa.P Go.Proofs.Ytpbhepdgamoiaaa.Nc Go.Proofs.Ytpbhepdgamoiaaa.Nb Go.Proofs.Ytpbhepdgamoiaaa.Qa Go.Proofs.Ytpbhepdgamoiaaa.Ea Go.Proofs.Ytpbhepdgamoiaaa.Ra
set_option linter.unusedVariables false
set_option linter.unusedSimpArgs false

/-- The rational number that two whole ones make. -/
def qq (a b : Int) : Rat := Rat.divInt a b
theorem rat_low {a b : Int} (hb : b ≠ 0) : ratN a b = (qq a b).num ∧ ratD a b = ((qq a b).den : Int) := by
  unfold qq ratN ratD lowN lowD
  rw [Rat.num_divInt, Rat.den_divInt, if_neg hb]
  rcases Int.lt_or_le b 0 with h | h
  · rw [if_pos h, if_pos h, Int.sign_eq_neg_one_of_neg h, Int.neg_gcd, Int.gcd_neg, Int.gcd_comm b a]
    refine ⟨by rw [Int.neg_one_mul], ?_⟩
    rw [Int.natCast_ediv, Int.ofNat_natAbs_of_nonpos (by omega)]
  · rw [if_neg (by omega), if_neg (by omega), Int.sign_eq_one_of_pos (by omega), Int.gcd_comm b a]
    refine ⟨by rw [Int.one_mul], ?_⟩
    rw [Int.natCast_ediv, Int.natAbs_of_nonneg h]
/-- A rational number lies there. -/
structure RQ (w : World) (g : Nat) (q : Rat) (n : Nat) : Prop where
  num : IsN w g 0 q.num n
  den : IsN w g 2 (q.den : Int) n
theorem RQ.below {w w' : World} {g : Nat} {q : Rat} {n : Nat} (h : RQ w g q n) (hb : Below w.heap.size w w') : RQ w' g q n := ⟨h.num.below hb, h.den.below hb⟩
theorem RQ.mono {w : World} {g : Nat} {q : Rat} {n m : Nat} (h : RQ w g q n) (hm : n ≤ m) : RQ w g q m := ⟨h.num.mono hm, h.den.mono hm⟩
theorem RQ.lt {w : World} {g : Nat} {q : Rat} {n : Nat} (h : RQ w g q n) : g < w.heap.size := h.num.lt
theorem den0 (q : Rat) : ((q.den : Int)) ≠ 0 := by have := q.den_pos; omega
theorem qq_mul (p q : Rat) : qq (p.num * q.num) ((p.den : Int) * (q.den : Int)) = p * q := by
  unfold qq
  rw [← Rat.divInt_mul_divInt, Rat.num_divInt_den, Rat.num_divInt_den]
theorem qq_add (p q : Rat) : qq (p.num * (q.den : Int) + q.num * (p.den : Int)) ((p.den : Int) * (q.den : Int)) = p + q := by
  unfold qq
  rw [← Rat.divInt_add_divInt _ _ (den0 p) (den0 q), Rat.num_divInt_den, Rat.num_divInt_den]
theorem qq_sub (p q : Rat) : qq (p.num * (q.den : Int) - q.num * (p.den : Int)) ((p.den : Int) * (q.den : Int)) = p - q := by
  unfold qq
  rw [← Rat.divInt_sub_divInt _ _ (den0 p) (den0 q), Rat.num_divInt_den, Rat.num_divInt_den]
/-- How two rational numbers stand to each other. -/
def cmpQ (p q : Rat) : Int := if p < q then -1 else if q < p then 1 else 0
theorem cmp_q (p q : Rat) : cmpI (p.num * (q.den : Int)) (q.num * (p.den : Int)) = cmpQ p q := by
  unfold cmpI cmpQ
  simp only [Rat.lt_iff]
/-- A call that makes a rational number. -/
def QP (w : World) (q : Rat) (n : Nat) (e : Ending) (w' : World) : Prop := ∃ g, w.heap.size ≤ g ∧ e = .returned (.pointer (some ⟨g, 0, none⟩)) ∧ Below w.heap.size w w' ∧ RQ w' g q n
/-- A call that sets a rational number: what lies below B is as it was. -/
def QS (w : World) (g : Nat) (q : Rat) (n B : Nat) (e : Ending) (w' : World) : Prop := e = .returned (.pointer (some ⟨g, 0, none⟩)) ∧ Below B w w' ∧ RQ w' g q n
theorem setQ_n (gx ga oa gb ob : Nat) (a b : Int) (n B : Nat) (w : World) (hx0 : Room w gx 0) (hx2 : Room w gx 2) (ha : IsN w ga oa a n) (hb : IsN w gb ob b n) (hbp : b ≠ 0) (hl : n ≤ 500) (hB1 : B ≤ gx) :
    Calls Try.prog 156 #[.pointer (some ⟨gx, 0, none⟩), .pointer (some ⟨ga, oa, none⟩), .pointer (some ⟨gb, ob, none⟩)] w (QS w gx (qq a b) n B) :=
  (setFrac_n gx ga oa gb ob a b n n B w hx0 hx2 ha hb hbp (by omega) hB1).mono fun e w' ⟨h1, h2, h3, h4⟩ => ⟨h1, h2, (rat_low hbp).1 ▸ h3, (rat_low hbp).2 ▸ h4⟩
theorem room_rat0 (w : World) : Room (w.alloc (.cells #[.bool false, .slice none 0 0, .bool false, .slice none 0 0] 138)) w.heap.size 0 :=
  ⟨false, .slice none 0 0, ⟨_, 138, blk_new w _, ⟨none, 0, 0, rfl⟩, rfl, rfl⟩⟩
theorem room_rat2 (w : World) : Room (w.alloc (.cells #[.bool false, .slice none 0 0, .bool false, .slice none 0 0] 138)) w.heap.size 2 :=
  ⟨false, .slice none 0 0, ⟨_, 138, blk_new w _, ⟨none, 0, 0, rfl⟩, rfl, rfl⟩⟩
set_option maxHeartbeats 2000000 in
theorem prod_n (ga oa gb ob : Nat) (a b : Int) (na nb : Nat) (w : World) (ha : IsN w ga oa a na) (hb : IsN w gb ob b nb) (hl : na + nb ≤ 1000) :
    Calls Try.prog 129 #[.pointer (some ⟨ga, oa, none⟩), .pointer (some ⟨gb, ob, none⟩)] w (NewP w (a * b) (na + nb)) := by
  have hb1 : Below w.heap.size w (w.alloc (.cells #[.bool false, .slice none 0 0] 86)) := below_alloc (Below.refl _ w) _
  have HM := Aside0.mk (mul_n w.heap.size 0 ga oa gb ob a b na nb _ (room_new w) (ha.below hb1) (hb.below hb1) hl)
  have HB := Aside0.mk hb1
  clear ha hb hb1
  go_enter Try.func129, Try.ntmps129
  go_wp2_with fail
  refine HM.out.mono ?_
  rintro e w2 ⟨rfl, hw, hN⟩
  have H := Aside0.mk (And.intro hw hN)
  clear hw hN
  go_wp2_with fail
  go_ret
  exact ⟨_, Nat.le_refl _, rfl, HB.out.trans (H.out.1.below (Nat.le_refl _) HB.out.size), H.out.2⟩
set_option maxHeartbeats 4000000 in
theorem newRat_n (a b : Int) (w : World) (a0 : -9223372036854775808 ≤ a) (a1 : a ≤ 9223372036854775807) (b0 : -9223372036854775808 ≤ b) (b1 : b ≤ 9223372036854775807) (hb : b ≠ 0) :
    Calls Try.prog 128 #[.int .i64 a, .int .i64 b] w (QP w (qq a b) 2) := by
  have hb1 : Below w.heap.size w (w.alloc (.cells #[.bool false, .slice none 0 0, .bool false, .slice none 0 0] 138)) := below_alloc (Below.refl _ w) _
  have HR := Aside0.mk (And.intro (room_rat0 w) (And.intro (room_rat2 w) hb1))
  have HA := Aside0.mk (And.intro (And.intro a0 a1) (And.intro (And.intro b0 b1) hb))
  clear a0 a1 b0 b1 hb hb1
  go_enter Try.func128, Try.ntmps128
  go_wp2_with fail
  generalize hW : w.alloc (.cells #[.bool false, .slice none 0 0, .bool false, .slice none 0 0] 138) = W at *
  refine (newInt_n a W HA.out.1.1 HA.out.1.2).mono ?_
  rintro e w2 ⟨g2, hg2, rfl, hb2, hN2⟩
  have H2 := Aside0.mk (And.intro hb2 hN2)
  clear hb2 hN2
  go_wp2_with fail
  refine (newInt_n b w2 HA.out.2.1.1 HA.out.2.1.2).mono ?_
  rintro e w3 ⟨g3, hg3, rfl, hb3, hN3⟩
  have H3 := Aside0.mk (And.intro hb3 hN3)
  clear hb3 hN3
  go_wp2_with fail
  refine (setQ_n w.heap.size g2 0 g3 0 a b 2 w.heap.size w3 ((HR.out.1.below H2.out.1).below H3.out.1) ((HR.out.2.1.below H2.out.1).below H3.out.1) (H2.out.2.below H3.out.1) H3.out.2 HA.out.2.2 (by omega) (Nat.le_refl _)).mono ?_
  rintro e w4 ⟨rfl, hb4, hQ⟩
  have H4 := Aside0.mk (And.intro hb4 hQ)
  clear hb4 hQ
  go_wp2_with fail
  go_ret
  have s1 := HR.out.2.2.size
  have s2 := H2.out.1.size
  exact ⟨_, Nat.le_refl _, rfl, HR.out.2.2.trans ((H2.out.1.mono s1).trans ((H3.out.1.mono (by omega)).trans H4.out.1)), H4.out.2⟩
set_option maxHeartbeats 4000000 in
set_option maxRecDepth 100000 in
theorem mulQ_n (gx gy gz : Nat) (p q : Rat) (n m B : Nat) (w : World) (hx0 : Room w gx 0) (hx2 : Room w gx 2) (hy : RQ w gy p n) (hz : RQ w gz q m) (hl : n + m ≤ 400) (hB : B ≤ gx) :
    Calls Try.prog 127 #[.pointer (some ⟨gx, 0, none⟩), .pointer (some ⟨gy, 0, none⟩), .pointer (some ⟨gz, 0, none⟩)] w (QS w gx (p * q) (n + m) B) := by
  have HX := Aside0.mk (And.intro (And.intro hx0 hx2) (And.intro hy hz))
  have hgx := hx0.lt
  clear hx0 hx2 hy hz
  go_enter Try.func127, Try.ntmps127
  go_wp2_with fail
  have hb0 : Below w.heap.size w w.drew := below_drew' (Below.refl _ _)
  refine start_ (n := 15) (S := fun w' => True) (ds := []) (bs 15 0) (by kernel_rfl) rfl rfl trivial (fun hHeld => ?_)
  refine pure_ (i := 0) (N := some 7) (v := ?_) (a' := ?_) (bs 15 1) rfl rfl (by kernel_rfl) (fun _ _ _ h => h) (Or.inl ⟨by rfl, ?_⟩) ?_ ?_; rotate_left; (· intro w'; go_simp; first | done | with_reducible rfl); rotate_left; (· simp only [Act.put, List.setIfInBounds_toArray, List.set_cons_zero, List.set_cons_succ, i64_w, i32_w]; rfl)
  refine pure_ (i := 1) (N := some 8) (v := ?_) (a' := ?_) (bs 15 3) rfl rfl (by kernel_rfl) (fun _ _ _ h => h) (Or.inl ⟨by rfl, ?_⟩) ?_ ?_; rotate_left; (· intro w'; go_simp; first | done | with_reducible rfl); rotate_left; (· simp only [Act.put, List.setIfInBounds_toArray, List.set_cons_zero, List.set_cons_succ, i64_w, i32_w]; rfl)
  refine pure_ (i := 2) (N := some 9) (v := ?_) (a' := ?_) (bs 15 7) rfl rfl (by kernel_rfl) (fun _ _ _ h => h) (Or.inl ⟨by rfl, ?_⟩) ?_ ?_; rotate_left; (· intro w'; go_simp; first | done | with_reducible rfl); rotate_left; (· simp only [Act.put, List.setIfInBounds_toArray, List.set_cons_zero, List.set_cons_succ, i64_w, i32_w]; rfl)
  refine pure_ (i := 3) (N := some 10) (v := ?_) (a' := ?_) (bs 15 15) rfl rfl (by kernel_rfl) (fun _ _ _ h => h) (Or.inl ⟨by rfl, ?_⟩) ?_ ?_; rotate_left; (· intro w'; go_simp; first | done | with_reducible rfl); rotate_left; (· simp only [Act.put, List.setIfInBounds_toArray, List.set_cons_zero, List.set_cons_succ, i64_w, i32_w]; rfl)
  refine pure_ (i := 4) (N := some 11) (v := ?_) (a' := ?_) (bs 15 31) rfl rfl (by kernel_rfl) (fun _ _ _ h => h) (Or.inl ⟨by rfl, ?_⟩) ?_ ?_; rotate_left; (· intro w'; go_simp; first | done | with_reducible rfl); rotate_left; (· simp only [Act.put, List.setIfInBounds_toArray, List.set_cons_zero, List.set_cons_succ, i64_w, i32_w]; rfl)
  refine pure_ (i := 5) (N := some 12) (v := ?_) (a' := ?_) (bs 15 63) rfl rfl (by kernel_rfl) (fun _ _ _ h => h) (Or.inl ⟨by rfl, ?_⟩) ?_ ?_; rotate_left; (· intro w'; go_simp; first | done | with_reducible rfl); rotate_left; (· simp only [Act.put, List.setIfInBounds_toArray, List.set_cons_zero, List.set_cons_succ, i64_w, i32_w]; rfl)
  refine pure_ (i := 6) (N := some 13) (v := ?_) (a' := ?_) (bs 15 127) rfl rfl (by kernel_rfl) (fun _ _ _ h => h) (Or.inl ⟨by rfl, ?_⟩) ?_ ?_; rotate_left; (· intro w'; go_simp; first | done | with_reducible rfl); rotate_left; (· simp only [Act.put, List.setIfInBounds_toArray, List.set_cons_zero, List.set_cons_succ, i64_w, i32_w]; rfl)
  refine pure_ (i := 8) (N := some 15) (v := ?_) (a' := ?_) (bs 15 383) rfl rfl (by kernel_rfl) (fun _ _ _ h => h) (Or.inl ⟨by rfl, ?_⟩) ?_ ?_; rotate_left; (· intro w'; go_simp; first | done | with_reducible rfl); rotate_left; (· simp only [Act.put, List.setIfInBounds_toArray, List.set_cons_zero, List.set_cons_succ, i64_w, i32_w]; rfl)
  refine pure_ (i := 10) (N := some 17) (v := ?_) (a' := ?_) (bs 15 1407) rfl rfl (by kernel_rfl) (fun _ _ _ h => h) (Or.inl ⟨by rfl, ?_⟩) ?_ ?_; rotate_left; (· intro w'; go_simp; first | done | with_reducible rfl); rotate_left; (· simp only [Act.put, List.setIfInBounds_toArray, List.set_cons_zero, List.set_cons_succ, i64_w, i32_w]; rfl)
  refine one_ (i := 7) (N := some 14) (bs 15 1535) rfl rfl (by kernel_rfl) (by decide) (fun K hK => ?_)
  refine goes_ Try.func129 (by kernel_rfl) rfl #[.pointer (some ⟨gy, 0, none⟩), .pointer (some ⟨gz, 0, none⟩)] (by rfl) rfl rfl (by simp only [List.map_toArray, List.map_cons, List.map_nil]; rfl) ?_
  with_reducible refine (prod_n gy 0 gz 0 p.num q.num n m w.drew (HX.out.2.1.num.below hb0) (HX.out.2.2.num.below hb0) (by omega)).mono ?_
  rintro e w4 ⟨g4, hg4, rfl, hb4, hN4⟩
  refine ⟨_, rfl, ?_⟩
  have hb4' := below_drew' hb4
  have H4 := Aside0.mk (And.intro hb4' hN4)
  clear hb4 hN4 hb4'
  refine hK.out _ _ trivial (fun hHeld => ?_)
  clear hK K
  refine norm_ (a' := ?_) ?_ ?_; rotate_left; (· show Act.put _ (some 14) _ = _; simp only [Act.put, List.setIfInBounds_toArray, List.set_cons_zero, List.set_cons_succ, i64_w, i32_w]; rfl)
  refine one_ (i := 9) (N := some 16) (bs 15 2047) rfl rfl (by kernel_rfl) (by decide) (fun K hK => ?_)
  refine goes_ Try.func130 (by kernel_rfl) rfl #[.pointer (some ⟨gy, 0, none⟩)] (by rfl) rfl rfl (by simp only [List.map_toArray, List.map_cons, List.map_nil]; rfl) ?_
  with_reducible refine (down_n gy _ n w4 (HX.out.2.1.den.below H4.out.1) (den0 p)).mono ?_
  rintro e w5 ⟨rfl, rfl⟩
  refine ⟨_, rfl, ?_⟩
  refine hK.out _ _ trivial (fun hHeld => ?_)
  clear hK K
  refine norm_ (a' := ?_) ?_ ?_; rotate_left; (· show Act.put _ (some 16) _ = _; simp only [Act.put, List.setIfInBounds_toArray, List.set_cons_zero, List.set_cons_succ, i64_w, i32_w]; rfl)
  refine one_ (i := 11) (N := some 18) (bs 15 4095) rfl rfl (by kernel_rfl) (by decide) (fun K hK => ?_)
  refine goes_ Try.func130 (by kernel_rfl) rfl #[.pointer (some ⟨gz, 0, none⟩)] (by rfl) rfl rfl (by simp only [List.map_toArray, List.map_cons, List.map_nil]; rfl) ?_
  with_reducible refine (down_n gz _ m w4 (HX.out.2.2.den.below H4.out.1) (den0 q)).mono ?_
  rintro e w5 ⟨rfl, rfl⟩
  refine ⟨_, rfl, ?_⟩
  refine hK.out _ _ trivial (fun hHeld => ?_)
  clear hK K
  refine norm_ (a' := ?_) ?_ ?_; rotate_left; (· show Act.put _ (some 18) _ = _; simp only [Act.put, List.setIfInBounds_toArray, List.set_cons_zero, List.set_cons_succ, i64_w, i32_w]; rfl)
  refine one_ (i := 12) (N := some 19) (bs 15 8191) rfl rfl (by kernel_rfl) (by decide) (fun K hK => ?_)
  refine goes_ Try.func129 (by kernel_rfl) rfl #[.pointer (some ⟨gy, 2, none⟩), .pointer (some ⟨gz, 2, none⟩)] (by rfl) rfl rfl (by simp only [List.map_toArray, List.map_cons, List.map_nil]; rfl) ?_
  with_reducible refine (prod_n gy 2 gz 2 p.den q.den n m w4 (HX.out.2.1.den.below H4.out.1) (HX.out.2.2.den.below H4.out.1) (by omega)).mono ?_
  rintro e w5 ⟨g5, hg5, rfl, hb5, hN5⟩
  refine ⟨_, rfl, ?_⟩
  have H5 := Aside0.mk (And.intro (H4.out.1.trans (hb5.mono H4.out.1.size)) (And.intro (H4.out.2.below hb5) hN5))
  clear hb5 hN5
  refine hK.out _ _ trivial (fun hHeld => ?_)
  clear hK K
  refine norm_ (a' := ?_) ?_ ?_; rotate_left; (· show Act.put _ (some 19) _ = _; simp only [Act.put, List.setIfInBounds_toArray, List.set_cons_zero, List.set_cons_succ, i64_w, i32_w]; rfl)
  refine one_ (i := 13) (N := some 20) (bs 15 16383) rfl rfl (by kernel_rfl) (by decide) (fun K hK => ?_)
  refine goes_ Try.func156 (by kernel_rfl) rfl #[.pointer (some ⟨gx, 0, none⟩), .pointer (some ⟨g4, 0, none⟩), .pointer (some ⟨g5, 0, none⟩)] (by rfl) rfl rfl (by simp only [List.map_toArray, List.map_cons, List.map_nil]; rfl) ?_
  with_reducible refine (setQ_n gx g4 0 g5 0 (p.num * q.num) ((p.den : Int) * (q.den : Int)) (n + m) B w5 (HX.out.1.1.below H5.out.1) (HX.out.1.2.below H5.out.1) H5.out.2.1 H5.out.2.2 (Int.mul_ne_zero (den0 p) (den0 q)) (by omega) hB).mono ?_
  rintro e w6 ⟨rfl, hb6, hQ6⟩
  refine ⟨_, rfl, ?_⟩
  rw [qq_mul] at hQ6
  have H6 := Aside0.mk (And.intro hb6 hQ6)
  clear hb6 hQ6
  refine hK.out _ _ trivial (fun hHeld => ?_)
  clear hK K
  refine norm_ (a' := ?_) ?_ ?_; rotate_left; (· show Act.put _ (some 20) _ = _; simp only [Act.put, List.setIfInBounds_toArray, List.set_cons_zero, List.set_cons_succ, i64_w, i32_w]; rfl)
  refine pure_ (i := 14) (N := some 6) (v := ?_) (a' := ?_) (bs 15 32767) rfl rfl (by kernel_rfl) (fun _ _ _ h => h) (Or.inl ⟨by rfl, ?_⟩) ?_ ?_; rotate_left; (· intro w'; go_simp; first | done | with_reducible rfl); rotate_left; (· simp only [Act.put, List.setIfInBounds_toArray, List.set_cons_zero, List.set_cons_succ, i64_w, i32_w]; rfl)
  refine done_ (by kernel_rfl) ?_
  go_wp2_with fail
  go_ret
  exact ⟨rfl, (H5.out.1.mono (by omega)).trans H6.out.1, H6.out.2⟩
set_option maxHeartbeats 4000000 in
set_option maxRecDepth 100000 in
theorem addQ_n (gx gy gz : Nat) (p q : Rat) (n m B : Nat) (w : World) (hx0 : Room w gx 0) (hx2 : Room w gx 2) (hy : RQ w gy p n) (hz : RQ w gz q m) (hl : n + m ≤ 400) (hB : B ≤ gx) :
    Calls Try.prog 131 #[.pointer (some ⟨gx, 0, none⟩), .pointer (some ⟨gy, 0, none⟩), .pointer (some ⟨gz, 0, none⟩)] w (QS w gx (p + q) (n + m + 1) B) := by
  have HX := Aside0.mk (And.intro (And.intro hx0 hx2) (And.intro hy hz))
  have hgx := hx0.lt
  clear hx0 hx2 hy hz
  go_enter Try.func131, Try.ntmps131
  go_wp2_with fail
  have hb0 : Below w.heap.size w w.drew := below_drew' (Below.refl _ _)
  refine start_ (n := 7) (S := fun w' => True) (ds := []) (bs 7 0) (by kernel_rfl) rfl rfl trivial (fun hHeld => ?_)
  refine pure_ (i := 0) (N := some 8) (v := ?_) (a' := ?_) (bs 7 1) rfl rfl (by kernel_rfl) (fun _ _ _ h => h) (Or.inl ⟨by rfl, ?_⟩) ?_ ?_; rotate_left; (· intro w'; go_simp; first | done | with_reducible rfl); rotate_left; (· simp only [Act.put, List.setIfInBounds_toArray, List.set_cons_zero, List.set_cons_succ, i64_w, i32_w]; rfl)
  refine pure_ (i := 1) (N := some 9) (v := ?_) (a' := ?_) (bs 7 3) rfl rfl (by kernel_rfl) (fun _ _ _ h => h) (Or.inl ⟨by rfl, ?_⟩) ?_ ?_; rotate_left; (· intro w'; go_simp; first | done | with_reducible rfl); rotate_left; (· simp only [Act.put, List.setIfInBounds_toArray, List.set_cons_zero, List.set_cons_succ, i64_w, i32_w]; rfl)
  refine pure_ (i := 2) (N := some 10) (v := ?_) (a' := ?_) (bs 7 7) rfl rfl (by kernel_rfl) (fun _ _ _ h => h) (Or.inl ⟨by rfl, ?_⟩) ?_ ?_; rotate_left; (· intro w'; go_simp; first | done | with_reducible rfl); rotate_left; (· simp only [Act.put, List.setIfInBounds_toArray, List.set_cons_zero, List.set_cons_succ, i64_w, i32_w]; rfl)
  refine pure_ (i := 3) (N := some 11) (v := ?_) (a' := ?_) (bs 7 15) rfl rfl (by kernel_rfl) (fun _ _ _ h => h) (Or.inl ⟨by rfl, ?_⟩) ?_ ?_; rotate_left; (· intro w'; go_simp; first | done | with_reducible rfl); rotate_left; (· simp only [Act.put, List.setIfInBounds_toArray, List.set_cons_zero, List.set_cons_succ, i64_w, i32_w]; rfl)
  refine one_ (i := 4) (N := some 12) (bs 7 31) rfl rfl (by kernel_rfl) (by decide) (fun K hK => ?_)
  refine goes_ Try.func130 (by kernel_rfl) rfl #[.pointer (some ⟨gz, 0, none⟩)] (by rfl) rfl rfl (by simp only [List.map_toArray, List.map_cons, List.map_nil]; rfl) ?_
  with_reducible refine (down_n gz _ m w.drew (HX.out.2.2.den.below hb0) (den0 q)).mono ?_
  rintro e w4 ⟨rfl, rfl⟩
  refine ⟨_, rfl, ?_⟩
  refine hK.out _ _ trivial (fun hHeld => ?_)
  clear hK K
  refine norm_ (a' := ?_) ?_ ?_; rotate_left; (· show Act.put _ (some 12) _ = _; simp only [Act.put, List.setIfInBounds_toArray, List.set_cons_zero, List.set_cons_succ, i64_w, i32_w]; rfl)
  refine one_ (i := 5) (N := some 13) (bs 7 63) rfl rfl (by kernel_rfl) (by decide) (fun K hK => ?_)
  refine goes_ Try.func129 (by kernel_rfl) rfl #[.pointer (some ⟨gy, 0, none⟩), .pointer (some ⟨gz, 2, none⟩)] (by rfl) rfl rfl (by simp only [List.map_toArray, List.map_cons, List.map_nil]; rfl) ?_
  with_reducible refine (prod_n gy 0 gz 2 p.num q.den n m w.drew (HX.out.2.1.num.below hb0) (HX.out.2.2.den.below hb0) (by omega)).mono ?_
  rintro e w4 ⟨g4, hg4, rfl, hb4, hN4⟩
  refine ⟨_, rfl, ?_⟩
  have hb4' := below_drew' hb4
  have H4 := Aside0.mk (And.intro hb4' hN4)
  have hg4' : w.heap.size ≤ g4 := hg4
  clear hb4 hN4 hb4' hg4
  refine hK.out _ _ trivial (fun hHeld => ?_)
  clear hK K
  refine norm_ (a' := ?_) ?_ ?_; rotate_left; (· show Act.put _ (some 13) _ = _; simp only [Act.put, List.setIfInBounds_toArray, List.set_cons_zero, List.set_cons_succ, i64_w, i32_w]; rfl)
  refine pure_ (i := 6) (N := some 7) (v := ?_) (a' := ?_) (bs 7 127) rfl rfl (by kernel_rfl) (fun _ _ _ h => h) (Or.inl ⟨by rfl, ?_⟩) ?_ ?_; rotate_left; (· intro w'; go_simp; first | done | with_reducible rfl); rotate_left; (· simp only [Act.put, List.setIfInBounds_toArray, List.set_cons_zero, List.set_cons_succ, i64_w, i32_w]; rfl)
  refine done_ (by kernel_rfl) ?_
  go_wp2_with fail
  have hb1 : Below w4.heap.size w4 w4.drew := below_drew' (Below.refl _ _)
  have hbw := H4.out.1.trans (hb1.mono H4.out.1.size)
  have K4 := Aside0.mk (And.intro hbw (H4.out.2.below hb1))
  have hlt4 := H4.out.2.lt
  clear hb0 hb1 hbw
  refine start_ (n := 9) (S := fun w' => True) (ds := []) (bs 9 0) (by kernel_rfl) rfl rfl trivial (fun hHeld => ?_)
  refine pure_ (i := 0) (N := some 14) (v := ?_) (a' := ?_) (bs 9 1) rfl rfl (by kernel_rfl) (fun _ _ _ h => h) (Or.inl ⟨by rfl, ?_⟩) ?_ ?_; rotate_left; (· intro w'; go_simp; first | done | with_reducible rfl); rotate_left; (· simp only [Act.put, List.setIfInBounds_toArray, List.set_cons_zero, List.set_cons_succ, i64_w, i32_w]; rfl)
  refine pure_ (i := 1) (N := some 15) (v := ?_) (a' := ?_) (bs 9 3) rfl rfl (by kernel_rfl) (fun _ _ _ h => h) (Or.inl ⟨by rfl, ?_⟩) ?_ ?_; rotate_left; (· intro w'; go_simp; first | done | with_reducible rfl); rotate_left; (· simp only [Act.put, List.setIfInBounds_toArray, List.set_cons_zero, List.set_cons_succ, i64_w, i32_w]; rfl)
  refine pure_ (i := 2) (N := some 16) (v := ?_) (a' := ?_) (bs 9 7) rfl rfl (by kernel_rfl) (fun _ _ _ h => h) (Or.inl ⟨by rfl, ?_⟩) ?_ ?_; rotate_left; (· intro w'; go_simp; first | done | with_reducible rfl); rotate_left; (· simp only [Act.put, List.setIfInBounds_toArray, List.set_cons_zero, List.set_cons_succ, i64_w, i32_w]; rfl)
  refine pure_ (i := 3) (N := some 17) (v := ?_) (a' := ?_) (bs 9 15) rfl rfl (by kernel_rfl) (fun _ _ _ h => h) (Or.inl ⟨by rfl, ?_⟩) ?_ ?_; rotate_left; (· intro w'; go_simp; first | done | with_reducible rfl); rotate_left; (· simp only [Act.put, List.setIfInBounds_toArray, List.set_cons_zero, List.set_cons_succ, i64_w, i32_w]; rfl)
  refine pure_ (i := 4) (N := some 18) (v := ?_) (a' := ?_) (bs 9 31) rfl rfl (by kernel_rfl) (fun _ _ _ h => h) (Or.inl ⟨by rfl, ?_⟩) ?_ ?_; rotate_left; (· intro w'; go_simp; first | done | with_reducible rfl); rotate_left; (· simp only [Act.put, List.setIfInBounds_toArray, List.set_cons_zero, List.set_cons_succ, i64_w, i32_w]; rfl)
  refine pure_ (i := 5) (N := some 19) (v := ?_) (a' := ?_) (bs 9 63) rfl rfl (by kernel_rfl) (fun _ _ _ h => h) (Or.inl ⟨by rfl, ?_⟩) ?_ ?_; rotate_left; (· intro w'; go_simp; first | done | with_reducible rfl); rotate_left; (· simp only [Act.put, List.setIfInBounds_toArray, List.set_cons_zero, List.set_cons_succ, i64_w, i32_w]; rfl)
  refine one_ (i := 6) (N := some 20) (bs 9 127) rfl rfl (by kernel_rfl) (by decide) (fun K hK => ?_)
  refine goes_ Try.func130 (by kernel_rfl) rfl #[.pointer (some ⟨gy, 0, none⟩)] (by rfl) rfl rfl (by simp only [List.map_toArray, List.map_cons, List.map_nil]; rfl) ?_
  with_reducible refine (down_n gy _ n w4.drew (HX.out.2.1.den.below K4.out.1) (den0 p)).mono ?_
  rintro e w5 ⟨rfl, rfl⟩
  refine ⟨_, rfl, ?_⟩
  refine hK.out _ _ trivial (fun hHeld => ?_)
  clear hK K
  refine norm_ (a' := ?_) ?_ ?_; rotate_left; (· show Act.put _ (some 20) _ = _; simp only [Act.put, List.setIfInBounds_toArray, List.set_cons_zero, List.set_cons_succ, i64_w, i32_w]; rfl)
  refine one_ (i := 7) (N := some 21) (bs 9 255) rfl rfl (by kernel_rfl) (by decide) (fun K hK => ?_)
  refine goes_ Try.func129 (by kernel_rfl) rfl #[.pointer (some ⟨gz, 0, none⟩), .pointer (some ⟨gy, 2, none⟩)] (by rfl) rfl rfl (by simp only [List.map_toArray, List.map_cons, List.map_nil]; rfl) ?_
  with_reducible refine (prod_n gz 0 gy 2 q.num p.den m n w4.drew (HX.out.2.2.num.below K4.out.1) (HX.out.2.1.den.below K4.out.1) (by omega)).mono ?_
  rintro e w5 ⟨g5, hg5, rfl, hb5, hN5⟩
  refine ⟨_, rfl, ?_⟩
  have H5 := Aside0.mk (And.intro (K4.out.1.trans (hb5.mono K4.out.1.size)) (And.intro (K4.out.2.below hb5) hN5))
  clear hb5 hN5
  refine hK.out _ _ trivial (fun hHeld => ?_)
  clear hK K
  refine norm_ (a' := ?_) ?_ ?_; rotate_left; (· show Act.put _ (some 21) _ = _; simp only [Act.put, List.setIfInBounds_toArray, List.set_cons_zero, List.set_cons_succ, i64_w, i32_w]; rfl)
  refine one_ (i := 8) (N := some 22) (bs 9 511) rfl rfl (by kernel_rfl) (by decide) (fun K hK => ?_)
  refine goes_ Try.func63 (by kernel_rfl) rfl #[.pointer (some ⟨g4, 0, none⟩), .pointer (some ⟨g4, 0, none⟩), .pointer (some ⟨g5, 0, none⟩)] (by rfl) rfl rfl (by simp only [List.map_toArray, List.map_cons, List.map_nil]; rfl) ?_
  with_reducible refine (add_n g4 0 g4 0 g5 0 (p.num * (q.den : Int)) (q.num * (p.den : Int)) (n + m) (m + n) w5 H5.out.2.1.room H5.out.2.1 H5.out.2.2.w (by omega)).mono ?_
  rintro e w6 ⟨rfl, hw6, hN6⟩
  refine ⟨_, rfl, ?_⟩
  have H6 := Aside0.mk (And.intro (show Below w.heap.size w w6 from H5.out.1.trans (hw6.below hg4' H5.out.1.size)) (hN6.mono (m := n + m + 1) (by omega)))
  clear hw6 hN6
  refine hK.out _ _ trivial (fun hHeld => ?_)
  clear hK K
  refine norm_ (a' := ?_) ?_ ?_; rotate_left; (· show Act.put _ (some 22) _ = _; simp only [Act.put, List.setIfInBounds_toArray, List.set_cons_zero, List.set_cons_succ, i64_w, i32_w]; rfl)
  refine done_ (by kernel_rfl) ?_
  go_wp2_with fail
  refine (down_n gy _ n w6 (HX.out.2.1.den.below H6.out.1) (den0 p)).mono ?_
  rintro e w7 ⟨rfl, rfl⟩
  go_wp2_with fail
  refine (down_n gz _ m w6 (HX.out.2.2.den.below H6.out.1) (den0 q)).mono ?_
  rintro e w7 ⟨rfl, rfl⟩
  go_wp2_with fail
  refine (prod_n gy 2 gz 2 p.den q.den n m w6 (HX.out.2.1.den.below H6.out.1) (HX.out.2.2.den.below H6.out.1) (by omega)).mono ?_
  rintro e w7 ⟨g7, hg7, rfl, hb7, hN7⟩
  have H7 := Aside0.mk (And.intro (H6.out.1.trans (hb7.mono H6.out.1.size)) (And.intro (H6.out.2.below hb7) hN7))
  clear hb7 hN7
  go_wp2_with fail
  refine (setQ_n gx g4 0 g7 0 (p.num * (q.den : Int) + q.num * (p.den : Int)) ((p.den : Int) * (q.den : Int)) (n + m + 1) B w7 (HX.out.1.1.below H7.out.1) (HX.out.1.2.below H7.out.1) H7.out.2.1 (H7.out.2.2.mono (by omega)) (Int.mul_ne_zero (den0 p) (den0 q)) (by omega) hB).mono ?_
  rintro e w8 ⟨rfl, hb8, hQ8⟩
  rw [qq_add] at hQ8
  have H8 := Aside0.mk (And.intro hb8 hQ8)
  clear hb8 hQ8
  go_wp2_with fail
  go_ret
  exact ⟨rfl, (H7.out.1.mono (by omega)).trans H8.out.1, H8.out.2⟩
set_option maxHeartbeats 4000000 in
set_option maxRecDepth 100000 in
theorem cmpQ_n (gy gz : Nat) (p q : Rat) (n m : Nat) (w : World) (hy : RQ w gy p n) (hz : RQ w gz q m) (hl : n + m ≤ 400) :
    Calls Try.prog 81 #[.pointer (some ⟨gy, 0, none⟩), .pointer (some ⟨gz, 0, none⟩)] w (ValP w (.int .i64 (cmpQ p q))) := by
  have HX := Aside0.mk (And.intro hy hz)
  have HV := Aside0.mk (cmp_q p q)
  generalize cmpQ p q = V at *
  clear hy hz
  go_enter Try.func81, Try.ntmps81
  go_wp2_with fail
  have hb0 : Below w.heap.size w w.drew := below_drew' (Below.refl _ _)
  refine start_ (n := 14) (S := fun w' => True) (ds := []) (bs 14 0) (by kernel_rfl) rfl rfl trivial (fun hHeld => ?_)
  refine pure_ (i := 0) (N := some 5) (v := ?_) (a' := ?_) (bs 14 1) rfl rfl (by kernel_rfl) (fun _ _ _ h => h) (Or.inl ⟨by rfl, ?_⟩) ?_ ?_; rotate_left; (· intro w'; go_simp; first | done | with_reducible rfl); rotate_left; (· simp only [Act.put, List.setIfInBounds_toArray, List.set_cons_zero, List.set_cons_succ, i64_w, i32_w]; rfl)
  refine pure_ (i := 1) (N := some 6) (v := ?_) (a' := ?_) (bs 14 3) rfl rfl (by kernel_rfl) (fun _ _ _ h => h) (Or.inl ⟨by rfl, ?_⟩) ?_ ?_; rotate_left; (· intro w'; go_simp; first | done | with_reducible rfl); rotate_left; (· simp only [Act.put, List.setIfInBounds_toArray, List.set_cons_zero, List.set_cons_succ, i64_w, i32_w]; rfl)
  refine pure_ (i := 2) (N := some 7) (v := ?_) (a' := ?_) (bs 14 7) rfl rfl (by kernel_rfl) (fun _ _ _ h => h) (Or.inl ⟨by rfl, ?_⟩) ?_ ?_; rotate_left; (· intro w'; go_simp; first | done | with_reducible rfl); rotate_left; (· simp only [Act.put, List.setIfInBounds_toArray, List.set_cons_zero, List.set_cons_succ, i64_w, i32_w]; rfl)
  refine pure_ (i := 3) (N := some 8) (v := ?_) (a' := ?_) (bs 14 15) rfl rfl (by kernel_rfl) (fun _ _ _ h => h) (Or.inl ⟨by rfl, ?_⟩) ?_ ?_; rotate_left; (· intro w'; go_simp; first | done | with_reducible rfl); rotate_left; (· simp only [Act.put, List.setIfInBounds_toArray, List.set_cons_zero, List.set_cons_succ, i64_w, i32_w]; rfl)
  refine pure_ (i := 6) (N := some 11) (v := ?_) (a' := ?_) (bs 14 79) rfl rfl (by kernel_rfl) (fun _ _ _ h => h) (Or.inl ⟨by rfl, ?_⟩) ?_ ?_; rotate_left; (· intro w'; go_simp; first | done | with_reducible rfl); rotate_left; (· simp only [Act.put, List.setIfInBounds_toArray, List.set_cons_zero, List.set_cons_succ, i64_w, i32_w]; rfl)
  refine pure_ (i := 7) (N := some 12) (v := ?_) (a' := ?_) (bs 14 207) rfl rfl (by kernel_rfl) (fun _ _ _ h => h) (Or.inl ⟨by rfl, ?_⟩) ?_ ?_; rotate_left; (· intro w'; go_simp; first | done | with_reducible rfl); rotate_left; (· simp only [Act.put, List.setIfInBounds_toArray, List.set_cons_zero, List.set_cons_succ, i64_w, i32_w]; rfl)
  refine pure_ (i := 8) (N := some 13) (v := ?_) (a' := ?_) (bs 14 463) rfl rfl (by kernel_rfl) (fun _ _ _ h => h) (Or.inl ⟨by rfl, ?_⟩) ?_ ?_; rotate_left; (· intro w'; go_simp; first | done | with_reducible rfl); rotate_left; (· simp only [Act.put, List.setIfInBounds_toArray, List.set_cons_zero, List.set_cons_succ, i64_w, i32_w]; rfl)
  refine pure_ (i := 9) (N := some 14) (v := ?_) (a' := ?_) (bs 14 975) rfl rfl (by kernel_rfl) (fun _ _ _ h => h) (Or.inl ⟨by rfl, ?_⟩) ?_ ?_; rotate_left; (· intro w'; go_simp; first | done | with_reducible rfl); rotate_left; (· simp only [Act.put, List.setIfInBounds_toArray, List.set_cons_zero, List.set_cons_succ, i64_w, i32_w]; rfl)
  refine one_ (i := 4) (N := some 9) (bs 14 991) rfl rfl (by kernel_rfl) (by decide) (fun K hK => ?_)
  refine goes_ Try.func130 (by kernel_rfl) rfl #[.pointer (some ⟨gz, 0, none⟩)] (by rfl) rfl rfl (by simp only [List.map_toArray, List.map_cons, List.map_nil]; rfl) ?_
  with_reducible refine (down_n gz _ m w.drew (HX.out.2.den.below hb0) (den0 q)).mono ?_
  rintro e w4 ⟨rfl, rfl⟩
  refine ⟨_, rfl, ?_⟩
  refine hK.out _ _ trivial (fun hHeld => ?_)
  clear hK K
  refine norm_ (a' := ?_) ?_ ?_; rotate_left; (· show Act.put _ (some 9) _ = _; simp only [Act.put, List.setIfInBounds_toArray, List.set_cons_zero, List.set_cons_succ, i64_w, i32_w]; rfl)
  refine one_ (i := 5) (N := some 10) (bs 14 1023) rfl rfl (by kernel_rfl) (by decide) (fun K hK => ?_)
  refine goes_ Try.func129 (by kernel_rfl) rfl #[.pointer (some ⟨gy, 0, none⟩), .pointer (some ⟨gz, 2, none⟩)] (by rfl) rfl rfl (by simp only [List.map_toArray, List.map_cons, List.map_nil]; rfl) ?_
  with_reducible refine (prod_n gy 0 gz 2 p.num q.den n m w.drew (HX.out.1.num.below hb0) (HX.out.2.den.below hb0) (by omega)).mono ?_
  rintro e w4 ⟨g4, hg4, rfl, hb4, hN4⟩
  refine ⟨_, rfl, ?_⟩
  have hb4' := below_drew' hb4
  have H4 := Aside0.mk (And.intro hb4' hN4)
  clear hb4 hN4 hb4' hg4
  refine hK.out _ _ trivial (fun hHeld => ?_)
  clear hK K
  refine norm_ (a' := ?_) ?_ ?_; rotate_left; (· show Act.put _ (some 10) _ = _; simp only [Act.put, List.setIfInBounds_toArray, List.set_cons_zero, List.set_cons_succ, i64_w, i32_w]; rfl)
  refine one_ (i := 10) (N := some 15) (bs 14 2047) rfl rfl (by kernel_rfl) (by decide) (fun K hK => ?_)
  refine goes_ Try.func130 (by kernel_rfl) rfl #[.pointer (some ⟨gy, 0, none⟩)] (by rfl) rfl rfl (by simp only [List.map_toArray, List.map_cons, List.map_nil]; rfl) ?_
  with_reducible refine (down_n gy _ n w4 (HX.out.1.den.below H4.out.1) (den0 p)).mono ?_
  rintro e w5 ⟨rfl, rfl⟩
  refine ⟨_, rfl, ?_⟩
  refine hK.out _ _ trivial (fun hHeld => ?_)
  clear hK K
  refine norm_ (a' := ?_) ?_ ?_; rotate_left; (· show Act.put _ (some 15) _ = _; simp only [Act.put, List.setIfInBounds_toArray, List.set_cons_zero, List.set_cons_succ, i64_w, i32_w]; rfl)
  refine one_ (i := 11) (N := some 16) (bs 14 4095) rfl rfl (by kernel_rfl) (by decide) (fun K hK => ?_)
  refine goes_ Try.func129 (by kernel_rfl) rfl #[.pointer (some ⟨gz, 0, none⟩), .pointer (some ⟨gy, 2, none⟩)] (by rfl) rfl rfl (by simp only [List.map_toArray, List.map_cons, List.map_nil]; rfl) ?_
  with_reducible refine (prod_n gz 0 gy 2 q.num p.den m n w4 (HX.out.2.num.below H4.out.1) (HX.out.1.den.below H4.out.1) (by omega)).mono ?_
  rintro e w5 ⟨g5, hg5, rfl, hb5, hN5⟩
  refine ⟨_, rfl, ?_⟩
  have H5 := Aside0.mk (And.intro (H4.out.1.trans (hb5.mono H4.out.1.size)) (And.intro (H4.out.2.below hb5) hN5))
  clear hb5 hN5
  refine hK.out _ _ trivial (fun hHeld => ?_)
  clear hK K
  refine norm_ (a' := ?_) ?_ ?_; rotate_left; (· show Act.put _ (some 16) _ = _; simp only [Act.put, List.setIfInBounds_toArray, List.set_cons_zero, List.set_cons_succ, i64_w, i32_w]; rfl)
  refine one_ (i := 12) (N := some 17) (bs 14 8191) rfl rfl (by kernel_rfl) (by decide) (fun K hK => ?_)
  refine goes_ Try.func66 (by kernel_rfl) rfl #[.pointer (some ⟨g4, 0, none⟩), .pointer (some ⟨g5, 0, none⟩)] (by rfl) rfl rfl (by simp only [List.map_toArray, List.map_cons, List.map_nil]; rfl) ?_
  with_reducible refine (cmp_n g4 0 g5 0 (p.num * (q.den : Int)) (q.num * (p.den : Int)) (n + m) (m + n) w5 H5.out.2.1 H5.out.2.2 (by omega)).mono ?_
  rintro e w6 ⟨rfl, hb6⟩
  refine ⟨_, rfl, ?_⟩
  rw [HV.out]
  have H6 := Aside0.mk (H5.out.1.trans (hb6.mono H5.out.1.size))
  clear hb6
  refine hK.out _ _ trivial (fun hHeld => ?_)
  clear hK K
  refine norm_ (a' := ?_) ?_ ?_; rotate_left; (· show Act.put _ (some 17) _ = _; simp only [Act.put, List.setIfInBounds_toArray, List.set_cons_zero, List.set_cons_succ, i64_w, i32_w]; rfl)
  refine pure_ (i := 13) (N := some 4) (v := ?_) (a' := ?_) (bs 14 16383) rfl rfl (by kernel_rfl) (fun _ _ _ h => h) (Or.inl ⟨by rfl, ?_⟩) ?_ ?_; rotate_left; (· intro w'; go_simp; first | done | with_reducible rfl); rotate_left; (· simp only [Act.put, List.setIfInBounds_toArray, List.set_cons_zero, List.set_cons_succ, i64_w, i32_w]; rfl)
  refine done_ (by kernel_rfl) ?_
  go_wp2_with fail
  go_ret
  exact ⟨rfl, H6.out⟩
set_option maxHeartbeats 4000000 in
theorem isInt_n (gy : Nat) (p : Rat) (n : Nat) (w : World) (hy : RQ w gy p n) (hl : n ≤ 400) :
    Calls Try.prog 126 #[.pointer (some ⟨gy, 0, none⟩)] w (ValP w (.bool (decide (p.den = 1)))) := by
  have HX := Aside0.mk hy
  have hres : (cmpI (p.den : Int) 1 == 0) = decide (p.den = 1) := by
    have := p.den_pos
    rw [Bool.eq_iff_iff]
    simp only [beq_iff_eq, decide_eq_true_eq]
    unfold cmpI
    by_cases h : p.den = 1
    · rw [if_neg (by omega), if_neg (by omega)]; simp [h]
    · rw [if_neg (by omega), if_pos (by omega)]; simp [h]
  have HR := Aside0.mk hres
  clear hy hres
  generalize decide (p.den = 1) = V at *
  go_enter Try.func126, Try.ntmps126
  go_wp2_with fail
  refine (down_n gy _ n w HX.out.den (den0 p)).mono ?_
  rintro e w2 ⟨rfl, rfl⟩
  go_wp2_with fail
  refine (newInt_n 1 w (by decide) (by decide)).mono ?_
  rintro e w3 ⟨g3, hg3, rfl, hb3, hN3⟩
  have H3 := Aside0.mk (And.intro hb3 hN3)
  clear hb3 hN3
  go_wp2_with fail
  refine (cmp_n gy 2 g3 0 p.den 1 n 2 w3 (HX.out.den.below H3.out.1) H3.out.2 (by omega)).mono ?_
  rintro e w4 ⟨rfl, hb4⟩
  have H4 := Aside0.mk (H3.out.1.trans (hb4.mono H3.out.1.size))
  clear hb4
  go_wp2_with fail
  go_ret
  exact ⟨ret_b HR.out, H4.out⟩
end Go.Proofs.Ytpbhepdgamoiaaa.Rf

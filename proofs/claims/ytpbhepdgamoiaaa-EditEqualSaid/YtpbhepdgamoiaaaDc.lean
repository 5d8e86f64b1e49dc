/-
  Limbs divided by two limbs and more: the walk of num.divMag.
-/
import Derived.Test.YtpbhepdgamoiaaaDb
namespace Go.Proofs.Ytpbhepdgamoiaaa.Dc
open Go.RowKit Go Go.Proofs.YtpbhepdgamoiaaaW.PrintWords Go.Proofs.YtpbhepdgamoiaaaW.PrintLast Go.Proofs.YtpbhepdgamoiaaaW.PrintMore Go.Proofs.Ytpbhepdgamoiaaa.Ml Go.Proofs.Ytpbhepdgamoiaaa.Mn Go.Proofs.Ytpbhepdgamoiaaa.Nd Go.Proofs.Ytpbhepdgamoiaaa.P Go.Proofs.Ytpbhepdgamoiaaa.Nc Go.Proofs.Ytpbhepdgamoiaaa.Nb Go.Proofs.Ytpbhepdgamoiaaa.Ns Go.Proofs.Ytpbhepdgamoiaaa.Nk Go.Proofs.Ytpbhepdgamoiaaa.Ng Go.Proofs.Ytpbhepdgamoiaaa.Lz Go.Proofs.Ytpbhepdgamoiaaa.Da Go.Proofs.Ytpbhepdgamoiaaa.Db
set_option linter.unusedVariables false
set_option linter.unusedSimpArgs false

/-- Three rows of limbs in blocks of their own. -/
structure Tri (w W : World) (gu N cu : Nat) (U : List Int) (gv n cv : Nat) (V : List Int) (go m co : Nat) (Q : List Int) : Prop where
  u : Kd.R (Kd.int .u32) 157 W 0 (fun _ => True) (.slice (some ⟨gu, 0, none⟩) N cu) U
  v : Kd.R (Kd.int .u32) 157 W 0 (fun _ => True) (.slice (some ⟨gv, 0, none⟩) n cv) V
  q : Kd.R (Kd.int .u32) 157 W 0 (fun _ => True) (.slice (some ⟨go, 0, none⟩) m co) Q
  b : Below w.heap.size w W
theorem far_put {e g n c g2 i : Nat} {xs : List Int} {W : World} {x : Value} (h : Kd.R (Kd.int .u32) e W 0 (fun _ => True) (.slice (some ⟨g, 0, none⟩) n c) xs) (hne : g ≠ g2) : Kd.R (Kd.int .u32) e (W.setCell ⟨g2, i, none⟩ x) 0 (fun _ => True) (.slice (some ⟨g, 0, none⟩) n c) xs := by
  refine Kd.R_mono (ok := fun k => k = g) (Kd.R_far (p := ⟨g2, i, none⟩) (Kd.R_mono (Kd.R_tight rfl h) (fun k hk => ?_)) (fun k hk => ?_) _) (fun _ _ => trivial)
  · simpa [Value.ownBlock] using hk
  · rw [hk]; exact hne
theorem Tri.put {w W : World} {gu N cu gv n cv go m co : Nat} {U V Q : List Int} (h : Tri w W gu N cu U gv n cv V go m co Q) (h1 : gu ≠ go) (h2 : gv ≠ go) (h3 : w.heap.size ≤ go) (i : Nat) (x : Int) : Tri w (W.setCell ⟨go, i, none⟩ (.int .u32 x)) gu N cu U gv n cv V go m co (Q.set i x) :=
  ⟨far_put h.u h1, far_put h.v h2, own_put h.q i x, h.b.setCell h3 _⟩
theorem Tri.drewN {w W : World} {gu N cu gv n cv go m co : Nat} {U V Q : List Int} (h : Tri w W gu N cu U gv n cv V go m co Q) (k : Nat) : Tri w (W.drewN k) gu N cu U gv n cv V go m co Q :=
  ⟨Kd.R_drewN h.u k, Kd.R_drewN h.v k, Kd.R_drewN h.q k, pw_below_drewN h.b k⟩
theorem Tri.two {w W : World} {gu N cu gv n cv go m co : Nat} {U V Q P Z Y : List Int} (h : Tri w W gu N cu U gv n cv V go m co Q) (e : U = P ++ (Y ++ Z)) : Two W W gu gv N cu n cv P Z Y V :=
  ⟨by rw [← e]; exact h.u, h.v, grown_of_below (Below.refl _ _) _⟩
theorem Tri.dug {w W W2 : World} {gu N cu gv n cv go m co : Nat} {U V Q P Z Y : List Int} (h : Tri w W gu N cu U gv n cv V go m co Q) (h2 : Two W W2 gu gv N cu n cv P Z Y V) (h1 : go ≠ gu) (h3 : w.heap.size ≤ gu) : Tri w W2 gu N cu (P ++ (Y ++ Z)) gv n cv V go m co Q :=
  ⟨h2.u, h2.v, Kd.R_grown2 h.q rfl h2.g (by intro k hk; simp at hk; subst hk; simp [Value.ownBlock]; exact fun h => h1 h.symm), pw_below_grown h.b _ h.b.size h2.g (by intro k hk; simp at hk; subst hk; exact h3)⟩
theorem Tri.cells {w W : World} {gu N cu gv n cv go m co : Nat} {U V Q : List Int} (h : Tri w W gu N cu U gv n cv V go m co Q) (i : Nat) (hi : i < N) : W.cell? ⟨gu, i, none⟩ = some (.int .u32 (U.getD i 0)) := (own_cell h.u i hi).1
theorem Tri.qcell {w W : World} {gu N cu gv n cv go m co : Nat} {U V Q : List Int} (h : Tri w W gu N cu U gv n cv V go m co Q) (i : Nat) (hi : i < m) : W.cell? ⟨go, i, none⟩ = some (.int .u32 (Q.getD i 0)) ∧ W.frozen? ⟨go, i, none⟩ = false := own_cell h.q i hi

theorem w64n (i : Nat) (h : i < 1000000) : wrap64 ((i : Int) + 1) = (i : Int) + 1 := w64 (by omega) (by omega)
theorem u64k {x : Int} (h0 : 0 ≤ x) (h1 : x < 4294967296) : IntKind.u64.wrap (x * 4294967296) = x * 4294967296 := u64 (by omega) (by omega)
theorem u32m (x : Int) : IntKind.u32.wrap x = x % 4294967296 := rfl
theorem div_end {ul V U Q R : List Int} {n : Nat} {p pp A B : Int} (h : LdI ul V n 0 U Q) (d : DnI U p n (n + 2) R) (hp : 0 < p) (hpp : p * pp = 4294967296) (hV : V.length = n + 2) (dV : Dg 4294967296 V) (hU : n + 2 < U.length) (eV : dv 4294967296 V = B * p) (eU : dv 4294967296 ul = A * p) : A = dv 4294967296 Q * B + dv 4294967296 R ∧ dv 4294967296 R < B := by
  have h1 := dv_split 4294967296 U (n + 2) (by omega)
  have h2 := h.top
  rw [List.drop_zero] at h2
  have h3 := dv_lt (by decide) dV
  rw [hV] at h3
  have h4 := dv_nonneg (by decide) (h.dU.take (n + 2))
  have h5 := dv_nonneg (by decide) (h.dU.drop (n + 2))
  have hM := pow_pos (B := 4294967296) (by decide) (n + 2)
  have z : dv 4294967296 (U.drop (n + 2)) = 0 := by
    refine Int.le_antisymm (Int.le_of_not_gt fun h6 => ?_) h5
    have h7 : pw 4294967296 (n + 2) * 1 ≤ pw 4294967296 (n + 2) * dv 4294967296 (U.drop (n + 2)) := Int.mul_le_mul_of_nonneg_left (by omega) (by omega)
    omega
  have z2 : U.getD (n + 2) 0 = 0 := by
    have := dv_drop 4294967296 U (n + 2) hU
    have h6 := h.dU.getD (by decide) (n + 2)
    have h7 := dv_nonneg (by decide) (h.dU.drop (n + 2 + 1))
    omega
  have e0 := dv_drop 4294967296 U 0 (by omega)
  rw [List.drop_zero] at e0
  have hv := h.val
  rw [List.drop_zero] at hv
  have hd := d.val
  rw [List.take_of_length_le (by rw [d.len]; exact Nat.le_refl _), z2, Int.zero_emod, Int.zero_mul, Int.add_zero] at hd
  rw [z, Int.mul_zero, Int.add_zero] at h1
  rw [← h1] at hd
  simp only [pw, Int.mul_one] at hv
  generalize dv 4294967296 (U.drop (0 + 1)) = t at *
  have m0 : U.getD 0 0 % p = 0 := by
    have : U.getD 0 0 = p * (A - dv 4294967296 Q * B - pp * t) := by grind
    rw [this]
    exact Int.mul_emod_right _ _
  rw [m0] at hd
  have e1 : (A - dv 4294967296 Q * B - dv 4294967296 R) * p = 0 := by grind
  have e2 : A - dv 4294967296 Q * B - dv 4294967296 R = 0 := by
    rcases Int.mul_eq_zero.1 e1 with h | h
    · exact h
    · omega
  refine ⟨by omega, lt_of_mul (c := p) ?_ hp⟩
  omega

set_option maxHeartbeats 16000000 in
set_option maxRecDepth 100000 in
theorem divMag_c (A0 : Option Addr) (c0 : Nat) (la : List Int) (A1 : Option Addr) (c1 n : Nat) (lb : List Int) (w : World) (h0 : la.length ≤ c0) (r0 : Kd.C (Kd.int .u32) w A0 la.length la) (h1 : n + 2 ≤ c1) (r1 : Kd.C (Kd.int .u32) w A1 lb.length lb) (hl : lb.length = n + 2) (ha : Cn 4294967296 la) (hb : Cn 4294967296 lb) (hn : la.length ≤ 1000) (hm : n ≤ 1000) (hle : dv 4294967296 lb ≤ dv 4294967296 la) :
    Calls Try.prog 162 #[.slice A0 la.length c0, .slice A1 (n + 2) c1] w (DivP w la lb) := by
  have hll : n + 2 ≤ la.length := by
    rw [← hl]
    refine Nat.le_of_not_lt fun h => ?_
    have := dv_len (by decide) ha.dg hb h
    omega
  have ht0 := hb.dg.getD (by decide) (n + 1)
  have ht1 := top_getD hb.top (by omega)
  rw [hl, show n + 2 - 1 = n + 1 by omega] at ht1
  obtain ⟨b, hb31, hlz, hz1, hz2⟩ := lz_num (lb.getD (n + 1) 0) (by omega) ht0.2
  rw [hl] at r1
  obtain ⟨adb, eb, hbc⟩ := mag_cell r1 (Below.refl _ _) (n + 1) (by omega)
  cases eb
  generalize hT : lb.getD (n + 1) 0 = top at hbc ht0 hlz
  have hn1 : decide ((n : Int) + 2 = 1) = false := by apply decide_eq_false; omega
  have hn2 : ((n : Int) + 2 == 1) = false := by apply beq_eq_false_iff_ne.2; omega
  have ht2 : ((n : Int) + 2).toNat = n + 2 := by omega
  have hmx : max ((n : Int) + 2) 0 = (n : Int) + 2 := by omega
  have HR := Aside0.mk (And.intro r0 r1)
  have HTP := Aside0.mk hT
  have HC := Aside0.mk (And.intro ha hb)
  have HL := Aside0.mk (And.intro hle hl)
  have HZ := Aside0.mk (And.intro hlz (And.intro hz1 hz2))
  obtain ⟨ht0a, ht0b⟩ := ht0
  clear r0 r1 ha hb hle hz1 hz2 hlz hl ht1 hT
  obtain ⟨s, hs⟩ : ∃ s, la.length = n + 2 + s := ⟨la.length - (n + 2), by omega⟩
  have hsi : (la.length : Int) - ((n : Int) + 2) = (s : Int) := by omega
  have HSS := Aside0.mk hs
  clear hs
  go_enter Try.func162, Try.ntmps162
  go_wp2_with fail
  have hcm := cmpMag_n A0 c0 la (some adb) c1 lb w h0 HR.out.1 (by rw [HL.out.2]; exact h1) (by rw [HL.out.2]; exact HR.out.2) HC.out.1 HC.out.2 (by omega) (by rw [HL.out.2]; omega)
  rw [HL.out.2] at hcm
  refine hcm.mono ?_
  clear hcm
  rintro e w1 ⟨c, rfl, hs, hb1⟩
  have hc : 0 ≤ c := by have := HL.out.1; unfold Sg at hs; omega
  have HB1 := Aside0.mk hb1
  have hbc1 : w1.cell? (adb.add (n + 1)) = some (.int .u32 top) := pw_cell_below hb1 hbc
  have hbc2 : w1.cell? { block := adb.block, off := adb.off + (n + 1) } = some (.int .u32 top) := hbc1
  clear hs hb1
  go_wp2_with fail

  refine (bits_LeadingZeros32 top w1 ht0a (by omega)).mono ?_
  rintro e w2 ⟨rfl, rfl⟩
  rw [HZ.out.1]
  go_wp2_with fail
  refine start_ (n := 11) (S := fun w' => True) (ds := []) (bs 11 0) (by kernel_rfl) rfl rfl trivial (fun hHeld => ?_)
  refine pure_ (i := 0) (N := some 68) (v := ?_) (a' := ?_) (bs 11 1) rfl rfl (by kernel_rfl) (fun _ _ _ h => h) (Or.inl ⟨by rfl, ?_⟩) ?_ ?_; rotate_left; (· intro w'; go_simp; first | done | with_reducible rfl); rotate_left; (· simp only [Act.put, List.setIfInBounds_toArray, List.set_cons_zero, List.set_cons_succ, i64_w, i32_w]; rfl)
  refine pure_ (i := 1) (N := some 69) (v := ?_) (a' := ?_) (bs 11 3) rfl rfl (by kernel_rfl) (fun _ _ _ h => h) (Or.inl ⟨by rfl, ?_⟩) ?_ ?_; rotate_left; (· intro w'; go_simp; first | done | with_reducible rfl); rotate_left; (· simp only [Act.put, List.setIfInBounds_toArray, List.set_cons_zero, List.set_cons_succ, i64_w, i32_w]; rfl)
  refine pure_ (i := 3) (N := some 71) (v := ?_) (a' := ?_) (bs 11 11) rfl rfl (by kernel_rfl) (fun _ _ _ h => h) (Or.inl ⟨by rfl, ?_⟩) ?_ ?_; rotate_left; (· intro w'; go_simp; first | done | with_reducible rfl); rotate_left; (· simp only [Act.put, List.setIfInBounds_toArray, List.set_cons_zero, List.set_cons_succ, i64_w, i32_w]; rfl)
  refine pure_ (i := 4) (N := some 72) (v := ?_) (a' := ?_) (bs 11 27) rfl rfl (by kernel_rfl) (fun _ _ _ h => h) (Or.inl ⟨by rfl, ?_⟩) ?_ ?_; rotate_left; (· intro w'; go_simp; first | done | with_reducible rfl); rotate_left; (· simp only [Act.put, List.setIfInBounds_toArray, List.set_cons_zero, List.set_cons_succ, i64_w, i32_w]; rfl)
  refine pure_ (i := 6) (N := some 74) (v := ?_) (a' := ?_) (bs 11 91) rfl rfl (by kernel_rfl) (fun _ _ _ h => h) (Or.inl ⟨by rfl, ?_⟩) ?_ ?_; rotate_left; (· intro w'; go_simp; first | done | with_reducible rfl); rotate_left; (· simp only [Act.put, List.setIfInBounds_toArray, List.set_cons_zero, List.set_cons_succ, i64_w, i32_w]; rfl)
  refine pure_ (i := 7) (N := some 75) (v := ?_) (a' := ?_) (bs 11 219) rfl rfl (by kernel_rfl) (fun _ _ _ h => h) (Or.inl ⟨by rfl, ?_⟩) ?_ ?_; rotate_left; (· intro w'; go_simp; first | done | with_reducible rfl); rotate_left; (· simp only [Act.put, List.setIfInBounds_toArray, List.set_cons_zero, List.set_cons_succ, i64_w, i32_w]; rfl)
  refine one_ (i := 2) (N := some 70) (bs 11 223) rfl rfl (by kernel_rfl) (by decide) (fun K hK => ?_)
  refine goes_ Try.func166 (by kernel_rfl) rfl #[.slice A0 la.length c0, .int .i64 (b : Int)] (by rfl) rfl rfl (by simp only [List.map_toArray, List.map_cons, List.map_nil]; rfl) ?_
  with_reducible refine (shift_n A0 c0 la b _ h0 (Kd.C_drew (Kd.C_below HR.out.1 HB1.out)) HC.out.1.dg (by omega) hb31).mono ?_
  rintro e w3 ⟨gu, cu, ul, hgu, rfl, hRu, dU, lU, vU, tU, hb3⟩
  refine ⟨_, rfl, ?_⟩
  refine hK.out _ _ trivial (fun hHeld => ?_)
  clear hK K
  refine norm_ (a' := ?_) ?_ ?_; rotate_left; (· show Act.put _ (some 70) _ = _; simp only [Act.put, List.setIfInBounds_toArray, List.set_cons_zero, List.set_cons_succ, i64_w, i32_w]; rfl)
  refine one_ (i := 5) (N := some 73) (bs 11 255) rfl rfl (by kernel_rfl) (by decide) (fun K hK => ?_)
  refine goes_ Try.func166 (by kernel_rfl) rfl #[.slice (some adb) (n + 2) c1, .int .i64 (b : Int)] (by rfl) rfl rfl (by simp only [List.map_toArray, List.map_cons, List.map_nil]; rfl) ?_
  with_reducible refine (shift_m (some adb) c1 lb (n + 2) HL.out.2 b _ h1 (Kd.C_below HR.out.2 (HB1.out.trans ((below_drew' hb3).mono HB1.out.size))) HC.out.2.dg (by omega) hb31).mono ?_
  rintro e w4 ⟨gv, cv, vl, hgv, rfl, hRv, dV, lV, vV, tV, hb4⟩
  refine ⟨_, rfl, ?_⟩
  have hcv : (n : Int) + 2 ≤ (cv : Int) := by have := (Kd.R_reads' hRv).2.1; omega
  have hn3 : 0 ≤ (n : Int) + 2 := by omega
  refine hK.out _ _ trivial (fun hHeld => ?_)
  clear hK K
  refine norm_ (a' := ?_) ?_ ?_; rotate_left; (· show Act.put _ (some 73) _ = _; simp only [Act.put, List.setIfInBounds_toArray, List.set_cons_zero, List.set_cons_succ, i64_w, i32_w]; rfl)
  refine pure_ (i := 8) (N := some 76) (v := ?_) (a' := ?_) (bs 11 511) rfl rfl (by kernel_rfl) (fun _ _ _ h => h) (Or.inl ⟨by rfl, ?_⟩) ?_ ?_; rotate_left; (· intro w'; go_simp; first | done | with_reducible rfl); rotate_left; (· simp only [Act.put, List.setIfInBounds_toArray, List.set_cons_zero, List.set_cons_succ, i64_w, i32_w]; rfl)
  refine pure_ (i := 9) (N := some 9) (v := ?_) (a' := ?_) (bs 11 1023) rfl rfl (by kernel_rfl) (fun _ _ _ h => h) (Or.inl ⟨by rfl, ?_⟩) ?_ ?_; rotate_left; (· intro w'; go_simp; first | done | with_reducible rfl); rotate_left; (· simp only [Act.put, List.setIfInBounds_toArray, List.set_cons_zero, List.set_cons_succ, i64_w, i32_w]; rfl)
  refine pure_ (i := 10) (N := some 10) (v := ?_) (a' := ?_) (bs 11 2047) rfl rfl (by kernel_rfl) (fun _ _ _ h => h) (Or.inl ⟨by rfl, ?_⟩) ?_ ?_; rotate_left; (· intro w'; go_simp; first | done | with_reducible rfl); rotate_left; (· simp only [Act.put, List.setIfInBounds_toArray, List.set_cons_zero, List.set_cons_succ, i64_w, i32_w]; rfl)
  refine done_ (by kernel_rfl) ?_
  have hsz : 0 ≤ (s : Int) + 1 := by omega
  have HU := Aside0.mk (And.intro hRu (And.intro dU (And.intro lU (And.intro vU tU))))
  have HV := Aside0.mk (And.intro hRv (And.intro dV (And.intro lV (And.intro vV tV))))
  have HB4 := Aside0.mk (And.intro hb3 hb4)
  clear hRu dU lU vU tU hRv dV lV vV tV hb3 hb4
  go_wp2_with ((with_reducible refine gate_dst (N := 84) rfl ?_); refine Kd.R_make (Kd.int .u32) _ 157 rfl (N := 84) rfl 84 _ _ rfl ((s : Int) + 1) rfl rfl Try.underlying84 (.int .u32 0) 4 info157 rfl (by decide) (by omega) 0 (ok := fun _ => True) (okp := fun _ => True) rfl (fun _ hk => hk) trivial hsz (by omega) (Below.refl _ _) (Nat.le_refl _) ?_; intro v w5 ho hb hg_ hnew_; clear hg_ hnew_; have HO := Aside0.mk ho; have HB := Aside0.mk hb; clear ho hb)
  obtain ⟨go, co, eo, gb, _, _⟩ := Kd.R_form HO.out (by simp)
  have eo2 : v = .slice (some ⟨go, 0, none⟩) (s + 1) co := by rw [eo]; simp
  have HO2 : Kd.R (Kd.int .u32) 157 w5 0 (fun _ => True) (.slice (some ⟨go, 0, none⟩) (s + 1) co) (List.replicate (s + 1) 0) := by have := Kd.R_lower HO.out (Nat.zero_le _); rw [eo2] at this; simpa using this
  have hgo : go ≠ gu ∧ go ≠ gv ∧ gu ≠ gv ∧ w.heap.size ≤ gu ∧ w.heap.size ≤ gv ∧ w.heap.size ≤ go := by
    have a1 := Kd.R_lt HU.out.1 gu rfl
    have a2 := Kd.R_lt HV.out.1 gv rfl
    have a3 := HB1.out.size
    have a4 : w2.heap.size ≤ gu := hgu
    have a5 := HB4.out.2.size
    have a6 : w4.heap.size ≤ go := gb
    omega
  obtain ⟨n1, n2, n3, n4, n5, n6⟩ := hgo
  have HT := Aside0.mk (show Tri w w5 gu (la.length + 1) cu ul gv (n + 2) cv (vl.take (n + 2)) go (s + 1) co (List.replicate (s + 1) 0) from
    ⟨Kd.R_below (Kd.R_below (Kd.R_lower HU.out.1 (Nat.zero_le _)) HB4.out.2) HB.out, Kd.R_below (Kd.R_take (Kd.R_lower HV.out.1 (Nat.zero_le _)) (by rw [HV.out.2.2.1]; omega)) HB.out, HO2,
     HB1.out.trans ((below_drew' HB4.out.1).mono HB1.out.size |>.trans ((HB4.out.2.mono (by have a1 := HB1.out.size; have a2 : w2.heap.size ≤ w3.heap.size := HB4.out.1.size; omega)).trans (HB.out.mono (by have a1 := HB1.out.size; have a2 : w2.heap.size ≤ w3.heap.size := HB4.out.1.size; have a3 := HB4.out.2.size; omega))))⟩)
  have hcu : la.length + 1 ≤ cu := (Kd.R_reads' HU.out.1).2.1
  have hp31 : (2 : Int) ^ b ≤ 2147483648 := by
    have : b = 0 ∨ b = 1 ∨ b = 2 ∨ b = 3 ∨ b = 4 ∨ b = 5 ∨ b = 6 ∨ b = 7 ∨ b = 8 ∨ b = 9 ∨ b = 10 ∨ b = 11 ∨ b = 12 ∨ b = 13 ∨ b = 14 ∨ b = 15 ∨ b = 16 ∨ b = 17 ∨ b = 18 ∨ b = 19 ∨ b = 20 ∨ b = 21 ∨ b = 22 ∨ b = 23 ∨ b = 24 ∨ b = 25 ∨ b = 26 ∨ b = 27 ∨ b = 28 ∨ b = 29 ∨ b = 30 ∨ b = 31 := by omega
    rcases this with h | h | h | h | h | h | h | h | h | h | h | h | h | h | h | h | h | h | h | h | h | h | h | h | h | h | h | h | h | h | h | h <;> subst h <;> decide
  have hnv := norm_v lb vl n (2 ^ b) (Int.pow_pos (by decide)) HC.out.2 HL.out.2 HV.out.2.1 HV.out.2.2.1 HV.out.2.2.2.1 HZ.out.2.1 HZ.out.2.2
  have HVD := Aside0.mk (And.intro (HV.out.2.1.take (n + 2)) hnv)
  have hLV : (vl.take (n + 2)).length = n + 2 := by rw [List.length_take, HV.out.2.2.1]; omega
  have hLI := LdI.start ul (vl.take (n + 2)) n HU.out.2.1 (by rw [HU.out.2.2.1]; omega) hLV HVD.out.1 (by rw [HU.out.2.2.1, Nat.add_sub_cancel]; have := HVD.out.2.2; have := HU.out.2.2.2.2; omega)
  rw [show ul.length - n - 2 = s + 1 by rw [HU.out.2.2.1, HSS.out]; omega] at hLI
  have HLI := Aside0.mk hLI
  have HX := Aside0.mk (And.intro hcu (And.intro hp31 hLV))
  subst eo2
  clear HO eo HB gb HO2 hcu hp31 hnv hLI hLV hgu hgv HB4 HB1
  go_loopg [12] (s + 1) (fun kq v12 w' => ∃ (z : Int) (U Q : List Int), v12 = .int .i64 z ∧ Aside0 (z = (kq : Int) - 1 ∧ kq ≤ s + 1) ∧ Aside0 (LdI ul (vl.take (n + 2)) n kq U Q) ∧ Aside0 (Tri w w' gu (la.length + 1) cu U gv (n + 2) cv (vl.take (n + 2)) go (s + 1) co Q))
  case atStart => exact ⟨_, _, _, rfl, ⟨by omega⟩, HLI, HT⟩
  case round =>
    clear HLI HT
    obtain ⟨z, U, Q, rfl, HK, HLI, HT⟩ := hrel
    cases gk with
    | zero =>
      obtain rfl : z = -1 := by have := HK.out.1; omega
      have hb9 : decide ((0 : Int) ≤ -1) = false := by decide
      have hn0 : 0 ≤ (n : Int) + 2 := by omega
      go_wp2_with ((with_reducible refine gate_dst (N := 106) rfl ?_); refine Kd.R_make (Kd.int .u32) _ 157 rfl (N := 106) rfl 84 _ _ rfl ((n : Int) + 2) rfl rfl Try.underlying84 (.int .u32 0) 4 info157 rfl (by decide) (by omega) 0 (ok := fun _ => True) (okp := fun _ => True) rfl (fun _ hk => hk) trivial hn0 (by omega) (Below.refl _ _) (Nat.le_refl _) ?_; intro v w5 ho hb hg_ hnew_; clear hg_ hnew_; have HO := Aside0.mk ho; have HB := Aside0.mk hb; clear ho hb)
      obtain ⟨gr, cr, eo, gb, _, _⟩ := Kd.R_form HO.out (by simp; omega)
      have eo2 : v = .slice (some ⟨gr, 0, none⟩) (n + 2) cr := by rw [eo]; simp; omega
      have HT2 := Aside0.mk (show Tri w w5 gu (la.length + 1) cu U go (s + 1) co Q gr (n + 2) cr (List.replicate (n + 2) 0) from
        ⟨Kd.R_below HT.out.u HB.out, Kd.R_below HT.out.q HB.out, by have := Kd.R_lower HO.out (Nat.zero_le _); rw [eo2] at this; rw [show ((n : Int) + 2).toNat = n + 2 by omega] at this; exact this, HT.out.b.trans (HB.out.mono HT.out.b.size)⟩)
      have hgr : gr ≠ gu ∧ gr ≠ go ∧ w.heap.size ≤ gr := by
        have a1 := Kd.R_lt HT.out.u gu rfl
        have a2 := Kd.R_lt HT.out.q go rfl
        have a3 := HT.out.b.size
        have a4 : wr.heap.size ≤ gr := gb
        omega
      obtain ⟨m1, m2, m3⟩ := hgr
      have HD0 := Aside0.mk (DnI.start U (2 ^ b) n)
      subst eo2
      clear HO eo HB gb HT
      go_loopg [108] (n + 2) (fun kq v108 w' => ∃ (i : Nat) (R : List Int), v108 = .int .i64 (i : Int) ∧ Aside0 (i + kq = n + 2) ∧ Aside0 (DnI U (2 ^ b) n i R) ∧ Aside0 (Tri w w' gu (la.length + 1) cu U go (s + 1) co Q gr (n + 2) cr R))
      case atStart => exact ⟨0, _, rfl, ⟨by omega⟩, HD0, HT2⟩
      case round =>
        clear HD0 HT2
        obtain ⟨i, R, rfl, HK2, HD, HT⟩ := hrel
        cases gk with
        | zero =>
          have hi : i = n + 2 := HK2.out
          have hb0 : decide ((i : Int) < (n : Int) + 2) = false := decide_eq_false (by omega)
          have HI2 := Aside0.mk hi
          clear hi
          go_wp2_with fail
          refine (trim_n _ Q _ _ _ HT.out.v HLI.out.dq (by rw [HLI.out.lq, HU.out.2.2.1]; omega)).mono ?_
          rintro e w6 ⟨v0, q, rfl, hM0, hc0, hv0, hl0, hb0⟩
          have HQ := Aside0.mk (And.intro hM0 (And.intro hc0 (And.intro hv0 (And.intro hl0 hb0))))
          clear hM0 hc0 hv0 hl0 hb0
          go_wp2_with fail
          refine (trim_n _ R _ _ _ (Kd.R_below HT.out.q HQ.out.2.2.2.2) HD.out.dg (by rw [HD.out.len]; omega)).mono ?_
          rintro e w7 ⟨v1, r, rfl, hM1, hc1, hv1, hl1, hb1⟩
          have HR1 := Aside0.mk (And.intro hM1 (And.intro hc1 (And.intro hv1 (And.intro hl1 hb1))))
          clear hM1 hc1 hv1 hl1 hb1
          go_wp2_with fail
          go_ret2
          obtain ⟨hM0, hc0, hv0, hl0, hb0⟩ := HQ.out
          obtain ⟨hM1, hc1, hv1, hl1, hb1⟩ := HR1.out
          have hE := div_end (pp := 2 ^ (32 - b)) HLI.out (HI2.out ▸ HD.out) (Int.pow_pos (by decide)) (by rw [← Int.pow_add, show b + (32 - b) = 32 by omega]; decide) HX.out.2.2 HVD.out.1 (by rw [HLI.out.lU, HU.out.2.2.1]; omega) HVD.out.2.1 HU.out.2.2.2.1
          refine ⟨_, _, q, r, rfl, hM0.below hb1, hM1, hc0, hc1, ?_, ?_, ?_, ?_, HT.out.b.trans ((hb0.mono HT.out.b.size).trans (hb1.mono (HT.out.b.trans (hb0.mono HT.out.b.size)).size))⟩
          · have := HLI.out.lq
            rw [HU.out.2.2.1] at this
            omega
          · have := HD.out.len
            have := HL.out.2
            omega
          · rw [hv0, hv1]; exact hE.1
          · rw [hv1]; exact hE.2
        | succ k2 =>
          have hi : i < n + 2 := by have := HK2.out; omega
          have hi1000 : i < 1000000 := by omega
          have hb0 : decide ((i : Int) < (n : Int) + 2) = true := decide_eq_true (by omega)
          have hbn : 0 ≤ (b : Int) := by omega
          have hw2 : ((i : Int) + 1).toNat = i + 1 := by omega
          have hw3 : 0 ≤ (i : Int) + 1 := by omega
          have hw4 : (i : Int) + 1 < (la.length : Int) + 1 := by omega
          have hw5 : (i : Int) < (la.length : Int) + 1 := by omega
          have hw6 : (i : Int) < (n : Int) + 2 := by omega
          have hc0 := HT.out.cells i (by omega)
          have hc1 := HT.out.cells (i + 1) (by omega)
          obtain ⟨hy1, hz1⟩ := HT.out.qcell i hi
          have hst := HD.out.step (pp := 2 ^ (32 - b)) HLI.out.dU (Int.pow_pos (by decide)) (by rw [← Int.pow_add, show b + (32 - b) = 32 by omega]; decide) hi
          have hu0 := HLI.out.dU.getD (by decide) i
          have hu1 := HLI.out.dU.getD (by decide) (i + 1)
          generalize U.getD i 0 = u0 at hc0 hst hu0
          generalize U.getD (i + 1) 0 = u1 at hc1 hst hu1
          obtain ⟨hu00, hu01⟩ := hu0
          obtain ⟨hu10, hu11⟩ := hu1
          have hor : bits BinOp.or IntKind.u64 (u1 * 4294967296) u0 = u1 * 4294967296 + u0 := or_high _ _ 32 (by omega) (by omega) (by omega) hu00 (by omega) (by omega)
          have hv1 : IntKind.u64.wrap u1 = u1 := u64 hu10 (Int.lt_trans hu11 (by decide))
          have hv2 : IntKind.u64.wrap (u1 * 4294967296) = u1 * 4294967296 := u64k hu10 hu11
          have hv3 : IntKind.u64.wrap u0 = u0 := u64 hu00 (Int.lt_trans hu01 (by decide))
          have hw1 : wrap64 ((i : Int) + 1) = (i : Int) + 1 := w64n i hi1000
          rw [← u32m] at hst
          have HST := Aside0.mk hst
          clear hst
          go_wp2_with fail
          refine start_ (n := 20) (S := fun w' => w'.cell? ⟨gu, i, none⟩ = some (.int .u32 u0) ∧ w'.cell? ⟨gu, i + 1, none⟩ = some (.int .u32 u1) ∧ w'.cell? ⟨gr, i, none⟩ = some (.int .u32 (R.getD i 0)) ∧ w'.frozen? ⟨gr, i, none⟩ = false) (ds := [19]) (bs 20 0) (by kernel_rfl) rfl rfl ⟨hc0, hc1, hy1, hz1⟩ (fun hHeld => ?_)
          refine pure_ (i := 0) (N := some 111) (v := ?_) (a' := ?_) (bs 20 1) rfl rfl (by kernel_rfl) (fun _ _ _ h => h) (Or.inl ⟨by rfl, ?_⟩) ?_ ?_; rotate_left; (· intro w'; go_simp; first | done | with_reducible rfl); rotate_left; (· simp only [Act.put, List.setIfInBounds_toArray, List.set_cons_zero, List.set_cons_succ, i64_w, i32_w]; rfl)
          refine pure_ (i := 1) (N := some 112) (v := ?_) (a' := ?_) (bs 20 3) rfl rfl (by kernel_rfl) (fun _ _ _ h => h) (Or.inl ⟨by rfl, ?_⟩) ?_ ?_; rotate_left; (· intro w'; go_simp; first | done | with_reducible rfl); rotate_left; (· simp only [Act.put, List.setIfInBounds_toArray, List.set_cons_zero, List.set_cons_succ, i64_w, i32_w]; rfl)
          refine pure_ (i := 2) (N := some 113) (v := ?_) (a' := ?_) (bs 20 7) rfl rfl (by kernel_rfl) (fun _ _ _ h => h) (Or.inl ⟨by rfl, ?_⟩) ?_ ?_; rotate_left; (· intro w'; go_simp; first | done | with_reducible rfl); rotate_left; (· simp only [Act.put, List.setIfInBounds_toArray, List.set_cons_zero, List.set_cons_succ, i64_w, i32_w]; rfl)
          refine pure_ (i := 3) (N := some 114) (v := ?_) (a' := ?_) (bs 20 15) rfl rfl (by kernel_rfl) (fun _ _ _ h => h) (Or.inl ⟨by rfl, ?_⟩) ?_ ?_; rotate_left; (· intro w'; go_simp; first | done | with_reducible rfl); rotate_left; (· simp only [Act.put, List.setIfInBounds_toArray, List.set_cons_zero, List.set_cons_succ, i64_w, i32_w]; rfl)
          refine pure_ (i := 4) (N := some 115) (v := ?_) (a' := ?_) (bs 20 31) rfl rfl (by kernel_rfl) (fun _ _ _ h => h) (Or.inl ⟨by rfl, ?_⟩) ?_ ?_; rotate_left; (· intro w'; go_simp; first | done | with_reducible rfl); rotate_left; (· simp only [Act.put, List.setIfInBounds_toArray, List.set_cons_zero, List.set_cons_succ, i64_w, i32_w]; rfl)
          refine pure_ (i := 5) (N := some 116) (v := ?_) (a' := ?_) (bs 20 63) rfl rfl (by kernel_rfl) (fun _ _ _ h => h) (Or.inl ⟨by rfl, ?_⟩) ?_ ?_; rotate_left; (· intro w'; go_simp; first | done | with_reducible rfl); rotate_left; (· simp only [Act.put, List.setIfInBounds_toArray, List.set_cons_zero, List.set_cons_succ, i64_w, i32_w]; rfl)
          refine pure_ (i := 9) (N := some 120) (v := ?_) (a' := ?_) (bs 20 575) rfl rfl (by kernel_rfl) (fun _ _ _ h => h) (Or.inl ⟨by rfl, ?_⟩) ?_ ?_; rotate_left; (· intro w'; go_simp; first | done | with_reducible rfl); rotate_left; (· simp only [Act.put, List.setIfInBounds_toArray, List.set_cons_zero, List.set_cons_succ, i64_w, i32_w]; rfl)
          refine pure_ (i := 10) (N := some 121) (v := ?_) (a' := ?_) (bs 20 1599) rfl rfl (by kernel_rfl) (fun _ _ _ h => h) (Or.inl ⟨by rfl, ?_⟩) ?_ ?_; rotate_left; (· intro w'; go_simp; first | done | with_reducible rfl); rotate_left; (· simp only [Act.put, List.setIfInBounds_toArray, List.set_cons_zero, List.set_cons_succ, i64_w, i32_w]; rfl)
          refine pure_ (i := 11) (N := some 122) (v := ?_) (a' := ?_) (bs 20 3647) rfl rfl (by kernel_rfl) (fun _ _ _ h => h) (Or.inl ⟨by rfl, ?_⟩) ?_ ?_; rotate_left; (· intro w'; go_simp; first | done | with_reducible rfl); rotate_left; (· simp only [Act.put, List.setIfInBounds_toArray, List.set_cons_zero, List.set_cons_succ, i64_w, i32_w]; rfl)
          refine pure_ (i := 15) (N := some 126) (v := ?_) (a' := ?_) (bs 20 36415) rfl rfl (by kernel_rfl) (fun _ _ _ h => h) (Or.inl ⟨by rfl, ?_⟩) ?_ ?_; rotate_left; (· intro w'; go_simp; first | done | with_reducible rfl); rotate_left; (· simp only [Act.put, List.setIfInBounds_toArray, List.set_cons_zero, List.set_cons_succ, i64_w, i32_w]; rfl)
          refine take_ (i := 6) (N := some 117) (v := ?_) (a' := ?_) (bs 20 36479) rfl rfl (by kernel_rfl) (fun _ _ _ h => h) (Or.inl ⟨by rfl, ?_⟩) hHeld ?_ ?_; rotate_left; (· rintro w' ⟨s0, s1, s2, s3⟩; go_simp; first | done | with_reducible rfl); rotate_left; (· simp only [Act.put, List.setIfInBounds_toArray, List.set_cons_zero, List.set_cons_succ, i64_w, i32_w]; rfl)
          refine pure_ (i := 7) (N := some 118) (v := ?_) (a' := ?_) (bs 20 36607) rfl rfl (by kernel_rfl) (fun _ _ _ h => h) (Or.inl ⟨by rfl, ?_⟩) ?_ ?_; rotate_left; (· intro w'; go_simp; first | done | with_reducible rfl); rotate_left; (· simp only [Act.put, List.setIfInBounds_toArray, List.set_cons_zero, List.set_cons_succ, i64_w, i32_w]; rfl)
          refine pure_ (i := 8) (N := some 119) (v := ?_) (a' := ?_) (bs 20 36863) rfl rfl (by kernel_rfl) (fun _ _ _ h => h) (Or.inl ⟨by rfl, ?_⟩) ?_ ?_; rotate_left; (· intro w'; go_simp; first | done | with_reducible rfl); rotate_left; (· simp only [Act.put, List.setIfInBounds_toArray, List.set_cons_zero, List.set_cons_succ, i64_w, i32_w]; rfl)
          refine take_ (i := 12) (N := some 123) (v := ?_) (a' := ?_) (bs 20 40959) rfl rfl (by kernel_rfl) (fun _ _ _ h => h) (Or.inl ⟨by rfl, ?_⟩) hHeld ?_ ?_; rotate_left; (· rintro w' ⟨s0, s1, s2, s3⟩; go_simp; first | done | with_reducible rfl); rotate_left; (· simp only [Act.put, List.setIfInBounds_toArray, List.set_cons_zero, List.set_cons_succ, i64_w, i32_w]; rfl)
          refine pure_ (i := 13) (N := some 124) (v := ?_) (a' := ?_) (bs 20 49151) rfl rfl (by kernel_rfl) (fun _ _ _ h => h) (Or.inl ⟨by rfl, ?_⟩) ?_ ?_; rotate_left; (· intro w'; go_simp; first | done | with_reducible rfl); rotate_left; (· simp only [Act.put, List.setIfInBounds_toArray, List.set_cons_zero, List.set_cons_succ, i64_w, i32_w]; rfl)
          refine pure_ (i := 14) (N := some 125) (v := ?_) (a' := ?_) (bs 20 65535) rfl rfl (by kernel_rfl) (fun _ _ _ h => h) (Or.inl ⟨by rfl, ?_⟩) ?_ ?_; rotate_left; (· intro w'; go_simp; first | done | with_reducible rfl); rotate_left; (· simp only [Act.put, List.setIfInBounds_toArray, List.set_cons_zero, List.set_cons_succ, i64_w, i32_w]; rfl)
          refine pure_ (i := 16) (N := some 127) (v := ?_) (a' := ?_) (bs 20 131071) rfl rfl (by kernel_rfl) (fun _ _ _ h => h) (Or.inl ⟨by rfl, ?_⟩) ?_ ?_; rotate_left; (· intro w'; go_simp; first | done | with_reducible rfl); rotate_left; (· simp only [Act.put, List.setIfInBounds_toArray, List.set_cons_zero, List.set_cons_succ, i64_w, i32_w]; rfl)
          refine pure_ (i := 17) (N := some 128) (v := ?_) (a' := ?_) (bs 20 262143) rfl rfl (by kernel_rfl) (fun _ _ _ h => h) (Or.inl ⟨by rfl, ?_⟩) ?_ ?_; rotate_left; (· intro w'; go_simp; first | done | with_reducible rfl); rotate_left; (· simp only [Act.put, List.setIfInBounds_toArray, List.set_cons_zero, List.set_cons_succ, i64_w, i32_w]; rfl)
          refine pure_ (i := 18) (N := some 129) (v := ?_) (a' := ?_) (bs 20 524287) rfl rfl (by kernel_rfl) (fun _ _ _ h => h) (Or.inl ⟨by rfl, ?_⟩) ?_ ?_; rotate_left; (· intro w'; go_simp; first | done | with_reducible rfl); rotate_left; (· simp only [Act.put, List.setIfInBounds_toArray, List.set_cons_zero, List.set_cons_succ, i64_w, i32_w]; rfl)
          refine last_ (i := 19) (N := none) (bs 20 1048575) rfl rfl (by kernel_rfl) (by decide) (fun K hK => ?_)
          refine skip_ (w1 := ?_) (by rfl) rfl ?_ ?_
          rotate_left
          · (go_simp; with_reducible rfl)
          refine hK.out _ _ ?_
          clear hK K
          refine done_ (by kernel_rfl) ?_
          have HT9 := Aside0.mk ((HT.out.put m1.symm m2.symm m3 i (IntKind.u32.wrap ((u1 * 4294967296 + u0) / 2 ^ b))).drewN 1)
          generalize hW : World.drew _ = WW
          have HT10 := Aside0.mk (show Tri w WW gu (la.length + 1) cu U go (s + 1) co Q gr (n + 2) cr (R.set i (IntKind.u32.wrap ((u1 * 4294967296 + u0) / 2 ^ b))) from by rw [← hW]; exact HT9.out)
          have HK3 := Aside0.mk (And.intro HK2.out HST.out)
          clear hW HT9 HT hor hv1 hv2 hv3 hw1 HST hc0 hc1 hy1 hz1 hw2 hw3 hw4 hw5 hu00 hu01 hu10 hu11
          go_wp2_with fail
          go_roundg k2
          case measure => omega
          case rel =>
            exact ⟨i + 1, _, by simp, ⟨by have := HK3.out.1; omega⟩, ⟨HK3.out.2⟩, HT10⟩
    | succ k1 =>
      obtain rfl : z = (k1 : Int) := by have := HK.out.1; omega
      have hk : k1 < s + 1 := by have := HK.out.2; omega
      have hcut : (k1 : Int) + ((n : Int) + 2) + 1 ≤ (cu : Int) := by have := HX.out.1; have := HSS.out; omega
      have hcut0 : 0 ≤ (k1 : Int) + ((n : Int) + 2) + 1 := by omega
      have hcut1 : k1 ≤ k1 + (n + 2) + 1 := by omega
      obtain ⟨w1, w2', w3', w4', w5', w6'⟩ := HLI.out.win HX.out.2.2 HVD.out.1 (by rw [HU.out.2.2.1, HSS.out]; omega)
      have hdg := digit_n wr wr gu gv (la.length + 1) cu cv n (cu - k1) (U.take k1) (U.drop (k1 + (n + 3))) ((U.drop k1).take (n + 3)) (vl.take (n + 2)) (fun h => n3 h.symm) (HT.out.two w1) HX.out.2.2 w3' HVD.out.1 w4' HVD.out.2.2 w6' (by omega) (by omega)
      rw [w2'] at hdg
      have HDG := Aside0.mk hdg
      obtain ⟨hy1, hz1⟩ := HT.out.qcell k1 hk
      clear w1 w2' w3' w4' w5' w6' hdg
      go_wp2_with fail
      · rw [show k1 + (n + 2) + 1 - k1 = n + 3 by omega]
        refine HDG.out.mono ?_
        rintro e w6 ⟨q, Y', rfl, hTw, lY, dY, hq0, hq1, hqv, hqlt⟩
        have HT6 := Aside0.mk (HT.out.dug hTw n1 n4)
        have hst := HLI.out.step HX.out.2.2 HVD.out.1 (by rw [HU.out.2.2.1, HSS.out]; omega) lY dY hq0 hq1 hqv hqlt
        have HST := Aside0.mk hst
        obtain ⟨hy6, hz6⟩ := HT6.out.qcell k1 hk
        clear hTw lY dY hqv hqlt hst hy1 hz1 HDG
        go_wp2_with fail
        go_roundg k1
        case measure => omega
        case rel => exact ⟨_, _, _, rfl, ⟨by have := HK.out; omega⟩, HST, ⟨HT6.out.put (fun h => n1 h.symm) (fun h => n2 h.symm) n6 k1 _⟩⟩
end Go.Proofs.Ytpbhepdgamoiaaa.Dc

/-
  edit.Used: the walk. The reference's natural numbers, in digits of nine decimal places: what its printed functions compute. The reference's natural numbers: sums, differences, products, quotients, small ones. The reference divides. The normal list of a list of edits as a plain value, and that the code tells it. The reference's rational numbers as rational numbers. Whether lists are equal, alike; the first example of the chapter. The reference's normal list is the same. What the reference tells of a list: its normal list, its first error, its length. The reference's whole number of a rational number. The reference's time of a rational number is its lowest form. The reference's rational numbers in memory: what its calls make of them. The reference's first error and length; lists compared. The reference's Media: the walk (under way).
-/
import Derived.Test.YtekommcfpjonmaaGreatQREditBackc
import Derived.Test.YtekommcfpjonmaaGreatQREditBackh
import Derived.Test.YtekommcfpjonmaaGreatQREditBacka
import Derived.Test.YtekommcfpjonmaaGreatQREditBackg
import Derived.Outline
set_option linter.unusedVariables false
set_option linter.unusedSimpArgs false
set_option maxHeartbeats 16000000
set_option maxRecDepth 100000
namespace Go.Proofs.YtekommcfpjonmaaGreat.Ub
open RowKit Go YtekommcfpjonmaaGreatW.PrintWords YtekommcfpjonmaaGreatW.PrintLast YtekommcfpjonmaaGreatW.PrintMore Mn Nd Z Ea Rf Er Ek Et E Pe Bk Sy Xn
def usdL (ms ts : Int) : List Spn → List Ed → Option (List Spn)
 | out, [] => some out
 | out, x :: t => if x.f1 < 0 ∨ x.f2 = 0 then usdL ms ts out t else if (tmV (qq x.f1 ts)).2 = 0 ∧ (tmV (qq x.f1 ts + qq x.f0 ms * qq x.f2 x.f3)).2 = 0 then usdL ms ts (out ++ [spn (qq x.f1 ts) (qq x.f1 ts + qq x.f0 ms * qq x.f2 x.f3)]) t else none
theorem usdL_cons (ms ts : Int) (out : List Spn) (x : Ed) (t : List Ed) : usdL ms ts out (x :: t) = if x.f1 < 0 ∨ x.f2 = 0 then usdL ms ts out t else if (tmV (qq x.f1 ts)).2 = 0 ∧ (tmV (qq x.f1 ts + qq x.f0 ms * qq x.f2 x.f3)).2 = 0 then usdL ms ts (out ++ [spn (qq x.f1 ts) (qq x.f1 ts + qq x.f0 ms * qq x.f2 x.f3)]) t else none := rfl
def usdC : Option (List Spn) → List Spn × Int
 | some out => clnV out
 | none => ([], 2)
def usdV (l : List Ed) (ms ts : Int) : List Spn × Int := if chk l ms ts = 0 then usdC (usdL ms ts [] l) else ([], chk l ms ts)
structure Tu (w W : World) (v : Value) (out : List Spn) (G : Nat) (X : Ed) : Prop where
 s : Js w W v out
 e : W.heap[G]? = some (edO X.f0 X.f1 X.f2 X.f3)
theorem Tu.step {w W W2 : World} {v : Value} {out : List Spn} {G : Nat} {X : Ed} (h : Tu w W v out G X) (hb : Below W.heap.size W W2) : Tu w W2 v out G X := ⟨⟨Kd.R_below h.s.r hb, h.s.below.trans (hb.mono h.s.below.size)⟩, blk_below h.e hb⟩
theorem Tu.cells {w W : World} {v : Value} {out : List Spn} {G : Nat} {X : Ed} (h : Tu w W v out G X) : W.cell? ⟨G, 0, none⟩ = some (.int .i64 X.f0) ∧ W.cell? ⟨G, 1, none⟩ = some (.int .i64 X.f1) ∧ W.cell? ⟨G, 2, none⟩ = some (.int .i64 X.f2) ∧ W.cell? ⟨G, 3, none⟩ = some (.int .i64 X.f3) := ed_cells h.e
theorem Tu.start {w W : World} {v : Value} {out : List Spn} (X : Ed) (h : Js w W v out) : Tu w (W.alloc (edO X.f0 X.f1 X.f2 X.f3)) v out W.heap.size X := by
 have hb := below_alloc (Below.refl W.heap.size W) (edO X.f0 X.f1 X.f2 X.f3)
 exact ⟨⟨Kd.R_below h.r hb, h.below.trans (hb.mono h.below.size)⟩, blk_new W _⟩
theorem time_is (q : Rat) (n : Nat) (hn : n ≤ 400) : ∃ T1 T2 T3 : Int, (T1 = (tmV q).1.1 ∧ T2 = (tmV q).1.2 ∧ T3 = (tmV q).2) ∧ ∀ W g, RQ W g q n → Calls Tryz.prog 66 #[.pointer (some ⟨g, 0, none⟩)] W (fun e w' => ∃ u : Nat, e = .returned (.tuple #[.agg #[.int .i64 T1, .int .i64 T2], .int .i64 T3]) ∧ Below W.heap.size W w') := by
 refine ⟨_, _, _, ⟨rfl, rfl, rfl⟩, fun W g h => (timeE_n g q n W h hn).mono ?_⟩
 rintro e w' ⟨rfl, hb⟩
 exact ⟨0, rfl, hb⟩
theorem used_n (A0 : Option Addr) (c0 : Nat) (l0 : List Ed) (a1 : Int) (a2 : Int) (w : World) (hr0 : Kd.C k67 w A0 l0.length l0) (hc0 : l0.length ≤ c0) :
  Calls Tryz.prog 32 #[.slice A0 l0.length c0, .int .i64 a1, .int .i64 a2] w (SP w (usdV l0 a1 a2)) := by
 have hu := Tryz.underlying67
 have hu2 := Tryz.underlying24
 have hu3 := Tryz.underlying53
 have HR := aS (And.intro hr0 hc0)
 have HC := aS (check_n A0 c0 l0 a1 a2 w hr0 hc0)
 have HV := aS (show usdV l0 a1 a2 = if chk l0 a1 a2 = 0 then usdC (usdL a1 a2 [] l0) else ([], chk l0 a1 a2) from rfl)
 have HO := aS (fun h0 : chk l0 a1 a2 = 0 => chk_ok.1 h0)
 generalize usdV l0 a1 a2 = V at *
 generalize chk l0 a1 a2 = C at *
 clear hr0 hc0
 go_enter Tryz.func32, Tryz.ntmps32
 go_wp2_with fail
 refine HC.out.mono ?_
 rintro e w2 ⟨rfl, hb2⟩
 have HB2 := aS hb2
 clear hb2 HC
 by_cases hc : C = 0
 case neg =>
  have HV2 := aS (show V = ([], C) by rw [HV.out, if_neg hc])
  have hcb : (C != 0) = true := bne_iff_ne.mpr hc
  clear HV HO hc
  go_wp2_with fail
  go_ret2
  rw [HV2.out]
  exact ⟨_, rfl, Kd.R_nil _ _ _ _ _, HB2.out⟩
 subst hc
 have HV2 := aS (show V = usdC (usdL a1 a2 [] l0) by rw [HV.out, if_pos rfl])
 have HC := aS (HO.out rfl)
 clear HV HO
 go_wp2_with fail
 go_loopg [9, 26] l0.length (fun kq v9 v26 w' => ∃ (out : List Spn) (i : Int), v26 = .int .i64 i ∧ Aside0 (0 ≤ i ∧ i + kq = l0.length ∧ out.length ≤ i.toNat) ∧ Aside0 (V = usdC (usdL a1 a2 out (l0.drop i.toNat))) ∧ Aside0 (Js w w' v9 out))
 case atStart => exact ⟨[], 0, rfl, ⟨by simp, by simp, by simp⟩, ⟨by rw [HV2.out]; simp⟩, ⟨⟨Kd.R_nil _ _ _ _ _, HB2.out⟩⟩⟩
 case round =>
  clear HV2 HB2
  obtain ⟨out, i, rfl, hi, hL, hM⟩ := hrel
  by_cases hlt : i < (l0.length : Int)
  ·have p0 := hi.out.1
   have HA := aS (At.of p0 hlt rfl HC.out.2.2.1 HC.out.2.2.2)
   obtain ⟨ad, hA, q0, q1, q2, q3⟩ := at_T67 (Kd.C_below HR.out.1 hM.out.below) i p0 hlt
   subst hA
   obtain ⟨k1, rfl⟩ : ∃ k, gk = k + 1 := ⟨gk - 1, by have := hi.out.2; omega⟩
   generalize rd_T67 l0 i = X at *
   have hwi : wrap64 (i + 1) = i + 1 := by
    have := HC.out.2.1
    exact w64 (by omega) (by omega)
   have HL := aS (show V = usdC (usdL a1 a2 out (X :: l0.drop (i + 1).toNat)) by rw [hL.out, HA.out.drop])
   replace p0 := eq_true p0
   replace hlt := eq_true hlt
   have HI := aS (show (I64 a1 ∧ a1 ≠ 0) ∧ (I64 a2 ∧ a2 ≠ 0) by
    have := HC.out.1.m0
    have := HC.out.1.m1
    have := HC.out.1.t0
    have := HC.out.1.t1
    exact ⟨⟨⟨by omega, by omega⟩, by omega⟩, ⟨by omega, by omega⟩, by omega⟩)
   have HJ := aS (show I64 X.f0 ∧ I64 X.f1 ∧ I64 X.f2 ∧ (I64 X.f3 ∧ X.f3 ≠ 0) by
    have := HA.out.vd.d0
    have := HA.out.vd.d1
    have := HA.out.vd.m0
    have := HA.out.vd.m1
    have := HA.out.vd.n0
    have := HA.out.vd.n1
    have := HA.out.vd.e0
    have := HA.out.vd.e1
    exact ⟨⟨by omega, by omega⟩, ⟨by omega, by omega⟩, ⟨by omega, by omega⟩, ⟨by omega, by omega⟩, by omega⟩)
   have hX := aS (Tu.start X hM.out)
   have HN := aS (show (0 ≤ i + 1 ∧ i + 1 + (k1 : Int) = l0.length) ∧ out.length ≤ (i + 1).toNat ∧ out.length + 1 ≤ (i + 1).toNat ∧ out.length ≤ 100 by have := hi.out; have := HC.out.2.1; omega)
   clear hi hL
   go_upto_region 8 with fail
   generalize hW1 : World.alloc wr _ = W1
   have HT := aS (show Tu w W1 u9 out wr.heap.size X by rw [← hW1]; exact hX.out)
   clear hW1 hX hM q0 q1 q2 q3
   generalize wr.heap.size = G at *
   obtain ⟨c0, c1, c2, c3⟩ := HT.out.cells
   by_cases hm : X.f1 < 0 ∨ X.f2 = 0
   ·have HL2 := aS (show V = usdC (usdL a1 a2 out (l0.drop (i + 1).toNat)) by rw [HL.out, usdL_cons, if_pos hm])
    clear HL
    by_cases h1 : X.f1 < 0
    ·have h1b : decide (X.f1 < 0) = true := decide_eq_true h1
     clear hm h1
     go_wp2_with fail
     go_roundg k1
     case measure => omega
     case rel => exact ⟨out, i + 1, by rw [hwi], ⟨HN.out.1.1, HN.out.1.2, HN.out.2.1⟩, HL2, ⟨HT.out.s⟩⟩
    have h1b : decide (X.f1 < 0) = false := decide_eq_false h1
    have h2b : (X.f2 == 0) = true := beq_iff_eq.2 (hm.resolve_left h1)
    clear hm h1
    go_wp2_with fail
    go_roundg k1
    case measure => omega
    case rel => exact ⟨out, i + 1, by rw [hwi], ⟨HN.out.1.1, HN.out.1.2, HN.out.2.1⟩, HL2, ⟨HT.out.s⟩⟩
   have h1b : decide (X.f1 < 0) = false := decide_eq_false (fun h => hm (.inl h))
   have h2b : (X.f2 == 0) = false := beq_eq_false_iff_ne.2 (fun h => hm (.inr h))
   have HL2 := aS (show V = usdC (if (tmV (qq X.f1 a2)).2 = 0 ∧ (tmV (qq X.f1 a2 + qq X.f0 a1 * qq X.f2 X.f3)).2 = 0 then usdL a1 a2 (out ++ [spn (qq X.f1 a2) (qq X.f1 a2 + qq X.f0 a1 * qq X.f2 X.f3)]) (l0.drop (i + 1).toNat) else none) by rw [HL.out, usdL_cons, if_neg hm])
   clear HL hm
   obtain ⟨T1, T2, T3, hT, hTn⟩ := time_is (qq X.f1 a2) 2 (by decide)
   obtain ⟨U1, U2, U3, hU, hUn⟩ := time_is (qq X.f1 a2 + qq X.f0 a1 * qq X.f2 X.f3) 7 (by decide)
   have HTn := aS hTn
   have HUn := aS hUn
   have HL3 := aS (show V = usdC (if T3 = 0 ∧ U3 = 0 then usdL a1 a2 (out ++ [(⟨⟨T1, T2⟩, ⟨U1, U2⟩⟩ : Spn)]) (l0.drop (i + 1).toNat) else none) by
    rw [HL2.out, hT.1, hT.2.1, hT.2.2, hU.1, hU.2.1, hU.2.2]
    rfl)
   clear hT hTn hU hUn HL2
   go_wp2_with fail
   refine (ratioE_n X.f1 a2 W1 HJ.out.2.1 HI.out.2.1 HI.out.2.2).mono ?_
   rintro e w5 ⟨g5, hg5, rfl, hb5, hN5⟩
   have H5 := aS (And.intro hN5 (HT.out.step hb5))
   clear hb5 hN5 hg5 HT c0 c1 c2 c3
   go_wp2_with fail
   refine (HTn.out w5 g5 H5.out.1).mono ?_
   rintro e wa ⟨ua, rfl, hba⟩
   have H6 := aS (And.intro (H5.out.1.below hba) (H5.out.2.step hba))
   have hxa := aS (And.intro (blk_new wa (.cells #[.int .i64 T1, .int .i64 T2] 24 (0, 0))) (below_alloc (Below.refl wa.heap.size wa) (.cells #[.int .i64 T1, .int .i64 T2] 24 (0, 0))))
   clear hba H5 HTn ua
   go_upto_region 11 with fail
   generalize hWa : World.alloc wa _ = Wa
   have H7 := aS (show Wa.heap[wa.heap.size]? = some (timeObj T1 T2) ∧ RQ Wa g5 (qq X.f1 a2) 2 ∧ Tu w Wa u9 out G X by rw [← hWa]; exact ⟨hxa.out.1, H6.out.1.below hxa.out.2, H6.out.2.step hxa.out.2⟩)
   clear hWa hxa H6
   generalize wa.heap.size = ga at *
   have hb0 : Below Wa.heap.size Wa Wa.drew := below_drew' (Below.refl _ _)
   refine start_ (n := 19) (S := fun w' => w'.cell? ⟨G, 0, none⟩ = some (.int .i64 X.f0) ∧ w'.cell? ⟨G, 2, none⟩ = some (.int .i64 X.f2) ∧ w'.cell? ⟨G, 3, none⟩ = some (.int .i64 X.f3)) (ds := [17]) (bs 19 0) (by kernel_rfl) rfl rfl ⟨(H7.out.2.2.step hb0).cells.1, (H7.out.2.2.step hb0).cells.2.2.1, (H7.out.2.2.step hb0).cells.2.2.2⟩ (fun hHeld => ?_)
   refine zP 0 48 19 1 ?_
   refine zP 1 49 19 3 ?_
   refine zP 3 51 19 11 ?_
   refine zP 5 53 19 43 ?_
   refine zP 7 55 19 171 ?_
   refine zT 2 50 19 175 hHeld ?_
   refine zT 6 54 19 239 hHeld ?_
   refine zT 8 56 19 495 hHeld ?_
   refine join_ (σ := Nat × Nat × Nat × Nat × Nat × Nat) 2 (bs 19 131071) (fun ⟨gp, gr, gm, gd, u12, g16⟩ => [(52, .pointer (some ⟨gp, 0, none⟩)), (57, .pointer (some ⟨gr, 0, none⟩)), (58, .pointer (some ⟨gm, 0, none⟩)), (59, .pointer (some ⟨gd, 0, none⟩)), (60, .tuple #[.agg #[.int .i64 U1, .int .i64 U2], .int .i64 U3]), (47, .tuple #[.agg #[.int .i64 U1, .int .i64 U2], .int .i64 U3]), (61, .agg #[.int .i64 U1, .int .i64 U2]), (62, .int .i64 U3), (15, .pointer (some ⟨g16, 0, none⟩))]) (fun ⟨gp, gr, gm, gd, u12, g16⟩ w' => Below Wa.heap.size Wa w' ∧ (RQ w' gp (qq X.f0 a1) 2) ∧ (RQ w' gr (qq X.f2 X.f3) 2) ∧ (RQ w' gm (qq X.f0 a1 * qq X.f2 X.f3) 4) ∧ (RQ w' gd (qq X.f1 a2 + qq X.f0 a1 * qq X.f2 X.f3) 7) ∧ (True) ∧ (Wa.heap.size ≤ g16 ∧ w'.heap[g16]? = some (.cells #[.int .i64 0, .int .i64 0] 24))) ?_ (fun hq_4_9_10_11_12_13_14_15_16 => ?_)
   rotate_left
   ·
    refine join_ (σ := Nat × Nat × Nat × Nat × Nat × Nat) 3 (bs 19 65535) (fun ⟨gp, gr, gm, gd, u12, _⟩ => [(52, .pointer (some ⟨gp, 0, none⟩)), (57, .pointer (some ⟨gr, 0, none⟩)), (58, .pointer (some ⟨gm, 0, none⟩)), (59, .pointer (some ⟨gd, 0, none⟩)), (60, .tuple #[.agg #[.int .i64 U1, .int .i64 U2], .int .i64 U3]), (47, .tuple #[.agg #[.int .i64 U1, .int .i64 U2], .int .i64 U3]), (61, .agg #[.int .i64 U1, .int .i64 U2]), (62, .int .i64 U3)]) (fun ⟨gp, gr, gm, gd, u12, _⟩ w' => Below Wa.heap.size Wa w' ∧ (RQ w' gp (qq X.f0 a1) 2) ∧ (RQ w' gr (qq X.f2 X.f3) 2) ∧ (RQ w' gm (qq X.f0 a1 * qq X.f2 X.f3) 4) ∧ (RQ w' gd (qq X.f1 a2 + qq X.f0 a1 * qq X.f2 X.f3) 7) ∧ (True)) ?_ (fun hq_4_9_10_11_12_13_14_15 => ?_)
    ·rintro ⟨gp, gr, gm, gd, u12, g16⟩ w' ⟨hB, f4, f9, f10, f11, f12⟩
     refine norm_ (a' := ?_) ?_ ?_; rotate_left; (exact aQ)
     refine one_ (i := 16) (N := some 15) (bs 19 131071) rfl rfl (by kernel_rfl) (by decide) (fun K hK => ?_)
     ·
      refine value_ (v := .pointer (some ⟨w'.heap.size, 0, none⟩)) (w1 := w'.alloc (.cells #[.int .i64 0, .int .i64 0] 24)) (by rfl) rfl ?_ ?_
      ·go_simp
      have hb9 : Below w'.heap.size w' (w'.alloc (.cells #[.int .i64 0, .int .i64 0] 24)) := below_alloc (Below.refl _ _) _
      have n16 := blk_new w' (.cells #[.int .i64 0, .int .i64 0] 24)
      have hB9 := hB.trans (hb9.mono hB.size)
      refine hK.out _ _ ⟨(H7.out.2.2.step hB9).cells.1, (H7.out.2.2.step hB9).cells.2.2.1, (H7.out.2.2.step hB9).cells.2.2.2⟩ (fun hHeld => ?_)
      clear hK K
      refine norm_ ?_ (hq_4_9_10_11_12_13_14_15_16 ⟨gp, gr, gm, gd, u12, w'.heap.size⟩ _ ⟨hB9, f4.below hb9, f9.below hb9, f10.below hb9, f11.below hb9, trivial, ⟨hB.size, n16⟩⟩); (exact aP)
    refine join_ (σ := Nat × Nat × Nat × Nat × Nat × Nat) 6 (bs 19 69631) (fun ⟨gp, gr, gm, gd, _, g16⟩ => [(52, .pointer (some ⟨gp, 0, none⟩)), (57, .pointer (some ⟨gr, 0, none⟩)), (58, .pointer (some ⟨gm, 0, none⟩)), (59, .pointer (some ⟨gd, 0, none⟩)), (15, .pointer (some ⟨g16, 0, none⟩))]) (fun ⟨gp, gr, gm, gd, _, g16⟩ w' => Below Wa.heap.size Wa w' ∧ (RQ w' gp (qq X.f0 a1) 2) ∧ (RQ w' gr (qq X.f2 X.f3) 2) ∧ (RQ w' gm (qq X.f0 a1 * qq X.f2 X.f3) 4) ∧ (RQ w' gd (qq X.f1 a2 + qq X.f0 a1 * qq X.f2 X.f3) 7) ∧ (Wa.heap.size ≤ g16 ∧ w'.heap[g16]? = some (.cells #[.int .i64 0, .int .i64 0] 24))) ?_ (fun hq_4_9_10_11_16 => ?_)
    ·rintro ⟨gp, gr, gm, gd, u12, g16⟩ w' ⟨hB, f4, f9, f10, f11, f16⟩
     refine norm_ (a' := ?_) ?_ ?_; rotate_left; (exact aQ)
     refine one_ (i := 12) (N := some 60) (bs 19 73727) rfl rfl (by kernel_rfl) (by decide) (fun K hK => ?_)
     ·
      refine goes_ Tryz.func66 (by kernel_rfl) rfl #[.pointer (some ⟨gd, 0, none⟩)] (by rfl) rfl rfl (by simp only [List.map_toArray, List.map_cons, List.map_nil]; rfl) ?_
      with_reducible refine (HUn.out w' gd f11).mono ?_
      rintro e w9 ⟨u12, rfl, hb9⟩
      refine ⟨_, rfl, ?_⟩
      have hB9 := hB.trans (hb9.mono hB.size)
      refine hK.out _ _ ⟨(H7.out.2.2.step hB9).cells.1, (H7.out.2.2.step hB9).cells.2.2.1, (H7.out.2.2.step hB9).cells.2.2.2⟩ (fun hHeld => ?_)
      clear hK K
      refine norm_ (a' := ?_) ?_ ?_; rotate_left; (· show Act.put _ (some 60) _ = _; simp only [putAll, Act.put, List.setIfInBounds_toArray, List.set_cons_zero, List.set_cons_succ, i64_w, i32_w]; rfl)
      refine pure_ (i := 13) (N := some 47) (v := ?_) (a' := ?_) (bs 19 81919) rfl rfl (by kernel_rfl) (fun _ _ _ h => h) (Or.inl ⟨by rfl, ?_⟩) ?_ ?_; rotate_left; (· intro w'; go_simp; first | done | with_reducible rfl); rotate_left; (· simp only [Act.put, List.setIfInBounds_toArray, List.set_cons_zero, List.set_cons_succ, i64_w, i32_w]; rfl)
      refine pure_ (i := 14) (N := some 61) (v := ?_) (a' := ?_) (bs 19 98303) rfl rfl (by kernel_rfl) (fun _ _ _ h => h) (Or.inl ⟨by rfl, ?_⟩) ?_ ?_; rotate_left; (· intro w'; go_simp; first | done | with_reducible rfl); rotate_left; (· simp only [Act.put, List.setIfInBounds_toArray, List.set_cons_zero, List.set_cons_succ, i64_w, i32_w]; rfl)
      refine pure_ (i := 15) (N := some 62) (v := ?_) (a' := ?_) (bs 19 131071) rfl rfl (by kernel_rfl) (fun _ _ _ h => h) (Or.inl ⟨by rfl, ?_⟩) ?_ ?_; rotate_left; (· intro w'; go_simp; first | done | with_reducible rfl); rotate_left; (· simp only [Act.put, List.setIfInBounds_toArray, List.set_cons_zero, List.set_cons_succ, i64_w, i32_w]; rfl)
      refine norm_ ?_ (hq_4_9_10_11_12_13_14_15_16 ⟨gp, gr, gm, gd, u12, g16⟩ _ ⟨hB9, f4.below hb9, f9.below hb9, f10.below hb9, f11.below hb9, trivial, ⟨f16.1, blk_below f16.2 hb9⟩⟩); (exact aP)
    refine join_ (σ := Nat × Nat × Nat × Nat × Nat × Nat) 7 (bs 19 67583) (fun ⟨gp, gr, gm, _, _, g16⟩ => [(52, .pointer (some ⟨gp, 0, none⟩)), (57, .pointer (some ⟨gr, 0, none⟩)), (58, .pointer (some ⟨gm, 0, none⟩)), (15, .pointer (some ⟨g16, 0, none⟩))]) (fun ⟨gp, gr, gm, _, _, g16⟩ w' => Below Wa.heap.size Wa w' ∧ (RQ w' gp (qq X.f0 a1) 2) ∧ (RQ w' gr (qq X.f2 X.f3) 2) ∧ (RQ w' gm (qq X.f0 a1 * qq X.f2 X.f3) 4) ∧ (Wa.heap.size ≤ g16 ∧ w'.heap[g16]? = some (.cells #[.int .i64 0, .int .i64 0] 24))) ?_ (fun hq_4_9_10_16 => ?_)
    ·rintro ⟨gp, gr, gm, gd, u12, g16⟩ w' ⟨hB, f4, f9, f10, f16⟩
     refine norm_ (a' := ?_) ?_ ?_; rotate_left; (exact aQ)
     refine one_ (i := 11) (N := some 59) (bs 19 69631) rfl rfl (by kernel_rfl) (by decide) (fun K hK => ?_)
     ·
      refine goes_ Tryz.func63 (by kernel_rfl) rfl #[.pointer (some ⟨g5, 0, none⟩), .pointer (some ⟨gm, 0, none⟩)] (by rfl) rfl rfl (by simp only [List.map_toArray, List.map_cons, List.map_nil]; rfl) ?_
      with_reducible refine (addE_n g5 gm (qq X.f1 a2) (qq X.f0 a1 * qq X.f2 X.f3) 2 4 w' (H7.out.2.1.below hB) f10 (by decide)).mono ?_
      rintro e w9 ⟨gd, hgd, rfl, hb9, n11⟩
      refine ⟨_, rfl, ?_⟩
      have hB9 := hB.trans (hb9.mono hB.size)
      refine hK.out _ _ ⟨(H7.out.2.2.step hB9).cells.1, (H7.out.2.2.step hB9).cells.2.2.1, (H7.out.2.2.step hB9).cells.2.2.2⟩ (fun hHeld => ?_)
      clear hK K
      refine norm_ ?_ (hq_4_9_10_11_16 ⟨gp, gr, gm, gd, 0, g16⟩ _ ⟨hB9, f4.below hb9, f9.below hb9, f10.below hb9, n11, ⟨f16.1, blk_below f16.2 hb9⟩⟩); (exact aP)
    refine join_ (σ := Nat × Nat × Nat × Nat × Nat × Nat) 7 (bs 19 4095) (fun ⟨gp, gr, gm, gd, _, _⟩ => [(52, .pointer (some ⟨gp, 0, none⟩)), (57, .pointer (some ⟨gr, 0, none⟩)), (58, .pointer (some ⟨gm, 0, none⟩)), (59, .pointer (some ⟨gd, 0, none⟩))]) (fun ⟨gp, gr, gm, gd, _, _⟩ w' => Below Wa.heap.size Wa w' ∧ (RQ w' gp (qq X.f0 a1) 2) ∧ (RQ w' gr (qq X.f2 X.f3) 2) ∧ (RQ w' gm (qq X.f0 a1 * qq X.f2 X.f3) 4) ∧ (RQ w' gd (qq X.f1 a2 + qq X.f0 a1 * qq X.f2 X.f3) 7)) ?_ (fun hq_4_9_10_11 => ?_)
    ·rintro ⟨gp, gr, gm, gd, u12, g16⟩ w' ⟨hB, f4, f9, f10, f11⟩
     refine norm_ (a' := ?_) ?_ ?_; rotate_left; (exact aQ)
     refine two_ (i := 12) (j := 16) (Ni := some 60) (Nj := some 15) (bs 19 8191) (bs 19 69631) rfl rfl rfl rfl (by kernel_rfl) (by decide) (by decide) (fun K hK => ?_) (fun K hK => ?_)
     ·
      refine goes_ Tryz.func66 (by kernel_rfl) rfl #[.pointer (some ⟨gd, 0, none⟩)] (by rfl) rfl rfl (by simp only [List.map_toArray, List.map_cons, List.map_nil]; rfl) ?_
      with_reducible refine (HUn.out w' gd f11).mono ?_
      rintro e w9 ⟨u12, rfl, hb9⟩
      refine ⟨_, rfl, ?_⟩
      have hB9 := hB.trans (hb9.mono hB.size)
      refine hK.out _ _ ⟨(H7.out.2.2.step hB9).cells.1, (H7.out.2.2.step hB9).cells.2.2.1, (H7.out.2.2.step hB9).cells.2.2.2⟩ (fun hHeld => ?_)
      clear hK K
      refine norm_ (a' := ?_) ?_ ?_; rotate_left; (· show Act.put _ (some 60) _ = _; simp only [putAll, Act.put, List.setIfInBounds_toArray, List.set_cons_zero, List.set_cons_succ, i64_w, i32_w]; rfl)
      refine pure_ (i := 13) (N := some 47) (v := ?_) (a' := ?_) (bs 19 16383) rfl rfl (by kernel_rfl) (fun _ _ _ h => h) (Or.inl ⟨by rfl, ?_⟩) ?_ ?_; rotate_left; (· intro w'; go_simp; first | done | with_reducible rfl); rotate_left; (· simp only [Act.put, List.setIfInBounds_toArray, List.set_cons_zero, List.set_cons_succ, i64_w, i32_w]; rfl)
      refine pure_ (i := 14) (N := some 61) (v := ?_) (a' := ?_) (bs 19 32767) rfl rfl (by kernel_rfl) (fun _ _ _ h => h) (Or.inl ⟨by rfl, ?_⟩) ?_ ?_; rotate_left; (· intro w'; go_simp; first | done | with_reducible rfl); rotate_left; (· simp only [Act.put, List.setIfInBounds_toArray, List.set_cons_zero, List.set_cons_succ, i64_w, i32_w]; rfl)
      refine pure_ (i := 15) (N := some 62) (v := ?_) (a' := ?_) (bs 19 65535) rfl rfl (by kernel_rfl) (fun _ _ _ h => h) (Or.inl ⟨by rfl, ?_⟩) ?_ ?_; rotate_left; (· intro w'; go_simp; first | done | with_reducible rfl); rotate_left; (· simp only [Act.put, List.setIfInBounds_toArray, List.set_cons_zero, List.set_cons_succ, i64_w, i32_w]; rfl)
      refine norm_ ?_ (hq_4_9_10_11_12_13_14_15 ⟨gp, gr, gm, gd, u12, 0⟩ _ ⟨hB9, f4.below hb9, f9.below hb9, f10.below hb9, f11.below hb9, trivial⟩); (exact aP)
     ·
      refine value_ (v := .pointer (some ⟨w'.heap.size, 0, none⟩)) (w1 := w'.alloc (.cells #[.int .i64 0, .int .i64 0] 24)) (by rfl) rfl ?_ ?_
      ·go_simp
      have hb9 : Below w'.heap.size w' (w'.alloc (.cells #[.int .i64 0, .int .i64 0] 24)) := below_alloc (Below.refl _ _) _
      have n16 := blk_new w' (.cells #[.int .i64 0, .int .i64 0] 24)
      have hB9 := hB.trans (hb9.mono hB.size)
      refine hK.out _ _ ⟨(H7.out.2.2.step hB9).cells.1, (H7.out.2.2.step hB9).cells.2.2.1, (H7.out.2.2.step hB9).cells.2.2.2⟩ (fun hHeld => ?_)
      clear hK K
      refine norm_ ?_ (hq_4_9_10_11_16 ⟨gp, gr, gm, gd, 0, w'.heap.size⟩ _ ⟨hB9, f4.below hb9, f9.below hb9, f10.below hb9, f11.below hb9, ⟨hB.size, n16⟩⟩); (exact aP)
    refine join_ (σ := Nat × Nat × Nat × Nat × Nat × Nat) 8 (bs 19 66559) (fun ⟨gp, gr, _, _, _, g16⟩ => [(52, .pointer (some ⟨gp, 0, none⟩)), (57, .pointer (some ⟨gr, 0, none⟩)), (15, .pointer (some ⟨g16, 0, none⟩))]) (fun ⟨gp, gr, _, _, _, g16⟩ w' => Below Wa.heap.size Wa w' ∧ (RQ w' gp (qq X.f0 a1) 2) ∧ (RQ w' gr (qq X.f2 X.f3) 2) ∧ (Wa.heap.size ≤ g16 ∧ w'.heap[g16]? = some (.cells #[.int .i64 0, .int .i64 0] 24))) ?_ (fun hq_4_9_16 => ?_)
    ·rintro ⟨gp, gr, gm, gd, u12, g16⟩ w' ⟨hB, f4, f9, f16⟩
     refine norm_ (a' := ?_) ?_ ?_; rotate_left; (exact aQ)
     refine one_ (i := 10) (N := some 58) (bs 19 67583) rfl rfl (by kernel_rfl) (by decide) (fun K hK => ?_)
     ·
      refine goes_ Tryz.func64 (by kernel_rfl) rfl #[.pointer (some ⟨gp, 0, none⟩), .pointer (some ⟨gr, 0, none⟩)] (by rfl) rfl rfl (by simp only [List.map_toArray, List.map_cons, List.map_nil]; rfl) ?_
      with_reducible refine (mulE_n gp gr (qq X.f0 a1) (qq X.f2 X.f3) 2 2 w' f4 f9 (by decide)).mono ?_
      rintro e w9 ⟨gm, hgm, rfl, hb9, n10⟩
      refine ⟨_, rfl, ?_⟩
      have hB9 := hB.trans (hb9.mono hB.size)
      refine hK.out _ _ ⟨(H7.out.2.2.step hB9).cells.1, (H7.out.2.2.step hB9).cells.2.2.1, (H7.out.2.2.step hB9).cells.2.2.2⟩ (fun hHeld => ?_)
      clear hK K
      refine norm_ ?_ (hq_4_9_10_16 ⟨gp, gr, gm, 0, 0, g16⟩ _ ⟨hB9, f4.below hb9, f9.below hb9, n10, ⟨f16.1, blk_below f16.2 hb9⟩⟩); (exact aP)
    refine join_ (σ := Nat × Nat × Nat × Nat × Nat × Nat) 8 (bs 19 2047) (fun ⟨gp, gr, gm, _, _, _⟩ => [(52, .pointer (some ⟨gp, 0, none⟩)), (57, .pointer (some ⟨gr, 0, none⟩)), (58, .pointer (some ⟨gm, 0, none⟩))]) (fun ⟨gp, gr, gm, _, _, _⟩ w' => Below Wa.heap.size Wa w' ∧ (RQ w' gp (qq X.f0 a1) 2) ∧ (RQ w' gr (qq X.f2 X.f3) 2) ∧ (RQ w' gm (qq X.f0 a1 * qq X.f2 X.f3) 4)) ?_ (fun hq_4_9_10 => ?_)
    ·rintro ⟨gp, gr, gm, gd, u12, g16⟩ w' ⟨hB, f4, f9, f10⟩
     refine norm_ (a' := ?_) ?_ ?_; rotate_left; (exact aQ)
     refine two_ (i := 11) (j := 16) (Ni := some 59) (Nj := some 15) (bs 19 4095) (bs 19 67583) rfl rfl rfl rfl (by kernel_rfl) (by decide) (by decide) (fun K hK => ?_) (fun K hK => ?_)
     ·
      refine goes_ Tryz.func63 (by kernel_rfl) rfl #[.pointer (some ⟨g5, 0, none⟩), .pointer (some ⟨gm, 0, none⟩)] (by rfl) rfl rfl (by simp only [List.map_toArray, List.map_cons, List.map_nil]; rfl) ?_
      with_reducible refine (addE_n g5 gm (qq X.f1 a2) (qq X.f0 a1 * qq X.f2 X.f3) 2 4 w' (H7.out.2.1.below hB) f10 (by decide)).mono ?_
      rintro e w9 ⟨gd, hgd, rfl, hb9, n11⟩
      refine ⟨_, rfl, ?_⟩
      have hB9 := hB.trans (hb9.mono hB.size)
      refine hK.out _ _ ⟨(H7.out.2.2.step hB9).cells.1, (H7.out.2.2.step hB9).cells.2.2.1, (H7.out.2.2.step hB9).cells.2.2.2⟩ (fun hHeld => ?_)
      clear hK K
      refine norm_ ?_ (hq_4_9_10_11 ⟨gp, gr, gm, gd, 0, 0⟩ _ ⟨hB9, f4.below hb9, f9.below hb9, f10.below hb9, n11⟩); (exact aP)
     ·
      refine value_ (v := .pointer (some ⟨w'.heap.size, 0, none⟩)) (w1 := w'.alloc (.cells #[.int .i64 0, .int .i64 0] 24)) (by rfl) rfl ?_ ?_
      ·go_simp
      have hb9 : Below w'.heap.size w' (w'.alloc (.cells #[.int .i64 0, .int .i64 0] 24)) := below_alloc (Below.refl _ _) _
      have n16 := blk_new w' (.cells #[.int .i64 0, .int .i64 0] 24)
      have hB9 := hB.trans (hb9.mono hB.size)
      refine hK.out _ _ ⟨(H7.out.2.2.step hB9).cells.1, (H7.out.2.2.step hB9).cells.2.2.1, (H7.out.2.2.step hB9).cells.2.2.2⟩ (fun hHeld => ?_)
      clear hK K
      refine norm_ ?_ (hq_4_9_10_16 ⟨gp, gr, gm, 0, 0, w'.heap.size⟩ _ ⟨hB9, f4.below hb9, f9.below hb9, f10.below hb9, ⟨hB.size, n16⟩⟩); (exact aP)
    refine join_ (σ := Nat × Nat × Nat × Nat × Nat × Nat) 9 (bs 19 66047) (fun ⟨gp, _, _, _, _, g16⟩ => [(52, .pointer (some ⟨gp, 0, none⟩)), (15, .pointer (some ⟨g16, 0, none⟩))]) (fun ⟨gp, _, _, _, _, g16⟩ w' => Below Wa.heap.size Wa w' ∧ (RQ w' gp (qq X.f0 a1) 2) ∧ (Wa.heap.size ≤ g16 ∧ w'.heap[g16]? = some (.cells #[.int .i64 0, .int .i64 0] 24))) ?_ (fun hq_4_16 => ?_)
    ·rintro ⟨gp, gr, gm, gd, u12, g16⟩ w' ⟨hB, f4, f16⟩
     refine norm_ (a' := ?_) ?_ ?_; rotate_left; (exact aQ)
     refine one_ (i := 9) (N := some 57) (bs 19 66559) rfl rfl (by kernel_rfl) (by decide) (fun K hK => ?_)
     ·
      refine goes_ Tryz.func59 (by kernel_rfl) rfl #[.int .i64 X.f2, .int .i64 X.f3] (by rfl) rfl rfl (by simp only [List.map_toArray, List.map_cons, List.map_nil]; rfl) ?_
      with_reducible refine (ratioE_n X.f2 X.f3 w' HJ.out.2.2.1 HJ.out.2.2.2.1 HJ.out.2.2.2.2).mono ?_
      rintro e w9 ⟨gr, hgr, rfl, hb9, n9⟩
      refine ⟨_, rfl, ?_⟩
      have hB9 := hB.trans (hb9.mono hB.size)
      refine hK.out _ _ ⟨(H7.out.2.2.step hB9).cells.1, (H7.out.2.2.step hB9).cells.2.2.1, (H7.out.2.2.step hB9).cells.2.2.2⟩ (fun hHeld => ?_)
      clear hK K
      refine norm_ ?_ (hq_4_9_16 ⟨gp, gr, 0, 0, 0, g16⟩ _ ⟨hB9, f4.below hb9, n9, ⟨f16.1, blk_below f16.2 hb9⟩⟩); (exact aP)
    refine join_ (σ := Nat × Nat × Nat × Nat × Nat × Nat) 9 (bs 19 1023) (fun ⟨gp, gr, _, _, _, _⟩ => [(52, .pointer (some ⟨gp, 0, none⟩)), (57, .pointer (some ⟨gr, 0, none⟩))]) (fun ⟨gp, gr, _, _, _, _⟩ w' => Below Wa.heap.size Wa w' ∧ (RQ w' gp (qq X.f0 a1) 2) ∧ (RQ w' gr (qq X.f2 X.f3) 2)) ?_ (fun hq_4_9 => ?_)
    ·rintro ⟨gp, gr, gm, gd, u12, g16⟩ w' ⟨hB, f4, f9⟩
     refine norm_ (a' := ?_) ?_ ?_; rotate_left; (exact aQ)
     refine two_ (i := 10) (j := 16) (Ni := some 58) (Nj := some 15) (bs 19 2047) (bs 19 66559) rfl rfl rfl rfl (by kernel_rfl) (by decide) (by decide) (fun K hK => ?_) (fun K hK => ?_)
     ·
      refine goes_ Tryz.func64 (by kernel_rfl) rfl #[.pointer (some ⟨gp, 0, none⟩), .pointer (some ⟨gr, 0, none⟩)] (by rfl) rfl rfl (by simp only [List.map_toArray, List.map_cons, List.map_nil]; rfl) ?_
      with_reducible refine (mulE_n gp gr (qq X.f0 a1) (qq X.f2 X.f3) 2 2 w' f4 f9 (by decide)).mono ?_
      rintro e w9 ⟨gm, hgm, rfl, hb9, n10⟩
      refine ⟨_, rfl, ?_⟩
      have hB9 := hB.trans (hb9.mono hB.size)
      refine hK.out _ _ ⟨(H7.out.2.2.step hB9).cells.1, (H7.out.2.2.step hB9).cells.2.2.1, (H7.out.2.2.step hB9).cells.2.2.2⟩ (fun hHeld => ?_)
      clear hK K
      refine norm_ ?_ (hq_4_9_10 ⟨gp, gr, gm, 0, 0, 0⟩ _ ⟨hB9, f4.below hb9, f9.below hb9, n10⟩); (exact aP)
     ·
      refine value_ (v := .pointer (some ⟨w'.heap.size, 0, none⟩)) (w1 := w'.alloc (.cells #[.int .i64 0, .int .i64 0] 24)) (by rfl) rfl ?_ ?_
      ·go_simp
      have hb9 : Below w'.heap.size w' (w'.alloc (.cells #[.int .i64 0, .int .i64 0] 24)) := below_alloc (Below.refl _ _) _
      have n16 := blk_new w' (.cells #[.int .i64 0, .int .i64 0] 24)
      have hB9 := hB.trans (hb9.mono hB.size)
      refine hK.out _ _ ⟨(H7.out.2.2.step hB9).cells.1, (H7.out.2.2.step hB9).cells.2.2.1, (H7.out.2.2.step hB9).cells.2.2.2⟩ (fun hHeld => ?_)
      clear hK K
      refine norm_ ?_ (hq_4_9_16 ⟨gp, gr, 0, 0, 0, w'.heap.size⟩ _ ⟨hB9, f4.below hb9, f9.below hb9, ⟨hB.size, n16⟩⟩); (exact aP)
    refine join_ (σ := Nat × Nat × Nat × Nat × Nat × Nat) 10 (bs 19 511) (fun ⟨gp, _, _, _, _, _⟩ => [(52, .pointer (some ⟨gp, 0, none⟩))]) (fun ⟨gp, _, _, _, _, _⟩ w' => Below Wa.heap.size Wa w' ∧ (RQ w' gp (qq X.f0 a1) 2)) ?_ (fun hq_4 => ?_)
    ·rintro ⟨gp, gr, gm, gd, u12, g16⟩ w' ⟨hB, f4⟩
     refine norm_ (a' := ?_) ?_ ?_; rotate_left; (exact aQ)
     refine two_ (i := 9) (j := 16) (Ni := some 57) (Nj := some 15) (bs 19 1023) (bs 19 66047) rfl rfl rfl rfl (by kernel_rfl) (by decide) (by decide) (fun K hK => ?_) (fun K hK => ?_)
     ·
      refine goes_ Tryz.func59 (by kernel_rfl) rfl #[.int .i64 X.f2, .int .i64 X.f3] (by rfl) rfl rfl (by simp only [List.map_toArray, List.map_cons, List.map_nil]; rfl) ?_
      with_reducible refine (ratioE_n X.f2 X.f3 w' HJ.out.2.2.1 HJ.out.2.2.2.1 HJ.out.2.2.2.2).mono ?_
      rintro e w9 ⟨gr, hgr, rfl, hb9, n9⟩
      refine ⟨_, rfl, ?_⟩
      have hB9 := hB.trans (hb9.mono hB.size)
      refine hK.out _ _ ⟨(H7.out.2.2.step hB9).cells.1, (H7.out.2.2.step hB9).cells.2.2.1, (H7.out.2.2.step hB9).cells.2.2.2⟩ (fun hHeld => ?_)
      clear hK K
      refine norm_ ?_ (hq_4_9 ⟨gp, gr, 0, 0, 0, 0⟩ _ ⟨hB9, f4.below hb9, n9⟩); (exact aP)
     ·
      refine value_ (v := .pointer (some ⟨w'.heap.size, 0, none⟩)) (w1 := w'.alloc (.cells #[.int .i64 0, .int .i64 0] 24)) (by rfl) rfl ?_ ?_
      ·go_simp
      have hb9 : Below w'.heap.size w' (w'.alloc (.cells #[.int .i64 0, .int .i64 0] 24)) := below_alloc (Below.refl _ _) _
      have n16 := blk_new w' (.cells #[.int .i64 0, .int .i64 0] 24)
      have hB9 := hB.trans (hb9.mono hB.size)
      refine hK.out _ _ ⟨(H7.out.2.2.step hB9).cells.1, (H7.out.2.2.step hB9).cells.2.2.1, (H7.out.2.2.step hB9).cells.2.2.2⟩ (fun hHeld => ?_)
      clear hK K
      refine norm_ ?_ (hq_4_16 ⟨gp, 0, 0, 0, 0, w'.heap.size⟩ _ ⟨hB9, f4.below hb9, ⟨hB.size, n16⟩⟩); (exact aP)
    refine join_ (σ := Nat × Nat × Nat × Nat × Nat × Nat) 10 (bs 19 66031) (fun ⟨_, _, _, _, _, g16⟩ => [(15, .pointer (some ⟨g16, 0, none⟩))]) (fun ⟨_, _, _, _, _, g16⟩ w' => Below Wa.heap.size Wa w' ∧ (Wa.heap.size ≤ g16 ∧ w'.heap[g16]? = some (.cells #[.int .i64 0, .int .i64 0] 24))) ?_ (fun hq_16 => ?_)
    ·rintro ⟨gp, gr, gm, gd, u12, g16⟩ w' ⟨hB, f16⟩
     refine norm_ (a' := ?_) ?_ ?_; rotate_left; (exact aQ)
     refine one_ (i := 4) (N := some 52) (bs 19 66047) rfl rfl (by kernel_rfl) (by decide) (fun K hK => ?_)
     ·
      refine goes_ Tryz.func59 (by kernel_rfl) rfl #[.int .i64 X.f0, .int .i64 a1] (by rfl) rfl rfl (by simp only [List.map_toArray, List.map_cons, List.map_nil]; rfl) ?_
      with_reducible refine (ratioE_n X.f0 a1 w' HJ.out.1 HI.out.1.1 HI.out.1.2).mono ?_
      rintro e w9 ⟨gp, hgp, rfl, hb9, n4⟩
      refine ⟨_, rfl, ?_⟩
      have hB9 := hB.trans (hb9.mono hB.size)
      refine hK.out _ _ ⟨(H7.out.2.2.step hB9).cells.1, (H7.out.2.2.step hB9).cells.2.2.1, (H7.out.2.2.step hB9).cells.2.2.2⟩ (fun hHeld => ?_)
      clear hK K
      refine norm_ ?_ (hq_4_16 ⟨gp, 0, 0, 0, 0, g16⟩ _ ⟨hB9, n4, ⟨f16.1, blk_below f16.2 hb9⟩⟩); (exact aP)
    have hB := below_drew' (Below.refl _ Wa.drew)
    refine two_ (i := 4) (j := 16) (Ni := some 52) (Nj := some 15) (bs 19 511) (bs 19 66031) rfl rfl rfl rfl (by kernel_rfl) (by decide) (by decide) (fun K hK => ?_) (fun K hK => ?_)
    ·
     refine goes_ Tryz.func59 (by kernel_rfl) rfl #[.int .i64 X.f0, .int .i64 a1] (by rfl) rfl rfl (by simp only [List.map_toArray, List.map_cons, List.map_nil]; rfl) ?_
     with_reducible refine (ratioE_n X.f0 a1 Wa.drew HJ.out.1 HI.out.1.1 HI.out.1.2).mono ?_
     rintro e w9 ⟨gp, hgp, rfl, hb9, n4⟩
     refine ⟨_, rfl, ?_⟩
     have hB9 := hB.trans (hb9.mono hB.size)
     refine hK.out _ _ ⟨(H7.out.2.2.step hB9).cells.1, (H7.out.2.2.step hB9).cells.2.2.1, (H7.out.2.2.step hB9).cells.2.2.2⟩ (fun hHeld => ?_)
     clear hK K
     refine norm_ ?_ (hq_4 ⟨gp, 0, 0, 0, 0, 0⟩ _ ⟨hB9, n4⟩); (exact aP)
    ·
     refine value_ (v := .pointer (some ⟨Wa.drew.heap.size, 0, none⟩)) (w1 := Wa.drew.alloc (.cells #[.int .i64 0, .int .i64 0] 24)) (by rfl) rfl ?_ ?_
     ·go_simp
     have hb9 : Below Wa.drew.heap.size Wa.drew (Wa.drew.alloc (.cells #[.int .i64 0, .int .i64 0] 24)) := below_alloc (Below.refl _ _) _
     have n16 := blk_new Wa.drew (.cells #[.int .i64 0, .int .i64 0] 24)
     have hB9 := hB.trans (hb9.mono hB.size)
     refine hK.out _ _ ⟨(H7.out.2.2.step hB9).cells.1, (H7.out.2.2.step hB9).cells.2.2.1, (H7.out.2.2.step hB9).cells.2.2.2⟩ (fun hHeld => ?_)
     clear hK K
     refine norm_ ?_ (hq_16 ⟨0, 0, 0, 0, 0, Wa.drew.heap.size⟩ _ ⟨hB9, ⟨hB.size, n16⟩⟩); (exact aP)
   rintro ⟨gp, gr, gm, gd, u12, g16⟩ w' ⟨hB, f4, f9, f10, f11, f12, f16⟩
   refine norm_ (a' := ?_) ?_ ?_; rotate_left; (exact aQ)
   have hHeld : w'.cell? ⟨G, 0, none⟩ = some (.int .i64 X.f0) ∧ w'.cell? ⟨G, 2, none⟩ = some (.int .i64 X.f2) ∧ w'.cell? ⟨G, 3, none⟩ = some (.int .i64 X.f3) := ⟨(H7.out.2.2.step hB).cells.1, (H7.out.2.2.step hB).cells.2.2.1, (H7.out.2.2.step hB).cells.2.2.2⟩
   refine zL 17 none 19 262143 (fun K hK => ?_)
   obtain ⟨s0, s1, s2, s3⟩ := time_cells f16.2
   refine skip_ (w1 := ?_) (by rfl) rfl ?_ ?_
   rotate_left
   ·(go_simp; with_reducible rfl)
   refine hK.out _ _ ?_
   clear hK K
   refine zP 18 16 19 524287 ?_
   refine done_ (by kernel_rfl) ?_
   have hz := blk_two (x := .int .i64 U1) (y := .int .i64 U2) f16.2
   have hbF : Below Wa.heap.size Wa ((w'.setCell ⟨g16, 0, none⟩ (.int .i64 U1)).setCell ⟨g16, 1, none⟩ (.int .i64 U2)) := (hB.setCell f16.1 _).setCell f16.1 _
   have HF := aS (And.intro hz (And.intro (blk_below H7.out.1 hbF) (H7.out.2.2.step hbF)))
   generalize hFW : (w'.setCell ⟨g16, 0, none⟩ (.int .i64 U1)).setCell ⟨g16, 1, none⟩ (.int .i64 U2) = FW at *
   clear hz hbF hFW hB f4 f9 f10 f11 f12 f16 hHeld H7 hb0 HUn
   by_cases t3 : T3 = 0
   case neg =>
    have HV4 := aS (show V = ([], 2) by rw [HL3.out, if_neg (fun h => t3 h.1)]; rfl)
    have t3b : (T3 != 0) = true := by simpa using t3
    clear HL3 t3
    go_wp2_with fail
    go_ret2
    rw [HV4.out]
    exact ⟨_, rfl, Kd.R_nil _ _ _ _ _, HF.out.2.2.s.below⟩
   by_cases u3 : U3 = 0
   case neg =>
    have HV4 := aS (show V = ([], 2) by rw [HL3.out, if_neg (fun h => u3 h.2)]; rfl)
    have t3b : (T3 != 0) = false := by simpa using t3
    have u3b : (U3 != 0) = true := by simpa using u3
    clear HL3 t3 u3
    go_wp2_with fail
    go_ret2
    rw [HV4.out]
    exact ⟨_, rfl, Kd.R_nil _ _ _ _ _, HF.out.2.2.s.below⟩
   have HV4 := aS (show V = usdC (usdL a1 a2 (out ++ [(⟨⟨T1, T2⟩, ⟨U1, U2⟩⟩ : Spn)]) (l0.drop (i + 1).toNat)) by rw [HL3.out, if_pos ⟨t3, u3⟩])
   have t3b : (T3 != 0) = false := by simpa using t3
   have u3b : (U3 != 0) = false := by simpa using u3
   clear HL3 t3 u3
   obtain ⟨ka0, ka1, _, _⟩ := time_cells HF.out.2.1
   obtain ⟨kb0, kb1, _, _⟩ := time_cells HF.out.1
   go_wp2_with (first
    | ((with_reducible refine gate_builtin (b := .append) (xs := #[.tmp 69, .tmp 73]) rfl ?_); at_builtin; refine Kd.R_append k53 (w0 := w) w.heap.size rfl (.tmp 69) (.tmp 73) 22 53 (.agg #[(.int .i64 0), (.int .i64 0), (.int .i64 0), (.int .i64 0)]) 32 rfl Tryz.underlying22 info53 rfl (by decide) (by omega) u9 out (⟨⟨T1, T2⟩, ⟨U1, U2⟩⟩ : Spn) [.int .i64 T1, .int .i64 T2, .int .i64 U1, .int .i64 U2] (fun _ => True) (fun _ => False) rfl (by first | (go_simp; done) | (go_simp; rfl)) (k53_mkM _ _ _ (⟨⟨T1, T2⟩, ⟨U1, U2⟩⟩ : Spn)) (fun _ hk => hk.elim) (fun k hk => trivial) HF.out.2.2.s.r HF.out.2.2.s.below HF.out.2.2.s.below.size (by have := HN.out.2.2.2; omega) ?_; intro v9 w9' ho hb hg hat; have HS6 := aS (show Js w w9' v9 (out ++ [(⟨⟨T1, T2⟩, ⟨U1, U2⟩⟩ : Spn)]) from ⟨ho, hb⟩); clear ho hb hg hat))
   go_roundg k1
   case measure => omega
   case rel => exact ⟨out ++ [(⟨⟨T1, T2⟩, ⟨U1, U2⟩⟩ : Spn)], i + 1, by rw [hwi], ⟨HN.out.1.1, HN.out.1.2, by rw [List.length_append]; exact HN.out.2.2.1⟩, HV4, HS6⟩
  have hlb : decide (i < (l0.length : Int)) = false := decide_eq_false hlt
  have HV4 := aS (show V = clnV out by
   rw [hL.out, List.drop_of_length_le (by have := hi.out; omega)]
   rfl)
  have HN := aS (show out.length ≤ 1000000 by have := hi.out; have := HC.out.2.1; omega)
  obtain ⟨A4, c4, e4⟩ := Kd.R_slice hM.out.r
  subst e4
  replace hlt := eq_false hlt
  clear hi hL
  go_wp2_with fail
  refine (Clean_n A4 c4 out wr (Kd.R_reads' hM.out.r).2.2 HN.out).mono ?_
  rintro e w5 ⟨v, rfl, hj⟩
  have HJ := aS (show Js w w5 v (clnV out).1 from ⟨Kd.R_lower hj.r hM.out.below.size, hM.out.below.trans (hj.below.mono hM.out.below.size)⟩)
  rw [← HV4.out] at HJ ⊢
  clear hj HV4
  go_wp2_with fail
  go_ret2
  exact ⟨_, rfl, HJ.out.r, HJ.out.below⟩
end Go.Proofs.YtekommcfpjonmaaGreat.Ub
namespace Go.Proofs.YtekommcfpjonmaaGreat.Pa
open RowKit P E YtekommcfpjonmaaGreatW.PrintWords YtekommcfpjonmaaGreatW.PrintLast Ml Mn
abbrev Nn (l : List Int) : Prop := Cn 1000000000 l
theorem top_cons {x : Int} {l : List Int} (h : Top l) (hx : l = [] → x ≠ 0) : Top (x :: l) := by
 intro hne
 cases l with
 | nil => simpa using hx rfl
 | cons y t =>
  rw [List.getLast_cons (by simp)]
  exact h (by simp)
theorem digit_f (l : List Int) (i : Nat) : dioramaref02_digit.f l (i : Int) = some (l.getD i 0) := by
 unfold dioramaref02_digit.f
 by_cases h : i < l.length
 ·rw [if_pos (by omega), if_pos (by omega), rd_nat]
 rw [if_neg (by omega), getD_ge (by omega)]
theorem tmodB {x : Int} (h : 0 ≤ x) : Int.tmod x 1000000000 = x % 1000000000 := Int.tmod_eq_emod_of_nonneg h
theorem tdivB {x : Int} (h : 0 ≤ x) : Int.tdiv x 1000000000 = x / 1000000000 := Int.tdiv_eq_ediv_of_nonneg h
theorem of_l (m : Nat) : ∀ (x : Int) (acc : List Int), 0 ≤ x → x < pw 1000000000 m → x ≤ 9223372036854775807 → acc.length + m ≤ 1000 → ∃ r, Ev (fun k => dioramaref02_Of.l0 k x acc) (acc ++ r) ∧ Nn r ∧ dv 1000000000 r = x ∧ r.length ≤ m := by
 induction m with
 | zero =>
  intro x acc h0 h1 _ _
  have hx : x = 0 := by simp [pw] at h1; omega
  subst hx
  exact ⟨[], Ev.step (f := fun _ => some (acc ++ [])) (fun k => by simp [dioramaref02_Of.l0]) (Ev.now _), Cn.nil _, rfl, Nat.le_refl _⟩
 | succ m ih =>
  intro x acc h0 h1 h2 hl
  by_cases hx : x = 0
  ·subst hx
   exact ⟨[], Ev.step (f := fun _ => some (acc ++ [])) (fun k => by simp [dioramaref02_Of.l0]) (Ev.now _), Cn.nil _, rfl, Nat.zero_le _⟩
  have hd : x / 1000000000 < pw 1000000000 m := by
   rw [pw_succ] at h1
   omega
  obtain ⟨r, he, hc, hv, hr⟩ := ih (x / 1000000000) (acc ++ [x % 1000000000]) (by omega) hd (by omega) (by simp; omega)
  refine ⟨x % 1000000000 :: r, ?_, ⟨Dg.cons (by omega) (by omega) hc.dg, top_cons hc.top (fun h => ?_)⟩, ?_, by simp; omega⟩
  ·rw [List.append_assoc, List.singleton_append] at he
   refine Ev.step (fun k => ?_) he
   simp only [dioramaref02_Of.l0]
   rw [if_pos (by omega), if_pos (by omega), tdivB h0, tmodB h0, w64 (by omega) (by omega)]
  ·subst h
   simp only [dv] at hv
   omega
  simp only [dv] at hv ⊢
  rw [hv]
  omega
theorem of_f (x : Int) (h0 : 0 ≤ x) (h1 : x ≤ 9223372036854775807) : ∃ r, Ev (fun k => dioramaref02_Of.f k x) r ∧ Nn r ∧ dv 1000000000 r = x ∧ r.length ≤ 3 := by
 obtain ⟨r, he, h⟩ := of_l 3 x [] h0 (by simp [pw]; omega) h1 (by simp)
 exact ⟨r, he, h⟩
theorem trimmed_l (l : List Int) (hd : Dg 1000000000 l) (hl : l.length ≤ 1000000) : ∀ n : Nat, n ≤ l.length → dv 1000000000 (l.take n) = dv 1000000000 l → ∃ r, Ev (fun k => dioramaref02_trimmed.l0 k l (n : Int)) r ∧ Nn r ∧ dv 1000000000 r = dv 1000000000 l ∧ r.length ≤ n := by
 intro n
 induction n with
 | zero =>
  intro _ hv
  refine ⟨[], Ev.step (f := fun _ => some []) (fun k => ?_) (Ev.now _), Cn.nil _, by rw [← hv]; rfl, Nat.le_refl _⟩
  simp [dioramaref02_trimmed.l0]
 | succ n ih =>
  intro hn hv
  have hw : wrap64 (((n + 1 : Nat) : Int) - 1) = (n : Int) := by rw [w64 (by omega) (by omega)]; omega
  by_cases hz : l.getD n 0 = 0
  ·obtain ⟨r, he, hc, hr, hlr⟩ := ih (by omega) (by rw [← hv] ; rw [dv_take_succ', hz]; omega)
   refine ⟨r, Ev.step (fun k => ?_) he, hc, hr, by omega⟩
   simp only [dioramaref02_trimmed.l0, hw, rd_nat]
   rw [if_pos (by omega), if_pos (by omega), if_pos (by omega), if_pos hz]
  refine ⟨l.take (n + 1), Ev.step (f := fun _ => some (l.take (n + 1))) (fun k => ?_) (Ev.now _), ⟨hd.take _, top_of_getD ?_⟩, hv, by simp; omega⟩
  ·simp only [dioramaref02_trimmed.l0, hw, rd_nat]
   rw [if_pos (by omega), if_pos (by omega), if_pos (by omega), if_neg hz, if_pos (by omega), if_pos (by omega), Int.toNat_natCast]
  rw [List.length_take, Nat.min_eq_left (by omega)]
  simp only [Nat.add_sub_cancel]
  rw [List.getD_eq_getElem?_getD, List.getElem?_take_of_lt (by omega), ← List.getD_eq_getElem?_getD]
  exact hz
theorem trimmed_f (l : List Int) (hd : Dg 1000000000 l) (hl : l.length ≤ 1000000) : ∃ r, Ev (fun k => dioramaref02_trimmed.f k l) r ∧ Nn r ∧ dv 1000000000 r = dv 1000000000 l ∧ r.length ≤ l.length :=
 trimmed_l l hd hl l.length (Nat.le_refl _) (by rw [List.take_length])
theorem cmp1 {x y : Int} (h : x < y) : Nd.cmpI x y = -1 := by unfold Nd.cmpI; rw [if_pos h]
theorem cmp2 {x y : Int} (h : y < x) : Nd.cmpI x y = 1 := by unfold Nd.cmpI; rw [if_neg (by omega), if_pos h]
theorem cmp0 {x y : Int} (h : x = y) : Nd.cmpI x y = 0 := by unfold Nd.cmpI; rw [if_neg (by omega), if_neg (by omega)]
theorem compare_l (a b : List Int) (ha : Dg 1000000000 a) (hb : Dg 1000000000 b) (hl : a.length = b.length) (hn : a.length ≤ 1000000) : ∀ i : Nat, i ≤ a.length → dv 1000000000 (a.drop i) = dv 1000000000 (b.drop i) →
  Ev (fun k => dioramaref02_Compare.l0 k a b ((i : Int) - 1)) (Nd.cmpI (dv 1000000000 a) (dv 1000000000 b)) := by
 intro i
 induction i with
 | zero =>
  intro _ h
  refine Ev.step (f := fun _ => some 0) (fun k => ?_) (by rw [cmp0 (by simpa using h)]; exact Ev.now _)
  simp [dioramaref02_Compare.l0]
 | succ i ih =>
  intro hi h
  have e : (((i + 1 : Nat) : Int) - 1) = (i : Int) := by omega
  have hw : wrap64 ((i : Int) - 1) = (i : Int) - 1 := w64 (by omega) (by omega)
  rw [e]
  rcases Int.lt_trichotomy (a.getD i 0) (b.getD i 0) with h1 | h1 | h1
  ·rw [cmp1 (dv_less (by decide) ha hb hl i (by omega) h h1)]
   refine Ev.step (f := fun _ => some (-1)) (fun k => ?_) (Ev.now _)
   simp only [dioramaref02_Compare.l0, rd_nat]
   rw [if_pos (by omega), if_pos (by omega), if_pos (by omega), if_pos (by omega), if_pos h1]
  ·refine Ev.step (fun k => ?_) (ih (by omega) (by rw [dv_drop _ a i (by omega), dv_drop _ b i (by omega), h1, h]))
   simp only [dioramaref02_Compare.l0, rd_nat, hw]
   rw [if_pos (by omega), if_pos (by omega), if_pos (by omega), if_pos (by omega), if_neg (by omega), if_neg (by omega)]
  rw [cmp2 (dv_less (by decide) hb ha hl.symm i (by omega) h.symm h1)]
  refine Ev.step (f := fun _ => some 1) (fun k => ?_) (Ev.now _)
  simp only [dioramaref02_Compare.l0, rd_nat]
  rw [if_pos (by omega), if_pos (by omega), if_pos (by omega), if_pos (by omega), if_neg (by omega), if_pos h1]
theorem compare_f (a b : List Int) (ha : Nn a) (hb : Nn b) (hn : a.length ≤ 1000000) (hm : b.length ≤ 1000000) : Ev (fun k => dioramaref02_Compare.f k a b) (Nd.cmpI (dv 1000000000 a) (dv 1000000000 b)) := by
 by_cases hl : a.length = b.length
 ·have h := compare_l a b ha.dg hb.dg hl hn a.length (Nat.le_refl _) (by rw [List.drop_of_length_le (Nat.le_refl _), List.drop_of_length_le (by omega)])
  refine Ev.congr (fun k => ?_) h
  simp only [dioramaref02_Compare.f]
  rw [if_pos (by omega), w64 (by omega) (by omega)]
 by_cases h1 : a.length < b.length
 ·rw [cmp1 (dv_len (by decide) ha.dg hb h1)]
  refine Ev.congr (f := fun _ => some (-1)) (fun k => ?_) (Ev.now _)
  simp only [dioramaref02_Compare.f]
  rw [if_neg (by omega), if_pos (by omega)]
 rw [cmp2 (dv_len (by decide) hb.dg ha (by omega))]
 refine Ev.congr (f := fun _ => some 1) (fun k => ?_) (Ev.now _)
 simp only [dioramaref02_Compare.f]
 rw [if_neg (by omega), if_neg (by omega)]
end Go.Proofs.YtekommcfpjonmaaGreat.Pa
namespace Go.Proofs.YtekommcfpjonmaaGreat.Pb
open RowKit P E YtekommcfpjonmaaGreatW.PrintWords YtekommcfpjonmaaGreatW.PrintLast Ml Mn Pa
theorem nv_take_all {l : List Int} {n : Nat} (h : l.length ≤ n) : dv 1000000000 (l.take n) = dv 1000000000 l := by rw [List.take_of_length_le h]
theorem dg_snoc {l : List Int} {x : Int} (h : Dg 1000000000 l) (h0 : 0 ≤ x) (h1 : x < 1000000000) : Dg 1000000000 (l ++ [x]) := h.append (Dg.cons h0 h1 (Dg.nil _))
theorem w1 {i : Nat} (h : i ≤ 10000000) : wrap64 ((i : Int) + 1) = ((i + 1 : Nat) : Int) := by rw [w64 (by omega) (by omega)]; omega
theorem minus_l (a b : List Int) (ha : Dg 1000000000 a) (hb : Dg 1000000000 b) (hn : a.length ≤ 1000000) (hlb : b.length ≤ a.length) (hle : dv 1000000000 b ≤ dv 1000000000 a) :
  ∀ (d i : Nat) (out : List Int) (c : Int), i + d = a.length → out.length = i → Dg 1000000000 out → 0 ≤ c → c ≤ 1 → dv 1000000000 out = dv 1000000000 (a.take i) - dv 1000000000 (b.take i) + c * pw 1000000000 i →
  ∃ r, Ev (fun k => dioramaref02_Minus.l0 k a b out c (i : Int)) r ∧ Nn r ∧ dv 1000000000 r = dv 1000000000 a - dv 1000000000 b ∧ r.length ≤ a.length := by
 intro d
 induction d with
 | zero =>
  intro i out c hi hl hd h0 h1 hv
  obtain ⟨r, he, hc, hr, hlr⟩ := trimmed_f out hd (by omega)
  have hlt := dv_lt (by decide) hd
  rw [hl] at hlt
  rw [nv_take_all (by omega), nv_take_all (by omega)] at hv
  have c0 : c = 0 := by
   rcases (show c = 0 ∨ c = 1 by omega) with h | h
   ·exact h
   rw [h] at hv
   omega
  refine ⟨r, Ev.step (f := fun k => (dioramaref02_trimmed.f k out).bind fun t => some t) (fun k => ?_) (Ev.bind he (Ev.now _)), hc, by rw [hr, hv, c0]; omega, by omega⟩
  simp only [dioramaref02_Minus.l0]
  rw [if_neg (by omega)]
 | succ d ih =>
  intro i out c hi hl hd h0 h1 hv
  have hx := ha.getD (by decide) i
  have hy := hb.getD (by decide) i
  have e1 := dv_take_succ' 1000000000 a i
  have e2 := dv_take_succ' 1000000000 b i
  have e3 := pw_succ 1000000000 i
  generalize hxv : a.getD i 0 = x at *
  generalize hyv : b.getD i 0 = y at *
  have hw : wrap64 (wrap64 (x - y) - c) = x - y - c := by rw [w64 (x := x - y) (by omega) (by omega), w64 (by omega) (by omega)]
  have hw2 : wrap64 (x - y - c + 1000000000) = x - y - c + 1000000000 := w64 (by omega) (by omega)
  by_cases hneg : x - y - c < 0
  ·obtain ⟨r, he, h⟩ := ih (i + 1) (out ++ [x - y - c + 1000000000]) 1 (by omega) (by simp [hl]) (dg_snoc hd (by omega) (by omega)) (by decide) (by decide) (by
    rw [dv_snoc, hl, hv, e1, e2, e3]
    grind)
   refine ⟨r, Ev.step (fun k => ?_) he, h⟩
   simp only [dioramaref02_Minus.l0]
   rw [if_pos (by omega), digit_f, digit_f, hxv, hyv]
   simp only [Option.bind_some, hw, hw2]
   rw [if_pos hneg, if_pos (by omega), w1 (by omega)]
  obtain ⟨r, he, h⟩ := ih (i + 1) (out ++ [x - y - c]) 0 (by omega) (by simp [hl]) (dg_snoc hd (by omega) (by omega)) (by decide) (by decide) (by
   rw [dv_snoc, hl, hv, e1, e2]
   grind)
  refine ⟨r, Ev.step (fun k => ?_) he, h⟩
  simp only [dioramaref02_Minus.l0]
  rw [if_pos (by omega), digit_f, digit_f, hxv, hyv]
  simp only [Option.bind_some, hw, hw2]
  rw [if_neg hneg, if_pos (by omega), w1 (by omega)]
theorem len_le {a b : List Int} (ha : Nn a) (hb : Nn b) (h : dv 1000000000 b ≤ dv 1000000000 a) : b.length ≤ a.length := by
 refine Nat.le_of_not_lt fun hl => ?_
 have := dv_len (by decide) ha.dg hb hl
 omega
theorem minus_f (a b : List Int) (ha : Nn a) (hb : Nn b) (hn : a.length ≤ 1000000) (hle : dv 1000000000 b ≤ dv 1000000000 a) : ∃ r, Ev (fun k => dioramaref02_Minus.f k a b) r ∧ Nn r ∧ dv 1000000000 r = dv 1000000000 a - dv 1000000000 b ∧ r.length ≤ a.length :=
 minus_l a b ha.dg hb.dg hn (len_le ha hb hle) hle a.length 0 [] 0 (by omega) rfl (Dg.nil _) (by decide) (by decide) (by simp [dv])
theorem plus_l (a b : List Int) (ha : Nn a) (hb : Nn b) (hn : a.length ≤ 1000000) (hm : b.length ≤ 1000000) :
  ∀ (d i : Nat) (out : List Int) (c : Int), i + d = max a.length b.length + 1 → out.length = i → Dg 1000000000 out → 0 ≤ c → c ≤ 1 → (i ≤ max a.length b.length ∨ c = 0) → (i < a.length ∨ i < b.length ∨ 0 < c ∨ Top out) → dv 1000000000 out = dv 1000000000 (a.take i) + dv 1000000000 (b.take i) - c * pw 1000000000 i →
  ∃ r, Ev (fun k => dioramaref02_Plus.l0 k a b out c (i : Int)) r ∧ Nn r ∧ dv 1000000000 r = dv 1000000000 a + dv 1000000000 b ∧ r.length ≤ max a.length b.length + 1 := by
 intro d
 induction d with
 | zero =>
  intro i out c hi hl hd h0 h1 hic ht hv
  have c0 : c = 0 := by omega
  subst c0
  rw [nv_take_all (by omega), nv_take_all (by omega)] at hv
  refine ⟨out, Ev.step (f := fun k => dioramaref02_Plus.j1 k a b out 0 (i : Int) (decide ((0 : Int) > 0))) (fun k => ?_) (Ev.step (f := fun _ => some out) (fun k => ?_) (Ev.now _)), ⟨hd, ?_⟩, by rw [hv]; omega, by omega⟩
  ·simp only [dioramaref02_Plus.l0]
   rw [if_neg (by omega), if_neg (by omega)]
  ·simp [dioramaref02_Plus.j1]
  rcases ht with h | h | h | h
  ·omega
  ·omega
  ·omega
  exact h
 | succ d ih =>
  intro i out c hi hl hd h0 h1 hic ht hv
  by_cases hgo : i < a.length ∨ i < b.length ∨ 0 < c
  ·have hx := ha.dg.getD (by decide) i
   have hy := hb.dg.getD (by decide) i
   have e1 := dv_take_succ' 1000000000 a i
   have e2 := dv_take_succ' 1000000000 b i
   have e3 := pw_succ 1000000000 i
   have zx : a.length ≤ i → a.getD i 0 = 0 := fun h => getD_ge h
   have zy : b.length ≤ i → b.getD i 0 = 0 := fun h => getD_ge h
   have tx : i + 1 = a.length → a.getD i 0 ≠ 0 := fun h => by have := top_getD ha.top (by omega); rwa [← h, Nat.add_sub_cancel] at this
   have ty : i + 1 = b.length → b.getD i 0 ≠ 0 := fun h => by have := top_getD hb.top (by omega); rwa [← h, Nat.add_sub_cancel] at this
   generalize hxv : a.getD i 0 = x at *
   generalize hyv : b.getD i 0 = y at *
   have hw : wrap64 (wrap64 (x + y) + c) = x + y + c := by rw [w64 (x := x + y) (by omega) (by omega), w64 (by omega) (by omega)]
   have hw2 : wrap64 ((x + y + c) / 1000000000) = (x + y + c) / 1000000000 := w64 (by omega) (by omega)
   obtain ⟨r, he, h⟩ := ih (i + 1) (out ++ [(x + y + c) % 1000000000]) ((x + y + c) / 1000000000) (by omega) (by simp [hl]) (dg_snoc hd (by omega) (by omega)) (by omega) (by omega)
    (by
     by_cases hmx : i < max a.length b.length
     ·left; omega
     right
     rw [zx (by omega), zy (by omega)]
     omega)
    (by
     by_cases g1 : i + 1 < a.length
     ·exact .inl g1
     by_cases g2 : i + 1 < b.length
     ·exact .inr (.inl g2)
     by_cases g3 : 0 < (x + y + c) / 1000000000
     ·exact .inr (.inr (.inl g3))
     refine .inr (.inr (.inr (top_of_getD ?_)))
     have hne : (x + y + c) % 1000000000 ≠ 0 := by
      rcases hgo with g | g | g
      ·have := tx (by omega); omega
      ·have := ty (by omega); omega
      omega
     simp only [List.length_append, List.length_singleton, Nat.add_sub_cancel]
     rw [List.getD_eq_getElem?_getD, List.getElem?_append_right (Nat.le_refl _)]
     simpa using hne)
    (by
     rw [dv_snoc, hl, hv, e1, e2, e3]
     have hdm := Int.mul_ediv_add_emod (x + y + c) 1000000000
     generalize (x + y + c) / 1000000000 = Q at *
     generalize (x + y + c) % 1000000000 = R at *
     have : R = x + y + c - 1000000000 * Q := by omega
     subst this
     grind)
   refine ⟨r, ?_, h⟩
   have hj : Ev (fun k => dioramaref02_Plus.j1 k a b out c (i : Int) true) r := by
    refine Ev.step (fun k => ?_) he
    simp only [dioramaref02_Plus.j1, if_true]
    rw [digit_f, digit_f, hxv, hyv]
    simp only [Option.bind_some, hw]
    rw [if_pos (by omega), tmodB (by omega), tdivB (by omega), hw2, w1 (by omega)]
   refine Ev.step (fun k => ?_) hj
   simp only [dioramaref02_Plus.l0]
   by_cases g1 : i < a.length
   ·rw [if_pos (by omega)]
   rw [if_neg (by omega)]
   by_cases g2 : i < b.length
   ·rw [if_pos (by omega)]
   rw [if_neg (by omega), decide_eq_true (show c > 0 by omega)]
  have c0 : c = 0 := by omega
  subst c0
  rw [nv_take_all (by omega), nv_take_all (by omega)] at hv
  refine ⟨out, Ev.step (f := fun k => dioramaref02_Plus.j1 k a b out 0 (i : Int) (decide ((0 : Int) > 0))) (fun k => ?_) (Ev.step (f := fun _ => some out) (fun k => ?_) (Ev.now _)), ⟨hd, ?_⟩, by rw [hv]; omega, by omega⟩
  ·simp only [dioramaref02_Plus.l0]
   rw [if_neg (by omega), if_neg (by omega)]
  ·simp [dioramaref02_Plus.j1]
  rcases ht with h | h | h | h
  ·omega
  ·omega
  ·omega
  exact h
theorem plus_f (a b : List Int) (ha : Nn a) (hb : Nn b) (hn : a.length ≤ 1000000) (hm : b.length ≤ 1000000) : ∃ r, Ev (fun k => dioramaref02_Plus.f k a b) r ∧ Nn r ∧ dv 1000000000 r = dv 1000000000 a + dv 1000000000 b ∧ r.length ≤ max a.length b.length + 1 :=
 plus_l a b ha hb hn hm (max a.length b.length + 1) 0 [] 0 (by omega) rfl (Dg.nil _) (by decide) (by decide) (.inr rfl) (.inr (.inr (.inr (fun h => absurd rfl h)))) (by simp [dv])
theorem mulB {c x y o : Int} (hc0 : 0 ≤ c) (hc1 : c < 1000000000) (hx0 : 0 ≤ x) (hx1 : x < 1000000000) (hy0 : 0 ≤ y) (hy1 : y < 1000000000) (ho0 : 0 ≤ o) (ho1 : o < 1000000000) :
  wrap64 (wrap64 (o + wrap64 (x * y)) + c) = o + x * y + c ∧ 0 ≤ o + x * y + c ∧ wrap64 (Int.tdiv (o + x * y + c) 1000000000) = (o + x * y + c) / 1000000000 ∧ (o + x * y + c) / 1000000000 < 1000000000 := by
 obtain ⟨h1, h2⟩ := mul_lt_sq hx0 hx1 hy0 hy1
 have h2' : x * y ≤ 999999998000000001 := h2
 rw [w64 (x := x * y) (by omega) (by omega), w64 (x := o + x * y) (by omega) (by omega), w64 (x := o + x * y + c) (by omega) (by omega), tdivB (by omega), w64 (by omega) (by omega)]
 refine ⟨rfl, by omega, rfl, by omega⟩
theorem times_l1 (a b : List Int) (i : Nat) (x : Int) (hx : a.getD i 0 = x) (hi : i < a.length) (hb : Dg 1000000000 b) (hx0 : 0 ≤ x) (hx1 : x < 1000000000) (hn : a.length + b.length ≤ 1000000) :
  ∀ (d j : Nat) (out : List Int) (c : Int), j + d = b.length → Dg 1000000000 out → out.length = a.length + b.length → 0 ≤ c → c < 1000000000 → (∀ m, i + b.length ≤ m → out.getD m 0 = 0) →
  ∃ out', (∀ r, Ev (fun k => dioramaref02_Times.l0 k a b out' ((i + 1 : Nat) : Int)) r → Ev (fun k => dioramaref02_Times.l1 k a b out (i : Int) c (j : Int)) r) ∧ out'.length = a.length + b.length ∧ Dg 1000000000 out' ∧
   dv 1000000000 out' = dv 1000000000 out + c * pw 1000000000 (i + j) + x * dv 1000000000 (b.drop j) * pw 1000000000 (i + j) ∧ ∀ m, i + 1 + b.length ≤ m → out'.getD m 0 = 0 := by
 intro d
 induction d with
 | zero =>
  intro j out c hj hd hl h0 h1 hz
  obtain rfl : j = b.length := by omega
  have hend : ∀ (out : List Int) (j : Nat) r, b.length ≤ j → Ev (fun k => dioramaref02_Times.l0 k a b out ((i + 1 : Nat) : Int)) r → Ev (fun k => dioramaref02_Times.l1 k a b out (i : Int) 0 (j : Int)) r := by
   intro out j r hj he
   refine Ev.step (fun k => ?_) he
   simp only [dioramaref02_Times.l1]
   rw [if_neg (by omega), if_neg (by omega), w1 (by omega)]
  rw [List.drop_of_length_le (Nat.le_refl _)]
  by_cases hc : c = 0
  ·subst hc
   exact ⟨out, fun r he => hend out _ r (Nat.le_refl _) he, hl, hd, by simp [dv], fun m hm => hz m (by omega)⟩
  refine ⟨out.set (i + b.length) c, fun r he => ?_, by simp [hl], hd.set _ h0 h1, ?_, fun m hm => by rw [getD_set (by omega)]; exact hz m (by omega)⟩
  ·have h2 := hend (out.set (i + b.length) c) (b.length + 1) r (by omega) he
   refine Ev.step (fun k => ?_) h2
   have hw : wrap64 ((i : Int) + (b.length : Int)) = ((i + b.length : Nat) : Int) := by rw [w64 (by omega) (by omega)]; omega
   obtain ⟨g1, g2, g3, g4⟩ := mulB (o := 0) (y := 0) h0 h1 hx0 hx1 (by decide) (by decide) (by decide) (by decide)
   have e0 : (0 : Int) + x * 0 + c = c := by omega
   rw [e0] at g1 g3
   simp only [dioramaref02_Times.l1, hw, rd_nat, hx, Int.toNat_natCast]
   rw [if_neg (by omega), if_pos (by omega), if_pos (by omega), if_pos (by omega), if_pos (by omega), if_pos (by omega), digit_f, getD_ge (Nat.le_refl _), hz _ (Nat.le_refl _)]
   simp only [Option.bind_some, g1, g3]
   rw [tmodB h0, Int.emod_eq_of_lt h0 h1, Int.ediv_eq_zero_of_lt h0 h1, w1 (by omega)]
  rw [dv_set _ _ _ _ (by omega), hz _ (Nat.le_refl _)]
  simp [dv]
 | succ d ih =>
  intro j out c hj hd hl h0 h1 hz
  have hy := hb.getD (by decide) j
  have ho := hd.getD (by decide) (i + j)
  have c1 : (j : Int) < (b.length : Int) := by omega
  have c2 : 0 ≤ ((i + j : Nat) : Int) := by omega
  have c3 : ((i + j : Nat) : Int) < (out.length : Int) := by omega
  have c4 : 0 ≤ (i : Int) := by omega
  have c5 : (i : Int) < (a.length : Int) := by omega
  have c6 : i + j < out.length := by omega
  have c7 : j < b.length := by omega
  have hw : wrap64 ((i : Int) + (j : Int)) = ((i + j : Nat) : Int) := by rw [w64 (by omega) (by omega)]; omega
  have hw1 := w1 (i := j) (by omega)
  have HW := aS (And.intro hw hw1)
  clear hw hw1
  generalize hyv : b.getD j 0 = y at *
  generalize hov : out.getD (i + j) 0 = o at *
  obtain ⟨g1, g2, g3, g4⟩ := mulB h0 h1 hx0 hx1 hy.1 hy.2 ho.1 ho.2
  have gm := Int.mul_ediv_add_emod (o + x * y + c) 1000000000
  have gr0 := Int.emod_nonneg (o + x * y + c) (show (1000000000 : Int) ≠ 0 by decide)
  have gr1 := Int.emod_lt_of_pos (o + x * y + c) (show (0 : Int) < 1000000000 by decide)
  have gq0 : 0 ≤ (o + x * y + c) / 1000000000 := Int.ediv_nonneg g2 (by decide)
  have gt := tmodB g2
  generalize (o + x * y + c) / 1000000000 = q at *
  generalize (o + x * y + c) % 1000000000 = r' at *
  have hs : r' + 1000000000 * q = c + (x * y + o) := by clear g1 g3 gt; omega
  have HG := aS (And.intro g1 (And.intro g3 gt))
  clear g1 g3 gt gm
  obtain ⟨out', k1, k2, k3, k4, k5⟩ := ih (j + 1) (out.set (i + j) r') q (by omega) (hd.set _ gr0 gr1) (by simp [hl]) gq0 g4 (fun m hm => by rw [getD_set (by omega)]; exact hz m hm)
  refine ⟨out', fun r he => ?_, k2, k3, ?_, k5⟩
  ·refine Ev.step (fun k => ?_) (k1 r he)
   simp only [dioramaref02_Times.l1, HW.out.1, rd_nat, hx, Int.toNat_natCast]
   rw [if_pos c1, if_pos c2, if_pos c3, if_pos c4, if_pos c5, digit_f, hyv, hov]
   simp only [Option.bind_some, HG.out.1, HG.out.2.1, HG.out.2.2, HW.out.2]
  rw [k4, dv_set _ _ _ _ c6, hov, dv_drop 1000000000 b j c7, hyv, ← Nat.add_assoc, pw_succ]
  exact (mul_step hs).symm
theorem times_l0 (a b : List Int) (ha : Dg 1000000000 a) (hb : Dg 1000000000 b) (hn : a.length + b.length ≤ 1000000) :
  ∀ (d i : Nat) (out : List Int), i + d = a.length → Dg 1000000000 out → out.length = a.length + b.length → dv 1000000000 out = dv 1000000000 (a.take i) * dv 1000000000 b → (∀ m, i + b.length ≤ m → out.getD m 0 = 0) →
  ∃ r, Ev (fun k => dioramaref02_Times.l0 k a b out (i : Int)) r ∧ Nn r ∧ dv 1000000000 r = dv 1000000000 a * dv 1000000000 b ∧ r.length ≤ a.length + b.length := by
 intro d
 induction d with
 | zero =>
  intro i out hi hd hl hv hz
  obtain ⟨r, he, hc, hr, hlr⟩ := trimmed_f out hd (by omega)
  refine ⟨r, Ev.step (f := fun k => (dioramaref02_trimmed.f k out).bind fun t => some t) (fun k => ?_) (Ev.bind he (Ev.now _)), hc, by rw [hr, hv, nv_take_all (by omega)], by omega⟩
  simp only [dioramaref02_Times.l0]
  rw [if_neg (by omega)]
 | succ d ih =>
  intro i out hi hd hl hv hz
  have hx := ha.getD (by decide) i
  obtain ⟨out', k1, k2, k3, k4, k5⟩ := times_l1 a b i (a.getD i 0) rfl (by omega) hb hx.1 hx.2 hn b.length 0 out 0 (by omega) hd hl (by decide) (by decide) hz
  obtain ⟨r, he, h⟩ := ih (i + 1) out' (by omega) k3 k2 (by
   rw [k4, hv, dv_take_succ' _ a i]
   simp only [List.drop_zero, Nat.add_zero]
   grind) (fun m hm => k5 m (by omega))
  refine ⟨r, Ev.step (fun k => ?_) (k1 r he), h⟩
  simp only [dioramaref02_Times.l0]
  rw [if_pos (by omega)]
  rfl
theorem times_f (a b : List Int) (ha : Nn a) (hb : Nn b) (hn : a.length + b.length ≤ 1000000) : ∃ r, Ev (fun k => dioramaref02_Times.f k a b) r ∧ Nn r ∧ dv 1000000000 r = dv 1000000000 a * dv 1000000000 b ∧ r.length ≤ a.length + b.length := by
 have e1 : wrap64 ((a.length : Int) + (b.length : Int)) = ((a.length + b.length : Nat) : Int) := by rw [w64 (by omega) (by omega)]; omega
 obtain ⟨r, he, h⟩ := times_l0 a b ha.dg hb.dg hn a.length 0 (List.replicate (a.length + b.length) 0) (by omega) (Dg.replicate (by decide) _) (by simp) (by rw [dv_replicate]; simp [dv]) (fun m _ => by
  rw [List.getD_eq_getElem?_getD, List.getElem?_replicate]
  split <;> rfl)
 refine ⟨r, Ev.congr (fun k => ?_) he, h⟩
 simp only [dioramaref02_Times.f, e1, Int.toNat_natCast]
 rw [if_pos (by omega), if_pos (by omega)]
 rfl
theorem drop_le (l : List Int) (hd : Dg 1000000000 l) (i : Nat) : dv 1000000000 (l.drop i) ≤ dv 1000000000 l ∧ 0 ≤ dv 1000000000 (l.drop i) := by
 have h0 := dv_nonneg (by decide) (hd.drop i)
 refine ⟨?_, h0⟩
 by_cases hi : i ≤ l.length
 ·have h1 := dv_split 1000000000 l i hi
  have h2 := dv_nonneg (by decide) (hd.take i)
  have h3 : 0 < pw 1000000000 i := pow_pos (by decide) i
  have h4 : 1 * dv 1000000000 (l.drop i) ≤ pw 1000000000 i * dv 1000000000 (l.drop i) := Int.mul_le_mul_of_nonneg_right (by omega) h0
  omega
 rw [List.drop_of_length_le (by omega)]
 exact dv_nonneg (by decide) hd
theorem small_l (l : List Int) (hd : Dg 1000000000 l) (hn : l.length ≤ 1000000) (hs : dv 1000000000 l ≤ 9223372036854775807) : ∀ i : Nat, i ≤ l.length → Ev (fun k => dioramaref02_Small.l0 k l (dv 1000000000 (l.drop i)) ((i : Int) - 1)) (dv 1000000000 l, true) := by
 intro i
 induction i with
 | zero =>
  intro _
  refine Ev.step (f := fun _ => some (dv 1000000000 l, true)) (fun k => ?_) (Ev.now _)
  simp [dioramaref02_Small.l0]
 | succ i ih =>
  intro hi
  have e : (((i + 1 : Nat) : Int) - 1) = (i : Int) := by omega
  have h1 := dv_drop 1000000000 l i (by omega)
  have h2 := drop_le l hd i
  have h3 := drop_le l hd (i + 1)
  have hx := hd.getD (by decide) i
  rw [e]
  refine Ev.step (fun k => ?_) (ih (by omega))
  simp only [dioramaref02_Small.l0, rd_nat]
  rw [if_pos (by omega), if_pos (by omega), if_pos (by omega), w64 (x := _ * 1000000000) (by omega) (by omega), w64 (x := _ + _) (by omega) (by omega), w64 (x := (i : Int) - 1) (by omega) (by omega), h1]
  congr 1
  omega
theorem small_f (l : List Int) (most : Int) (hl : Nn l) (hn : l.length ≤ 1000000) (h0 : 0 ≤ most) (h1 : most ≤ 9223372036854775807) : Ev (fun k => dioramaref02_Small.f k l most) (if most < dv 1000000000 l then (0, false) else (dv 1000000000 l, true)) := by
 obtain ⟨r, he, hr, hv, hlr⟩ := of_f most h0 h1
 have hc := compare_f l r hl hr hn (by omega)
 rw [hv] at hc
 by_cases hb : most < dv 1000000000 l
 ·rw [if_pos hb]
  rw [cmp2 hb] at hc
  exact Ev.bind he (Ev.bind hc (Ev.congr (f := fun _ => some (0, false)) (fun k => by simp) (Ev.now _)))
 rw [if_neg hb]
 have hle : ¬ (Nd.cmpI (dv 1000000000 l) most > 0) := by
  unfold Nd.cmpI
  by_cases h2 : dv 1000000000 l < most
  ·rw [if_pos h2]; decide
  rw [if_neg h2, if_neg hb]; decide
 have h2 := small_l l hl.dg hn (by omega) l.length (Nat.le_refl _)
 rw [List.drop_of_length_le (Nat.le_refl _)] at h2
 refine Ev.bind he (Ev.bind hc (Ev.congr (fun k => ?_) h2))
 rw [if_neg hle, w64 (by omega) (by omega)]
 rfl
end Go.Proofs.YtekommcfpjonmaaGreat.Pb
namespace Go.Proofs.YtekommcfpjonmaaGreat.Pc
open RowKit P E YtekommcfpjonmaaGreatW.PrintWords YtekommcfpjonmaaGreatW.PrintLast Ml Mn Pa Pb
theorem drop_set' {l : List Int} {i : Nat} {v : Int} : (l.set i v).drop (i + 1) = l.drop (i + 1) := by
 rw [List.drop_set]
 simp
theorem over_l1 (a b q rest : List Int) (i : Nat) (hb : Nn b) (hr : Nn rest) (hi : i < q.length) (hq : q.length ≤ 1000000) (hlb : b.length ≤ 100000) (hlr : rest.length ≤ 200000) (hbp : 0 < dv 1000000000 b) :
  ∀ (m : Nat) (low high : Int), high - low ≤ m → 0 ≤ low → low ≤ high → high ≤ 999999999 → low * dv 1000000000 b ≤ dv 1000000000 rest → dv 1000000000 rest < (high + 1) * dv 1000000000 b →
  ∃ t rest', 0 ≤ t ∧ t < 1000000000 ∧ Nn rest' ∧ dv 1000000000 rest = t * dv 1000000000 b + dv 1000000000 rest' ∧ dv 1000000000 rest' < dv 1000000000 b ∧ (∀ r, Ev (fun k => dioramaref02_Over.l0 k a b (q.set i t) rest' ((i : Int) - 1)) r → Ev (fun k => dioramaref02_Over.l1 k a b q rest (i : Int) low high) r) := by
 intro m
 induction m with
 | zero =>
  intro low high hm h0 h1 h2 hlo hhi
  obtain rfl : low = high := by omega
  obtain ⟨o, eo, ho, vo, lo⟩ := of_f low h0 (by omega)
  obtain ⟨p, ep, hp, vp, lp⟩ := times_f b o hb ho (by omega)
  have e1 : dv 1000000000 p = low * dv 1000000000 b := by rw [vp, vo, Int.mul_comm]
  obtain ⟨s, es, hs, vs, ls⟩ := minus_f rest p hr hp (by omega) (by omega)
  have e2 : (low + 1) * dv 1000000000 b = low * dv 1000000000 b + dv 1000000000 b := by rw [Int.add_mul]; omega
  refine ⟨low, s, h0, by omega, hs, by omega, by omega, fun r he => ?_⟩
  refine Ev.step (f := fun k => (dioramaref02_Of.f k low).bind fun t197 => ((dioramaref02_Times.f k b t197).bind fun t200 => ((dioramaref02_Minus.f k rest t200).bind fun t203 => (dioramaref02_Over.l0 k a b (q.set i low) t203 ((i : Int) - 1))))) (fun k => ?_) (Ev.bind eo (Ev.bind ep (Ev.bind es he)))
  simp only [dioramaref02_Over.l1, Int.toNat_natCast]
  rw [if_neg (by omega), if_pos (by omega), if_pos (by omega), w64 (by omega) (by omega)]
 | succ m ih =>
  intro low high hm h0 h1 h2 hlo hhi
  by_cases hlt : low < high
  ·have hmid : wrap64 (Int.tdiv (wrap64 (wrap64 (low + high) + 1)) 2) = (low + high + 1) / 2 := by
    rw [w64 (x := low + high) (by omega) (by omega), w64 (x := low + high + 1) (by omega) (by omega), Int.tdiv_eq_ediv_of_nonneg (by omega), w64 (by omega) (by omega)]
   have hm1 : low < (low + high + 1) / 2 := by omega
   have hm2 : (low + high + 1) / 2 ≤ high := by omega
   generalize (low + high + 1) / 2 = mid at *
   obtain ⟨o, eo, ho, vo, lo⟩ := of_f mid (by omega) (by omega)
   obtain ⟨p, ep, hp, vp, lp⟩ := times_f b o hb ho (by omega)
   have e1 : dv 1000000000 p = mid * dv 1000000000 b := by rw [vp, vo, Int.mul_comm]
   have ec := compare_f p rest hp hr (by omega) (by omega)
   rw [e1] at ec
   by_cases hc : mid * dv 1000000000 b ≤ dv 1000000000 rest
   ·obtain ⟨t, rest', g1, g2, g3, g4, g5, g6⟩ := ih mid high (by omega) (by omega) hm2 h2 hc hhi
    have hle : Nd.cmpI (mid * dv 1000000000 b) (dv 1000000000 rest) ≤ 0 := by
     unfold Nd.cmpI
     by_cases h2 : mid * dv 1000000000 b < dv 1000000000 rest
     ·rw [if_pos h2]; decide
     rw [if_neg h2, if_neg (by omega)]; decide
    refine ⟨t, rest', g1, g2, g3, g4, g5, fun r he => ?_⟩
    refine Ev.step (f := fun k => (dioramaref02_Of.f k mid).bind fun t206 => ((dioramaref02_Times.f k b t206).bind fun t209 => ((dioramaref02_Compare.f k t209 rest).bind fun t212 => (if t212 ≤ 0 then (dioramaref02_Over.l1 k a b q rest (i : Int) mid high) else (dioramaref02_Over.l1 k a b q rest (i : Int) low (wrap64 (mid - 1))))))) (fun k => ?_) (Ev.bind eo (Ev.bind ep (Ev.bind ec (Ev.congr (fun k => ?_) (g6 r he)))))
    ·simp only [dioramaref02_Over.l1, hmid]
     rw [if_pos hlt]
    rw [if_pos hle]
   have hw : wrap64 (mid - 1) = mid - 1 := w64 (by omega) (by omega)
   obtain ⟨t, rest', g1, g2, g3, g4, g5, g6⟩ := ih low (mid - 1) (by omega) h0 (by omega) (by omega) hlo (by rw [Int.sub_add_cancel]; omega)
   have hle : ¬ Nd.cmpI (mid * dv 1000000000 b) (dv 1000000000 rest) ≤ 0 := by
    rw [cmp2 (by omega)]; decide
   refine ⟨t, rest', g1, g2, g3, g4, g5, fun r he => ?_⟩
   refine Ev.step (f := fun k => (dioramaref02_Of.f k mid).bind fun t206 => ((dioramaref02_Times.f k b t206).bind fun t209 => ((dioramaref02_Compare.f k t209 rest).bind fun t212 => (if t212 ≤ 0 then (dioramaref02_Over.l1 k a b q rest (i : Int) mid high) else (dioramaref02_Over.l1 k a b q rest (i : Int) low (wrap64 (mid - 1))))))) (fun k => ?_) (Ev.bind eo (Ev.bind ep (Ev.bind ec (Ev.congr (fun k => ?_) (g6 r he)))))
   ·simp only [dioramaref02_Over.l1, hmid]
    rw [if_pos hlt]
   rw [if_neg hle, hw]
  exact ih low high (by omega) h0 h1 h2 hlo hhi
theorem over_l0 (a b : List Int) (ha : Dg 1000000000 a) (hb : Nn b) (hla : a.length ≤ 100000) (hlb : b.length ≤ 100000) (hbp : 0 < dv 1000000000 b) :
  ∀ (i : Nat) (q rest : List Int), i ≤ a.length → q.length = a.length → Dg 1000000000 q → Nn rest → dv 1000000000 rest < dv 1000000000 b → dv 1000000000 (a.drop i) = dv 1000000000 (q.drop i) * dv 1000000000 b + dv 1000000000 rest →
  ∃ r1 r2, Ev (fun k => dioramaref02_Over.l0 k a b q rest ((i : Int) - 1)) (r1, r2) ∧ Nn r1 ∧ Nn r2 ∧ dv 1000000000 a = dv 1000000000 r1 * dv 1000000000 b + dv 1000000000 r2 ∧ dv 1000000000 r2 < dv 1000000000 b ∧ r1.length ≤ a.length ∧ r2.length ≤ b.length := by
 have hlen : ∀ {l : List Int}, Nn l → dv 1000000000 l < dv 1000000000 b → l.length ≤ b.length := by
  intro l hl h
  refine Nat.le_of_not_lt fun h2 => ?_
  have := dv_len (by decide) hb.dg hl h2
  omega
 intro i
 induction i with
 | zero =>
  intro q rest _ hq dq hr hlt hv
  obtain ⟨r, he, hc, hvr, hlr⟩ := trimmed_f q dq (by omega)
  rw [List.drop_zero, List.drop_zero] at hv
  refine ⟨r, rest, Ev.step (f := fun k => (dioramaref02_trimmed.f k q).bind fun t => some (t, rest)) (fun k => ?_) (Ev.bind he (Ev.now _)), hc, hr, by rw [hvr]; exact hv, hlt, by omega, hlen hr hlt⟩
  simp [dioramaref02_Over.l0]
 | succ i ih =>
  intro q rest hi hq dq hr hlt hv
  have e : (((i + 1 : Nat) : Int) - 1) = (i : Int) := by omega
  have hx := ha.getD (by decide) i
  have hlr := hlen hr hlt
  obtain ⟨u, eu, hu, vu, lu⟩ := trimmed_f (a.getD i 0 :: rest) (Dg.cons hx.1 hx.2 hr.dg) (by simp; omega)
  have vu2 : dv 1000000000 u = a.getD i 0 + 1000000000 * dv 1000000000 rest := vu
  have r0 := dv_nonneg (by decide) hr.dg
  simp only [List.length_cons] at lu
  obtain ⟨t, rest', g1, g2, g3, g4, g5, g6⟩ := over_l1 a b q u i hb hu (by omega) (by omega) hlb (by omega) hbp 999999999 0 999999999 (by decide) (by decide) (by decide) (by decide) (by have := dv_nonneg (by decide) hu.dg ; omega) (by
   have : (1000000000 : Int) * (dv 1000000000 rest + 1) ≤ 1000000000 * dv 1000000000 b := Int.mul_le_mul_of_nonneg_left (by omega) (by decide)
   rw [vu2]
   omega)
  obtain ⟨r1, r2, he, h⟩ := ih (q.set i t) rest' (by omega) (by simpa using hq) (dq.set _ g1 g2) g3 g5 (by
   rw [dv_drop _ a i (by omega), dv_drop _ (q.set i t) i (by simp; omega), drop_set', getD_set_self (by omega), hv]
   have := vu2
   rw [g4] at this
   grind)
  refine ⟨r1, r2, ?_, h⟩
  rw [e]
  refine Ev.step (f := fun k => (dioramaref02_trimmed.f k (a.getD i 0 :: rest)).bind fun t193 => (dioramaref02_Over.l1 k a b q t193 (i : Int) 0 999999999)) (fun k => ?_) (Ev.bind eu (g6 _ he))
  simp only [dioramaref02_Over.l0, rd_nat, Option.bind_some, List.singleton_append, List.length_singleton]
  rw [if_pos (by omega), if_pos (by omega), if_pos (by omega), if_pos (by omega)]
theorem over_f (a b : List Int) (ha : Nn a) (hb : Nn b) (hla : a.length ≤ 100000) (hlb : b.length ≤ 100000) (hbp : 0 < dv 1000000000 b) :
  ∃ r1 r2, Ev (fun k => dioramaref02_Over.f k a b) (r1, r2) ∧ Nn r1 ∧ Nn r2 ∧ dv 1000000000 a = dv 1000000000 r1 * dv 1000000000 b + dv 1000000000 r2 ∧ dv 1000000000 r2 < dv 1000000000 b ∧ r1.length ≤ a.length ∧ r2.length ≤ b.length := by
 obtain ⟨r1, r2, he, h⟩ := over_l0 a b ha.dg hb hla hlb hbp a.length (List.replicate a.length 0) [] (Nat.le_refl _) (by simp) (Dg.replicate (by decide) _) (Cn.nil _) hbp (by rw [List.drop_of_length_le (Nat.le_refl _), List.drop_of_length_le (by simp)]; simp [dv])
 refine ⟨r1, r2, Ev.congr (fun k => ?_) he, h⟩
 simp only [dioramaref02_Over.f, Int.toNat_natCast]
 rw [if_pos (by omega), if_pos (by omega), w64 (by omega) (by omega)]
end Go.Proofs.YtekommcfpjonmaaGreat.Pc
namespace Go.Proofs.YtekommcfpjonmaaGreat.Pf
open RowKit Go YtekommcfpjonmaaGreatW.PrintWords YtekommcfpjonmaaGreatW.PrintLast YtekommcfpjonmaaGreatW.PrintMore Mn Rf Er Ek E Pe
def ovV (ms ts : Int) (a b : Ed) : Bool := overB ms ts a.f0 a.f1 a.f2 a.f3 b.f1 b.f2 b.f3
def push (ms ts : Int) : List Ed → Ed → List Ed
 | [], e => [e]
 | a :: t, e => if ovV ms ts a e = true then ⟨a.f0 + e.f0, a.f1, a.f2, a.f3⟩ :: t else e :: a :: t
end Go.Proofs.YtekommcfpjonmaaGreat.Pf
namespace Go.Proofs.YtekommcfpjonmaaGreat.Qr
open RowKit Go YtekommcfpjonmaaGreatW.PrintWords YtekommcfpjonmaaGreatW.PrintLast YtekommcfpjonmaaGreatW.PrintMore Ml Mn Nd Pa Pb Rf Er Ek E Pe Pf
structure RV (b : Bool) (x y : List Int) (q : Rat) (n : Nat) : Prop where
 nx : Nn x
 ny : Nn y
 pos : 0 < dv 1000000000 y
 eq : q = qq (sg b (dv 1000000000 x)) (dv 1000000000 y)
 lx : x.length ≤ n
 ly : y.length ≤ n
theorem RV.mono {b : Bool} {x y : List Int} {q : Rat} {n m : Nat} (h : RV b x y q n) (hm : n ≤ m) : RV b x y q m := ⟨h.nx, h.ny, h.pos, h.eq, Nat.le_trans h.lx hm, Nat.le_trans h.ly hm⟩
theorem RV.x0 {b : Bool} {x y : List Int} {q : Rat} {n : Nat} (h : RV b x y q n) : 0 ≤ dv 1000000000 x := dv_nonneg (by decide) h.nx.dg
def RE (f : Nat → Option (Bool × List Int × List Int)) (q : Rat) (n : Nat) : Prop := ∃ b x y, Ev f (b, x, y) ∧ RV b x y q n
theorem qq_parts {a b : Int} (hb : 0 < b) : ∃ g : Int, 0 < g ∧ a = (qq a b).num * g ∧ b = ((qq a b).den : Int) * g := by
 obtain ⟨h1, h2⟩ := rat_low (a := a) (b := b) (by omega)
 refine ⟨(Int.gcd a b : Nat), ?_, ?_, ?_⟩
 ·have := Int.gcd_pos_of_ne_zero_right a (show b ≠ 0 by omega)
  omega
 ·rw [← h1]
  unfold Ra.ratN Ea.lowN
  rw [if_neg (by omega)]
  exact (Int.ediv_mul_cancel (Int.gcd_dvd_left a b)).symm
 rw [← h2]
 unfold Ra.ratD Ea.lowD
 rw [if_neg (by omega)]
 exact (Int.ediv_mul_cancel (Int.gcd_dvd_right a b)).symm
theorem qq_lt {a b c d : Int} (hb : 0 < b) (hd : 0 < d) : qq a b < qq c d ↔ a * d < c * b := by
 obtain ⟨g, hg, e1, e2⟩ := qq_parts (a := a) hb
 obtain ⟨h, hh, e3, e4⟩ := qq_parts (a := c) hd
 rw [Rat.lt_iff]
 generalize (qq a b).num = N1 at *
 generalize ((qq a b).den : Int) = D1 at *
 generalize (qq c d).num = N2 at *
 generalize ((qq c d).den : Int) = D2 at *
 subst e1 e2 e3 e4
 have k1 : N1 * g * (D2 * h) = N1 * D2 * (g * h) := by grind
 have k2 : N2 * h * (D1 * g) = N2 * D1 * (g * h) := by grind
 rw [k1, k2]
 exact (Int.mul_lt_mul_right (Int.mul_pos hg hh)).symm
theorem ratio_f (n d : Int) (hn : -9223372036854775807 ≤ n) (hn1 : n ≤ 9223372036854775807) (hd : 0 < d) (hd1 : d ≤ 9223372036854775807) : RE (fun k => dioramaref10_ratio.f k n d) (qq n d) 3 := by
 obtain ⟨y, ey, ny, vy, ly⟩ := of_f d (by omega) hd1
 by_cases h : n < 0
 ·obtain ⟨x, ex, nx, vx, lx⟩ := of_f (-n) (by omega) (by omega)
  refine ⟨true, x, y, ?_, ⟨nx, ny, by rw [vy]; exact hd, by rw [vx, vy]; simp [sg], lx, ly⟩⟩
  refine Ev.congr (fun k => if_pos h) ?_
  rw [w64 (by omega) (by omega)]
  exact Ev.bind ex (Ev.bind ey (Ev.now _))
 obtain ⟨x, ex, nx, vx, lx⟩ := of_f n (by omega) hn1
 refine ⟨false, x, y, ?_, ⟨nx, ny, by rw [vy]; exact hd, by rw [vx, vy]; simp [sg], lx, ly⟩⟩
 refine Ev.congr (fun k => if_neg h) ?_
 exact Ev.bind ex (Ev.bind ey (Ev.now _))
theorem sg_ne (a b : Bool) (x y : Int) : sg (a != b) (x * y) = sg a x * sg b y := by cases a <;> cases b <;> simp [sg, Int.neg_mul, Int.mul_neg]
theorem timesR_f {b1 b2 : Bool} {x1 y1 x2 y2 : List Int} {p q : Rat} {n m : Nat} (h1 : RV b1 x1 y1 p n) (h2 : RV b2 x2 y2 q m) (hl : n + m ≤ 1000000) : RE (fun k => dioramaref10_times.f k b1 x1 y1 b2 x2 y2) (p * q) (n + m) := by
 have l1 := h1.lx
 have l2 := h1.ly
 have l3 := h2.lx
 have l4 := h2.ly
 obtain ⟨x, ex, nx, vx, lx⟩ := times_f x1 x2 h1.nx h2.nx (by omega)
 obtain ⟨y, ey, ny, vy, ly⟩ := times_f y1 y2 h1.ny h2.ny (by omega)
 refine ⟨b1 != b2, x, y, Ev.congr (fun k => rfl) (Ev.bind ex (Ev.bind ey (Ev.now _))), ⟨nx, ny, by rw [vy]; exact Int.mul_pos h1.pos h2.pos, ?_, by omega, by omega⟩⟩
 rw [h1.eq, h2.eq, vx, vy, sg_ne]
 unfold qq
 rw [Rat.divInt_mul_divInt]
theorem sumR_f {b1 b2 : Bool} {x1 y1 x2 y2 : List Int} {p q : Rat} {n m : Nat} (h1 : RV b1 x1 y1 p n) (h2 : RV b2 x2 y2 q m) (hl : n + m + 2 ≤ 1000000) : RE (fun k => dioramaref02_Sum.f k b1 x1 y1 b2 x2 y2) (p + q) (n + m + 1) := by
 have l1 := h1.lx
 have l2 := h1.ly
 have l3 := h2.lx
 have l4 := h2.ly
 obtain ⟨u, eu, nu, vu, lu⟩ := times_f x1 y2 h1.nx h2.ny (by omega)
 obtain ⟨v, ev, nv, vv, lv⟩ := times_f x2 y1 h2.nx h1.ny (by omega)
 obtain ⟨y, ey, ny, vy, ly⟩ := times_f y1 y2 h1.ny h2.ny (by omega)
 have hpos : 0 < dv 1000000000 y := by rw [vy]; exact Int.mul_pos h1.pos h2.pos
 have heq : p + q = qq (sg b1 (dv 1000000000 u) + sg b2 (dv 1000000000 v)) (dv 1000000000 y) := by
  have e1 : sg b1 (dv 1000000000 u) = sg b1 (dv 1000000000 x1) * dv 1000000000 y2 := by rw [vu]; cases b1 <;> simp [sg, Int.neg_mul]
  have e2 : sg b2 (dv 1000000000 v) = sg b2 (dv 1000000000 x2) * dv 1000000000 y1 := by rw [vv]; cases b2 <;> simp [sg, Int.neg_mul]
  rw [h1.eq, h2.eq, vy, e1, e2]
  unfold qq
  rw [Rat.divInt_add_divInt _ _ (by have := h1.pos; omega) (by have := h2.pos; omega)]
 by_cases hb : b1 = b2
 ·subst hb
  obtain ⟨s, es, ns, vs, ls⟩ := plus_f u v nu nv (by omega) (by omega)
  refine ⟨b1, s, y, ?_, ⟨ns, ny, hpos, ?_, by omega, by omega⟩⟩
  ·refine Ev.congr (fun k => rfl) (Ev.bind eu (Ev.bind ev (Ev.bind ey ?_)))
   exact Ev.congr (fun k => if_pos (by simp)) (Ev.bind es (Ev.now _))
  rw [heq, vs]
  cases b1
  ·simp [sg]
  simp [sg, Int.neg_add]
 have hc := compare_f u v nu nv (by omega) (by omega)
 have hne : ¬ (b1 == b2) = true := by simpa using hb
 by_cases hle : dv 1000000000 v ≤ dv 1000000000 u
 ·obtain ⟨s, es, ns, vs, ls⟩ := minus_f u v nu nv (by omega) hle
  refine ⟨b1, s, y, ?_, ⟨ns, ny, hpos, ?_, by omega, by omega⟩⟩
  ·refine Ev.congr (fun k => rfl) (Ev.bind eu (Ev.bind ev (Ev.bind ey ?_)))
   refine Ev.congr (fun k => if_neg hne) (Ev.bind hc ?_)
   refine Ev.congr (fun k => if_pos ?_) (Ev.bind es (Ev.now _))
   unfold cmpI
   rw [if_neg (by omega)]
   split <;> decide
  rw [heq, vs]
  cases b1 <;> cases b2 <;> simp [sg] at hb ⊢ <;> congr 1 <;> omega
 obtain ⟨s, es, ns, vs, ls⟩ := minus_f v u nv nu (by omega) (by omega)
 refine ⟨b2, s, y, ?_, ⟨ns, ny, hpos, ?_, by omega, by omega⟩⟩
 ·refine Ev.congr (fun k => rfl) (Ev.bind eu (Ev.bind ev (Ev.bind ey ?_)))
  refine Ev.congr (fun k => if_neg hne) (Ev.bind hc ?_)
  refine Ev.congr (fun k => if_neg ?_) (Ev.bind es (Ev.now _))
  unfold cmpI
  rw [if_pos (by omega)]
  decide
 rw [heq, vs]
 cases b1 <;> cases b2 <;> simp [sg] at hb ⊢ <;> congr 1 <;> omega
theorem plusR_f {b1 b2 : Bool} {x1 y1 x2 y2 : List Int} {p q : Rat} {n m : Nat} (h1 : RV b1 x1 y1 p n) (h2 : RV b2 x2 y2 q m) (hl : n + m + 2 ≤ 1000000) : RE (fun k => dioramaref10_plus.f k b1 x1 y1 b2 x2 y2) (p + q) (n + m + 1) := by
 obtain ⟨b, x, y, he, hv⟩ := sumR_f h1 h2 hl
 exact ⟨b, x, y, Ev.congr (fun k => rfl) (Ev.bind he (Ev.now _)), hv⟩
theorem RV.neg {b : Bool} {x y : List Int} {q : Rat} {n : Nat} (h : RV b x y q n) : RV (!b) x y (-q) n := by
 refine ⟨h.nx, h.ny, h.pos, ?_, h.lx, h.ly⟩
 rw [h.eq]
 unfold qq
 rw [Rat.neg_divInt]
 congr 1
 cases b <;> simp [sg]
theorem RV.sign {b : Bool} {x y : List Int} {q : Rat} {n : Nat} (h : RV b x y q n) : (b && decide ((x.length : Int) > 0)) = decide (q < 0) := by
 have h0 := h.x0
 have hz := dv_eq_zero (by decide) h.nx
 have hq : q < 0 ↔ sg b (dv 1000000000 x) < 0 := by
  have e : (0 : Rat) = qq 0 1 := by unfold qq; simp
  rw [h.eq, e, qq_lt h.pos (by decide)]
  simp
 rw [Bool.eq_iff_iff]
 simp only [Bool.and_eq_true, decide_eq_true_eq, hq]
 have hl : (x.length : Int) > 0 ↔ dv 1000000000 x ≠ 0 := by
  rw [ne_eq, hz]
  cases x <;> simp
 rw [hl]
 cases b
 ·simp [sg]; omega
 simp [sg]; omega
theorem lessR_f {b1 b2 : Bool} {x1 y1 x2 y2 : List Int} {p q : Rat} {n m : Nat} (h1 : RV b1 x1 y1 p n) (h2 : RV b2 x2 y2 q m) (hl : n + m + 2 ≤ 1000000) : Ev (fun k => dioramaref02_Less.f k b1 x1 y1 b2 x2 y2) (decide (p < q)) := by
 obtain ⟨b, x, y, he, hv⟩ := sumR_f h1 h2.neg hl
 have hs := hv.sign
 have e : decide (p + -q < 0) = decide (p < q) := by
  congr 1
  apply propext
  constructor <;> intro h <;> grind
 rw [e] at hs
 refine Ev.congr (fun k => rfl) (Ev.bind he ?_)
 cases b with
 | true =>
  refine Ev.congr (fun k => if_pos rfl) ?_
  rw [← hs]
  exact Ev.now _
 | false =>
  refine Ev.congr (f := fun _ => some false) (fun k => if_neg (by simp)) ?_
  rw [← hs]
  exact Ev.now _
theorem rate_f (d m n e : Int) (hn : 0 ≤ n) (hn1 : n ≤ 1000000) (he : 1 ≤ e) (he1 : e ≤ 1000000) : RE (fun k => dioramaref10_rate.f k d m n e) (qq n e) 3 := by
 obtain ⟨b, x, y, he, hv⟩ := ratio_f n e (by omega) (by omega) (by omega) (by omega)
 exact ⟨b, x, y, Ev.congr (fun k => rfl) (Ev.bind he (Ev.now _)), hv⟩
theorem media_f {b : Bool} {x y : List Int} {p : Rat} {N : Nat} (d m n e ts : Int) (hn : 0 ≤ n) (hn1 : n ≤ 1000000) (he : 1 ≤ e) (he1 : e ≤ 1000000) (hm : -9223372036854775807 ≤ m) (hm1 : m ≤ 9223372036854775807) (ht : 1 ≤ ts) (ht1 : ts ≤ 1000000) (h : RV b x y p N) (hl : N ≤ 1000) :
  RE (fun k => dioramaref10_media.f k d m n e ts b x y) (qq m ts + p * qq n e) (N + 7) := by
 obtain ⟨b1, x1, y1, e1, v1⟩ := ratio_f m ts hm hm1 (by omega) (by omega)
 obtain ⟨b2, x2, y2, e2, v2⟩ := rate_f d m n e hn hn1 he he1
 obtain ⟨b3, x3, y3, e3, v3⟩ := timesR_f h v2 (by omega)
 obtain ⟨b4, x4, y4, e4, v4⟩ := plusR_f v1 v3 (by omega)
 exact ⟨b4, x4, y4, Ev.congr (fun k => rfl) (Ev.bind e1 (Ev.bind e2 (Ev.bind e3 (Ev.bind e4 (Ev.now _))))), v4.mono (by omega)⟩
end Go.Proofs.YtekommcfpjonmaaGreat.Qr
namespace Go.Proofs.YtekommcfpjonmaaGreat.Pg
open RowKit Go YtekommcfpjonmaaGreatW.PrintWords YtekommcfpjonmaaGreatW.PrintLast YtekommcfpjonmaaGreatW.PrintMore Mn Rf Er Ek E Pe Pf
instance : DecidableEq Ed := fun x y =>
 decidable_of_iff (x.f0 = y.f0 ∧ x.f1 = y.f1 ∧ x.f2 = y.f2 ∧ x.f3 = y.f3) ⟨fun h => by cases x; cases y; simp_all, fun h => by subst h; simp⟩
end Go.Proofs.YtekommcfpjonmaaGreat.Pg
namespace Go.Proofs.YtekommcfpjonmaaGreat.Qn
open RowKit Go YtekommcfpjonmaaGreatW.PrintWords YtekommcfpjonmaaGreatW.PrintLast YtekommcfpjonmaaGreatW.PrintMore Ml Mn Nd Pa Pb Rf Er Ek E Pe Pf Pg Qr
def Lw (x : Ed) : Prop := (qq x.f2 x.f3).num = x.f2 ∧ ((qq x.f2 x.f3).den : Int) = x.f3
theorem isEmpty_f (x : Ed) : dioramaref10_isEmpty.f x.f0 x.f1 x.f2 x.f3 = some (decide (x.f1 = -1)) := by
 unfold dioramaref10_isEmpty.f
 congr 1
end Go.Proofs.YtekommcfpjonmaaGreat.Qn
namespace Go.Proofs.YtekommcfpjonmaaGreat.Qo
open RowKit Go YtekommcfpjonmaaGreatW.PrintWords YtekommcfpjonmaaGreatW.PrintLast YtekommcfpjonmaaGreatW.PrintMore Ml Mn Nd Pa Pb Rf Er Ek E Pe Pf Pg Qr Qn
end Go.Proofs.YtekommcfpjonmaaGreat.Qo
namespace Go.Proofs.YtekommcfpjonmaaGreat.Qw
open RowKit Go YtekommcfpjonmaaGreatW.PrintWords YtekommcfpjonmaaGreatW.PrintLast YtekommcfpjonmaaGreatW.PrintMore Ml Mn Nd Pa Pb Pc Rf Er Ek E Pe Pf Qr Qn Ew
end Go.Proofs.YtekommcfpjonmaaGreat.Qw
namespace Go.Proofs.YtekommcfpjonmaaGreat.Qt
open RowKit Go YtekommcfpjonmaaGreatW.PrintWords YtekommcfpjonmaaGreatW.PrintLast YtekommcfpjonmaaGreatW.PrintMore Ml Mn Nd Pa Pb Pc Rf Er Ek Et E Pe Pf Qr Qn Qw
theorem time_l {b : Bool} {x y : List Int} (r : Int × Int × Int) (hfin : ∀ u, Nn u → u.length ≤ 1000 → 0 < dv 1000000000 u → dv 1000000000 u = (Int.gcd (dv 1000000000 x) (dv 1000000000 y) : Nat) → Ev (fun k => dioramaref02_Time.l0 k u [] b x y) r) :
  ∀ (m : Nat) (u v : List Int), Nn u → Nn v → u.length ≤ 1000 → v.length ≤ 1000 → (0 < dv 1000000000 u ∨ 0 < dv 1000000000 v) → Int.gcd (dv 1000000000 u) (dv 1000000000 v) = Int.gcd (dv 1000000000 x) (dv 1000000000 y) → (dv 1000000000 v).toNat ≤ m → Ev (fun k => dioramaref02_Time.l0 k u v b x y) r := by
 have zero : ∀ (u v : List Int), Nn u → Nn v → u.length ≤ 1000 → (0 < dv 1000000000 u ∨ 0 < dv 1000000000 v) → Int.gcd (dv 1000000000 u) (dv 1000000000 v) = Int.gcd (dv 1000000000 x) (dv 1000000000 y) → dv 1000000000 v = 0 → Ev (fun k => dioramaref02_Time.l0 k u v b x y) r := by
  intro u v hu hv lu hp hg h0
  obtain rfl := (dv_eq_zero (by decide) hv).1 h0
  have hz : dv 1000000000 [] = 0 := rfl
  rw [hz] at hg hp
  have hpu : 0 < dv 1000000000 u := by omega
  refine hfin u hu lu hpu ?_
  rw [← hg, Int.gcd_zero_right]
  omega
 intro m
 induction m with
 | zero =>
  intro u v hu hv lu lv hp hg hm
  have : 0 ≤ dv 1000000000 v := dv_nonneg (by decide) hv.dg
  exact zero u v hu hv lu hp hg (by omega)
 | succ m ih =>
  intro u v hu hv lu lv hp hg hm
  have hv0 : 0 ≤ dv 1000000000 v := dv_nonneg (by decide) hv.dg
  by_cases h0 : dv 1000000000 v = 0
  ·exact zero u v hu hv lu hp hg h0
  obtain ⟨r1, r2, he, n1, n2, e1, e2, l1, l2⟩ := over_f u v hu hv (by omega) (by omega) (by omega)
  have hr0 : 0 ≤ dv 1000000000 r2 := dv_nonneg (by decide) n2.dg
  have hl : (v.length : Int) > 0 := by
   cases v with
   | nil => exact absurd rfl h0
   | cons a t => simp
  refine Ev.step (fun k => by rw [dioramaref02_Time.l0]) (Ev.congr (fun k => if_pos hl) (Ev.bind he ?_))
  exact ih v r2 hv n2 lv (by omega) (.inl (by omega)) ((Ra.gcd_step e1).trans hg) (by omega)
theorem time_f {b : Bool} {x y : List Int} {q : Rat} {n : Nat} (h : RV b x y q n) (hn : n ≤ 1000) : Ev (fun k => dioramaref02_Time.f k b x y) ((tmV q).1.1, (tmV q).1.2, (tmV q).2) := by
 have lx := h.lx
 have ly := h.ly
 have hx0 := h.x0
 have hy0 := h.pos
 by_cases hx : (x.length : Int) = 0
 ·have hxn : x = [] := by cases x with | nil => rfl | cons a t => simp at hx; omega
  have hq : q = 0 := by
   rw [h.eq, hxn]
   unfold qq
   cases b <;> simp [sg, dv]
  refine Ev.congr (f := fun _ => some (0, 1, 0)) (fun k => if_pos hx) ?_
  rw [hq]
  exact Ev.now _
 have hz := dv_eq_zero (by decide) h.nx
 have hX : dv 1000000000 x ≠ 0 := fun e => by rw [hz.1 e] at hx; exact hx rfl
 have hG : (Int.gcd (sg b (dv 1000000000 x)) (dv 1000000000 y) : Nat) = Int.gcd (dv 1000000000 x) (dv 1000000000 y) := by
  cases b <;> simp [sg, Int.neg_gcd]
 obtain ⟨s1, s2⟩ := Ra.sg_quo (na := b) (nb := false) (a := sg b (dv 1000000000 x)) (b := dv 1000000000 y) (A := dv 1000000000 x) (B := dv 1000000000 y) (G := (Int.gcd (sg b (dv 1000000000 x)) (dv 1000000000 y) : Nat)) rfl (by simp [sg]) hx0 hy0 rfl
 obtain ⟨t1, t2⟩ := rat_low (a := sg b (dv 1000000000 x)) (b := dv 1000000000 y) (by omega)
 rw [t1, ← h.eq] at s1
 rw [t2, ← h.eq] at s2
 have hbb : (!(b == false)) = b := by cases b <;> rfl
 rw [hbb, hG] at s1
 rw [hG] at s2
 refine Ev.congr (fun k => if_neg hx) ?_
 refine time_l _ ?_ _ x y h.nx h.ny (by omega) (by omega) (.inr hy0) rfl (Nat.le_refl _)
 intro u hu lu hup hug
 rw [← hug] at s1 s2
 have ex := Int.mul_ediv_add_emod (dv 1000000000 x) (dv 1000000000 u)
 obtain ⟨p1, p2, pe, pn1, pn2, pe1, pe2, pl1, pl2⟩ := over_f x u h.nx hu (by omega) (by omega) hup
 obtain ⟨o1, o2, oe, on1, on2, oe1, oe2, ol1, ol2⟩ := over_f y u h.ny hu (by omega) (by omega) hup
 have p0 : 0 ≤ dv 1000000000 p2 := dv_nonneg (by decide) pn2.dg
 have o0 : 0 ≤ dv 1000000000 o2 := dv_nonneg (by decide) on2.dg
 have hp := (Int.ediv_emod_unique (a := dv 1000000000 x) (b := dv 1000000000 u) (q := dv 1000000000 p1) (r := dv 1000000000 p2) hup).2 ⟨by rw [pe1, Int.add_comm, Int.mul_comm], p0, pe2⟩
 have ho := (Int.ediv_emod_unique (a := dv 1000000000 y) (b := dv 1000000000 u) (q := dv 1000000000 o1) (r := dv 1000000000 o2) hup).2 ⟨by rw [oe1, Int.add_comm, Int.mul_comm], o0, oe2⟩
 rw [hp.1] at s1
 rw [ho.1] at s2
 have q0 : 0 ≤ dv 1000000000 p1 := dv_nonneg (by decide) pn1.dg
 have hden : 1 ≤ (q.den : Int) := by have := q.den_pos; omega
 have sm1 := small_f p1 1152921504606846976 pn1 (by omega) (by decide) (by decide)
 have sm2 := small_f o1 1152921504606846976 on1 (by omega) (by decide) (by decide)
 have bad : ¬ (dv 1000000000 p1 ≤ 1152921504606846976 ∧ dv 1000000000 o1 ≤ 1152921504606846976) → tmV q = ((0, 0), 2) := by
  intro hh
  unfold tmV
  refine if_neg fun hv => hh ?_
  unfold Ea.valid at hv
  simp only [Bool.and_eq_true, decide_eq_true_eq] at hv
  rw [← s1, ← s2] at hv
  cases b <;> simp [sg] at hv <;> omega
 refine Ev.step (fun k => by rw [dioramaref02_Time.l0]) (Ev.congr (fun k => if_neg (show ¬ ((([] : List Int).length : Int) > 0) by simp)) (Ev.bind pe (Ev.bind oe (Ev.bind sm1 (Ev.bind sm2 ?_)))))
 by_cases h1 : 1152921504606846976 < dv 1000000000 p1
 ·rw [if_pos h1, bad (by omega)]
  refine Ev.congr (fun k => if_neg (show ¬ (false = true) by decide)) (Ev.step (fun k => by rw [dioramaref02_Time.j1]) (Ev.congr (fun k => if_pos rfl) (Ev.now _)))
 rw [if_neg h1]
 refine Ev.congr (fun k => if_pos rfl) ?_
 by_cases h2 : 1152921504606846976 < dv 1000000000 o1
 ·rw [if_pos h2, bad (by omega)]
  exact Ev.step (fun k => by rw [dioramaref02_Time.j1]) (Ev.congr (fun k => if_pos (show (!false) = true from rfl)) (Ev.now _))
 rw [if_neg h2]
 have hv : tmV q = ((q.num, (q.den : Int)), 0) := by
  unfold tmV
  refine if_pos ?_
  unfold Ea.valid
  simp only [Bool.and_eq_true, decide_eq_true_eq]
  rw [← s1, ← s2]
  rw [← s2] at hden
  cases b <;> simp [sg] <;> omega
 rw [hv, ← s1, ← s2]
 refine Ev.step (fun k => by rw [dioramaref02_Time.j1]) (Ev.congr (fun k => if_neg (show ¬ (!true) = true by decide)) ?_)
 cases b with
 | false => exact Ev.congr (fun k => if_neg (by decide)) (Ev.now _)
 | true =>
  refine Ev.congr (fun k => if_pos rfl) ?_
  rw [w64 (by omega) (by omega)]
  exact Ev.now _
end Go.Proofs.YtekommcfpjonmaaGreat.Qt
namespace Go.Proofs.YtekommcfpjonmaaGreat.Qm
open RowKit Go YtekommcfpjonmaaGreatW.PrintWords YtekommcfpjonmaaGreatW.PrintLast YtekommcfpjonmaaGreatW.PrintMore Ml Mn Nd Pa Pb Pc Rf Er Ek Et E Pe Pf Qr Qn Qw Qt
def RM (w : World) (v : Value) (q : Rat) (n : Nat) : Prop := ∃ (b : Bool) (A1 : Option Addr) (c1 : Nat) (l1 : List Int) (A2 : Option Addr) (c2 : Nat) (l2 : List Int), v = .agg #[.bool b, .slice A1 l1.length c1, .slice A2 l2.length c2] ∧ Kd.V (Kd.int .i64) 3 w 0 (fun _ => True) (.slice A1 l1.length c1) l1 ∧ Kd.V (Kd.int .i64) 3 w 0 (fun _ => True) (.slice A2 l2.length c2) l2 ∧ RV b l1 l2 q n
theorem RM.below {w w' : World} {v : Value} {q : Rat} {n : Nat} (h : RM w v q n) (hb : Below w.heap.size w w') : RM w' v q n := by
 obtain ⟨b, A1, c1, l1, A2, c2, l2, rfl, h1, h2, hv⟩ := h
 exact ⟨b, A1, c1, l1, A2, c2, l2, rfl, Kd.V_below h1 hb, Kd.V_below h2 hb, hv⟩
def RP (w : World) (q : Rat) (n : Nat) (e : Ending) (w' : World) : Prop := ∃ v, e = .returned v ∧ Below w.heap.size w w' ∧ RM w' v q n
theorem RM.of {w : World} {B : Nat} {o1 o2 : Nat → Prop} {b : Bool} {v1 v2 : Value} {x y : List Int} {q : Rat} {n : Nat} (h1 : Kd.R (Kd.int .i64) 3 w B o1 v1 x) (h2 : Kd.R (Kd.int .i64) 3 w B o2 v2 y) (hv : RV b x y q n) : RM w (.agg #[.bool b, v1, v2]) q n := by
 obtain ⟨A1, c1, rfl⟩ := Kd.R_slice h1
 obtain ⟨A2, c2, rfl⟩ := Kd.R_slice h2
 exact ⟨b, A1, c1, x, A2, c2, y, rfl, Kd.V_mono (Kd.R_V h1) (fun _ _ => trivial), Kd.V_mono (Kd.R_V h2) (fun _ _ => trivial), hv⟩
theorem ratioM (n d : Int) (w : World) (hn : -9223372036854775807 ≤ n) (hn1 : n ≤ 9223372036854775807) (hd : 0 < d) (hd1 : d ≤ 9223372036854775807) :
  Calls Tryz.prog 69 #[.int .i64 n, .int .i64 d] w (RP w (qq n d) 3) := by
 obtain ⟨b, x, y, he, hv⟩ := ratio_f n d hn hn1 hd hd1
 obtain ⟨k, hk⟩ := he.rounds
 refine (dioramaref10_ratio.calls k n d b x y w hk).mono ?_
 rintro e w' ⟨v1, v2, rfl, h1, h2, hb⟩
 exact ⟨_, rfl, hb, RM.of h1 h2 hv⟩
theorem plusM (u v : Value) (p q : Rat) (n m : Nat) (w : World) (h1 : RM w u p n) (h2 : RM w v q m) (hl : n + m + 2 ≤ 1000000) :
  Calls Tryz.prog 73 #[u, v] w (RP w (p + q) (n + m + 1)) := by
 obtain ⟨b1, A1, c1, l1, A2, c2, l2, rfl, k1, k2, g1⟩ := h1
 obtain ⟨b3, A3, c3, l3, A4, c4, l4, rfl, k3, k4, g2⟩ := h2
 obtain ⟨b, x, y, he, hv⟩ := plusR_f g1 g2 hl
 obtain ⟨k, hk⟩ := he.rounds
 obtain ⟨-, e1, r1⟩ := Kd.V_reads' k1
 obtain ⟨-, e2, r2⟩ := Kd.V_reads' k2
 obtain ⟨-, e3, r3⟩ := Kd.V_reads' k3
 obtain ⟨-, e4, r4⟩ := Kd.V_reads' k4
 refine (dioramaref10_plus.calls k b1 A1 c1 l1 A2 c2 l2 b3 A3 c3 l3 A4 c4 l4 b x y w r1 e1 r2 e2 r3 e3 r4 e4 hk).mono ?_
 rintro e w' ⟨v1, v2, rfl, h1, h2, hb⟩
 exact ⟨_, rfl, hb, RM.of h1 h2 hv⟩
theorem lessM (u v : Value) (p q : Rat) (n m : Nat) (w : World) (h1 : RM w u p n) (h2 : RM w v q m) (hl : n + m + 2 ≤ 1000000) :
  Calls Tryz.prog 76 #[u, v] w (ValP w (.bool (decide (p < q)))) := by
 obtain ⟨b1, A1, c1, l1, A2, c2, l2, rfl, k1, k2, g1⟩ := h1
 obtain ⟨b3, A3, c3, l3, A4, c4, l4, rfl, k3, k4, g2⟩ := h2
 obtain ⟨k, hk⟩ := (lessR_f g1 g2 hl).rounds
 obtain ⟨-, e1, r1⟩ := Kd.V_reads' k1
 obtain ⟨-, e2, r2⟩ := Kd.V_reads' k2
 obtain ⟨-, e3, r3⟩ := Kd.V_reads' k3
 obtain ⟨-, e4, r4⟩ := Kd.V_reads' k4
 exact dioramaref02_Less.calls k b1 A1 c1 l1 A2 c2 l2 b3 A3 c3 l3 A4 c4 l4 _ w r1 e1 r2 e2 r3 e3 r4 e4 hk
theorem mediaM (d a n e ts : Int) (v : Value) (p : Rat) (N : Nat) (w : World) (hn : 0 ≤ n) (hn1 : n ≤ 1000000) (he : 1 ≤ e) (he1 : e ≤ 1000000) (hm : -9223372036854775807 ≤ a) (hm1 : a ≤ 9223372036854775807) (ht : 1 ≤ ts) (ht1 : ts ≤ 1000000) (h : RM w v p N) (hl : N ≤ 1000) :
  Calls Tryz.prog 77 #[.agg #[.int .i64 d, .int .i64 a, .int .i64 n, .int .i64 e], .int .i64 ts, v] w (RP w (qq a ts + p * qq n e) (N + 7)) := by
 obtain ⟨b1, A1, c1, l1, A2, c2, l2, rfl, k1, k2, g1⟩ := h
 obtain ⟨b, x, y, hf, hv⟩ := media_f d a n e ts hn hn1 he he1 hm hm1 ht ht1 g1 hl
 obtain ⟨k, hk⟩ := hf.rounds
 obtain ⟨-, e1, r1⟩ := Kd.V_reads' k1
 obtain ⟨-, e2, r2⟩ := Kd.V_reads' k2
 refine (dioramaref10_media.calls k d a n e ts b1 A1 c1 l1 A2 c2 l2 b x y w r1 e1 r2 e2 hk).mono ?_
 rintro e w' ⟨v1, v2, rfl, h1, h2, hb⟩
 exact ⟨_, rfl, hb, RM.of h1 h2 hv⟩
theorem timeM (v : Value) (q : Rat) (n : Nat) (w : World) (h : RM w v q n) (hl : n ≤ 1000) :
  Calls Tryz.prog 96 #[v] w (ValP w (tmR q)) := by
 obtain ⟨b1, A1, c1, l1, A2, c2, l2, rfl, k1, k2, g1⟩ := h
 obtain ⟨k, hk⟩ := (time_f g1 hl).rounds
 exact dioramaref02_Time.calls k b1 (fun _ => True) A1 c1 l1 (fun _ => True) A2 c2 l2 _ _ _ w (Kd.V_mono k1 (fun _ _ => trivial)) (Kd.V_mono k2 (fun _ _ => trivial)) hk
theorem ratOf_f (n d : Int) (hn : -9223372036854775807 ≤ n) (hn1 : n ≤ 9223372036854775807) (hd : 0 < d) (hd1 : d ≤ 9223372036854775807) : RE (fun k => dioramaref02_RatOf.f k n d) (qq n d) 3 := by
 obtain ⟨y, ey, ny, vy, ly⟩ := of_f d (by omega) hd1
 by_cases h : n < 0
 ·obtain ⟨x, ex, nx, vx, lx⟩ := of_f (-n) (by omega) (by omega)
  have hs : Ev (fun k => dioramaref02_size.f k n) x := by
   refine Ev.congr (fun k => if_pos h) ?_
   rw [w64 (by omega) (by omega)]
   exact Ev.bind ex (Ev.now _)
  refine ⟨decide (n < 0), x, y, Ev.congr (fun k => rfl) (Ev.bind hs (Ev.bind ey (Ev.now _))), ⟨nx, ny, by rw [vy]; exact hd, ?_, lx, ly⟩⟩
  rw [vx, vy, decide_eq_true h]
  simp [sg]
 obtain ⟨x, ex, nx, vx, lx⟩ := of_f n (by omega) hn1
 have hs : Ev (fun k => dioramaref02_size.f k n) x := Ev.congr (fun k => if_neg h) (Ev.bind ex (Ev.now _))
 refine ⟨decide (n < 0), x, y, Ev.congr (fun k => rfl) (Ev.bind hs (Ev.bind ey (Ev.now _))), ⟨nx, ny, by rw [vy]; exact hd, ?_, lx, ly⟩⟩
 rw [vx, vy, decide_eq_false h]
 simp [sg]
theorem ratOfM (n d : Int) (w : World) (hn : -9223372036854775807 ≤ n) (hn1 : n ≤ 9223372036854775807) (hd : 0 < d) (hd1 : d ≤ 9223372036854775807) :
  Calls Tryz.prog 68 #[.agg #[.int .i64 n, .int .i64 d]] w (RP w (qq n d) 3) := by
 obtain ⟨b, x, y, he, hv⟩ := ratOf_f n d hn hn1 hd hd1
 obtain ⟨k, hk⟩ := he.rounds
 refine (dioramaref02_RatOf.calls k n d b x y w hk).mono ?_
 rintro e w' ⟨v1, v2, rfl, h1, h2, hb⟩
 exact ⟨_, rfl, hb, RM.of h1 h2 hv⟩
def ratO (b : Bool) (u v : Value) : Obj := .cells #[.bool b, u, v] 79 (0, 0)
theorem rat_cells {w : World} {g : Nat} {b : Bool} {u v : Value} (h : w.heap[g]? = some (ratO b u v)) : w.cell? ⟨g, 0, none⟩ = some (.bool b) ∧ w.cell? ⟨g, 1, none⟩ = some u ∧ w.cell? ⟨g, 2, none⟩ = some v ∧ w.frozen? ⟨g, 0, none⟩ = false ∧ w.frozen? ⟨g, 1, none⟩ = false ∧ w.frozen? ⟨g, 2, none⟩ = false :=
 ⟨(blk_cell h 0).trans rfl, (blk_cell h 1).trans rfl, (blk_cell h 2).trans rfl, blk_frozen h 0, blk_frozen h 1, blk_frozen h 2⟩
theorem blk_three {w : World} {g : Nat} {t : TypeId} {a b c x y z : Value} (h : w.heap[g]? = some (.cells #[a, b, c] t (0, 0))) : (((w.setCell ⟨g, 0, none⟩ x).setCell ⟨g, 1, none⟩ y).setCell ⟨g, 2, none⟩ z).heap[g]? = some (.cells #[x, y, z] t (0, 0)) :=
 blk_put (cs := #[x, y, c]) (blk_put (cs := #[x, b, c]) (blk_put (cs := #[a, b, c]) h 0 x rfl) 1 y rfl) 2 z rfl
theorem less_w (b : Bool) (A1 A2 : Option Addr) (k1 c1 k2 c2 : Nat) (w : World) :
  Calls Tryz.prog 75 #[.agg #[.bool b, .slice A1 k1 c1, .slice A2 k2 c2]] w (fun e w' => e = .returned (.agg #[.bool (!b), .slice A1 k1 c1, .slice A2 k2 c2]) ∧ Below w.heap.size w w') := by
 have hu := Tryz.underlying79
 have e1 : (w.alloc (ratO b (.slice A1 k1 c1) (.slice A2 k2 c2))).heap.size = w.heap.size + 1 := by simp
 have k3 := blk_new (w.alloc (ratO b (.slice A1 k1 c1) (.slice A2 k2 c2))) (ratO (!b) (.slice A1 k1 c1) (.slice A2 k2 c2))
 rw [e1] at k3
 have HB := aS k3
 clear k3 e1
 go_enter Tryz.func75, Tryz.ntmps75
 go_wp2_with fail
 refine bodyPost_ret (results_single rfl (.cell (w.heap.size + 1) 79 #[.bool (!b), .slice A1 k1 c1, .slice A2 k2 c2] (0, 0) _ rfl HB.out Tryz.underlying79 rfl (by kernel_rfl) .nil)) rfl ?_
 exact ⟨rfl, below_alloc (below_alloc (Below.refl _ w) _) _⟩
theorem negM (v : Value) (q : Rat) (n : Nat) (w : World) (h : RM w v q n) : Calls Tryz.prog 75 #[v] w (RP w (-q) n) := by
 obtain ⟨b1, A1, c1, l1, A2, c2, l2, rfl, k1, k2, g1⟩ := h
 refine (less_w b1 A1 A2 l1.length c1 l2.length c2 w).mono ?_
 rintro e w' ⟨rfl, hb⟩
 exact ⟨_, rfl, hb, !b1, A1, c1, l1, A2, c2, l2, rfl, Kd.V_below k1 hb, Kd.V_below k2 hb, g1.neg⟩
end Go.Proofs.YtekommcfpjonmaaGreat.Qm
namespace Go.Proofs.YtekommcfpjonmaaGreat.Qp
open RowKit Go YtekommcfpjonmaaGreatW.PrintWords YtekommcfpjonmaaGreatW.PrintLast YtekommcfpjonmaaGreatW.PrintMore Ml Mn Nd Pa Pb Rf Er Ek E Pe Pf Pg Qr Qn Qo
theorem bad_f (x : Ed) : dioramaref10_badEdit.f x.f0 x.f1 x.f2 x.f3 = some (!decide (Vd x)) := by
 unfold dioramaref10_badEdit.f
 rw [isEmpty_f]
 by_cases h1 : x.f0 < 1
 ·rw [if_pos h1, decide_eq_false (fun h => by have := h.d0; omega)]; rfl
 rw [if_neg h1]
 by_cases h2 : x.f0 > 1099511627776
 ·rw [if_pos h2, decide_eq_false (fun h => by have := h.d1; omega)]; rfl
 rw [if_neg h2]
 by_cases h3 : x.f1 < -1
 ·rw [if_pos h3, decide_eq_false (fun h => by have := h.m0; omega)]; rfl
 rw [if_neg h3]
 by_cases h4 : x.f1 > 1099511627776
 ·rw [if_pos h4, decide_eq_false (fun h => by have := h.m1; omega)]; rfl
 rw [if_neg h4]
 by_cases h5 : x.f2 < 0
 ·rw [if_pos h5, decide_eq_false (fun h => by have := h.n0; omega)]; rfl
 rw [if_neg h5]
 by_cases h6 : x.f2 > 1000
 ·rw [if_pos h6, decide_eq_false (fun h => by have := h.n1; omega)]; rfl
 rw [if_neg h6]
 by_cases h7 : x.f3 < 1
 ·rw [if_pos h7, decide_eq_false (fun h => by have := h.e0; omega)]; rfl
 rw [if_neg h7]
 by_cases h8 : x.f3 > 1000
 ·rw [if_pos h8, decide_eq_false (fun h => by have := h.e1; omega)]; rfl
 rw [if_neg h8]
 simp only [Option.bind_some]
 by_cases h9 : x.f1 = -1
 ·rw [if_pos (decide_eq_true h9)]
  by_cases h10 : x.f2 = 1
  ·rw [if_pos h10]
   by_cases h11 : x.f3 = 1
   ·rw [decide_eq_true (show Vd x from ⟨by omega, by omega, by omega, by omega, by omega, by omega, by omega, by omega, fun _ => ⟨h10, h11⟩⟩), h11]
    rfl
   rw [decide_eq_false (fun h => h11 (h.em (by omega)).2)]
   simp [h11]
  rw [if_neg h10, decide_eq_false (fun h => h10 (h.em (by omega)).1)]
  rfl
 rw [if_neg (by simpa using h9), decide_eq_true (show Vd x from ⟨by omega, by omega, by omega, by omega, by omega, by omega, by omega, by omega, fun h => by omega⟩)]
 rfl
theorem rcheck_l (l : List Ed) (hl : l.length ≤ 20) (rest : List Ed) : ∀ pre, l = pre ++ rest → (∀ x ∈ pre, Vd x) → Ev (fun k => dioramaref10_Check.l0 k l (sumD pre) (pre.length : Int)) (if (∀ x ∈ rest, Vd x) ∧ sumD l ≤ 1099511627776 then 0 else 33) := by
 induction rest with
 | nil =>
  intro pre he hp
  subst he
  refine Ev.step (f := fun _ => some (if (∀ x ∈ ([] : List Ed), Vd x) ∧ sumD (pre ++ []) ≤ 1099511627776 then 0 else 33)) (fun k => ?_) (Ev.now _)
  simp only [dioramaref10_Check.l0, List.append_nil]
  rw [if_neg (by omega)]
  by_cases h : sumD pre > 1099511627776
  ·rw [if_pos h, if_neg (by intro hh; omega)]
  rw [if_neg h, if_pos ⟨by simp, by omega⟩]
 | cons x t ih =>
  intro pre he hp
  have hlen : l.length = pre.length + (t.length + 1) := by rw [he]; simp
  have hx : rd_T67 l (pre.length : Int) = x := by rw [he]; exact rd_at pre x t
  by_cases hV : Vd x
  ·have hs : sumD (pre ++ [x]) = sumD pre + x.f0 := by rw [sumD_app]; simp [sumD]
   have hb := sumD_le hp
   have h0 := sumD_nonneg hp
   have hr := ih (pre ++ [x]) (by rw [he]; simp) (by intro y hy; simp only [List.mem_append, List.mem_singleton] at hy; rcases hy with hy | rfl; exact hp y hy; exact hV)
   have e : ((∀ y ∈ x :: t, Vd y) ∧ sumD l ≤ 1099511627776) = ((∀ y ∈ t, Vd y) ∧ sumD l ≤ 1099511627776) := by
    apply propext
    constructor
    ·rintro ⟨h1, h2⟩; exact ⟨fun y hy => h1 y (by simp [hy]), h2⟩
    rintro ⟨h1, h2⟩; exact ⟨fun y hy => by simp only [List.mem_cons] at hy; rcases hy with rfl | hy; exact hV; exact h1 y hy, h2⟩
   simp only [e]
   refine Ev.step (fun k => ?_) hr
   simp only [dioramaref10_Check.l0]
   rw [if_pos (by omega), if_pos (by omega), hx, bad_f, decide_eq_true hV]
   simp only [Option.bind_some, Bool.not_true, if_neg (show ¬ (false = true) by decide)]
   rw [w64 (by have := hV.d0; omega) (by have := hV.d1; omega), w64 (by omega) (by omega), hs]
   simp
  refine Ev.step (f := fun _ => some 33) (fun k => ?_) ?_
  ·simp only [dioramaref10_Check.l0]
   rw [if_pos (by omega), if_pos (by omega), hx, bad_f, decide_eq_false hV]
   simp
  rw [if_neg (fun h => hV (h.1 x (by simp)))]
  exact Ev.now _
theorem rscale_f (n : Int) : dioramaref10_isScale.f n = some (decide (1 ≤ n ∧ n ≤ 1000000)) := by
 unfold dioramaref10_isScale.f
 by_cases h : n ≥ 1
 ·rw [if_pos h]; simp; omega
 rw [if_neg h]; simp; omega
theorem rcheck_f (l : List Ed) (ms ts : Int) : Ev (fun k => dioramaref10_Check.f k l ms ts) (chk l ms ts) := by
 have h0 : ∀ b, Ev (fun k => dioramaref10_Check.j0 k l b) (if b = true then 1 else if 20 < l.length then 2 else if (∀ x ∈ l, Vd x) ∧ sumD l ≤ 1099511627776 then 0 else 33) := by
  intro b
  by_cases hb : b = true
  ·rw [if_pos hb]
   refine Ev.step (f := fun _ => some 1) (fun k => ?_) (Ev.now _)
   simp only [dioramaref10_Check.j0]
   rw [if_pos hb]
  rw [if_neg hb]
  by_cases hl : 20 < l.length
  ·rw [if_pos hl]
   refine Ev.step (f := fun _ => some 2) (fun k => ?_) (Ev.now _)
   simp only [dioramaref10_Check.j0]
   rw [if_neg hb, if_pos (by omega)]
  rw [if_neg hl]
  refine Ev.step (fun k => ?_) (rcheck_l l (by omega) l [] rfl (by simp))
  simp only [dioramaref10_Check.j0]
  rw [if_neg hb, if_neg (by omega)]
  rfl
 unfold chk
 by_cases h1 : 1 ≤ ms ∧ ms ≤ 1000000
 ·by_cases h2 : 1 ≤ ts ∧ ts ≤ 1000000
  ·rw [if_neg (not_not_intro ⟨h1.1, h1.2, h2.1, h2.2⟩)]
   refine Ev.congr (fun k => ?_) (h0 false)
   unfold dioramaref10_Check.f
   rw [rscale_f, rscale_f, decide_eq_true h1, decide_eq_true h2]
   rfl
  rw [if_pos (fun h => h2 ⟨h.t0, h.t1⟩)]
  refine Ev.congr (fun k => ?_) (h0 true)
  unfold dioramaref10_Check.f
  rw [rscale_f, rscale_f, decide_eq_true h1, decide_eq_false h2]
  rfl
 rw [if_pos (fun h => h1 ⟨h.m0, h.m1⟩)]
 refine Ev.congr (fun k => ?_) (h0 true)
 unfold dioramaref10_Check.f
 rw [rscale_f, decide_eq_false h1]
 rfl
end Go.Proofs.YtekommcfpjonmaaGreat.Qp
namespace Go.Proofs.YtekommcfpjonmaaGreat.Rm
open RowKit Go YtekommcfpjonmaaGreatW.PrintWords YtekommcfpjonmaaGreatW.PrintLast YtekommcfpjonmaaGreatW.PrintMore Ml Mn Nd Z Rf Er Ek Et E Pe Pf Qr Qn Qp Qw Qt Qm
theorem rcheck_n (A : Option Addr) (c : Nat) (l : List Ed) (ms ts : Int) (w : World) (hr : Kd.C k67 w A l.length l) (hc : l.length ≤ c) :
  Calls Tryz.prog 67 #[.slice A l.length c, .int .i64 ms, .int .i64 ts] w (ValP w (.int .i64 (chk l ms ts))) := by
 obtain ⟨k, hk⟩ := (rcheck_f l ms ts).rounds
 exact dioramaref10_Check.calls k A c l ms ts _ w hr hc hk
theorem rvalid_f (n d : Int) : dioramaref02_Valid.f n d = some (Ea.valid n d) := by
 unfold dioramaref02_Valid.f Ea.valid
 by_cases h1 : d ≥ 1
 ·rw [if_pos h1, decide_eq_true (show 1 ≤ d from h1)]
  by_cases h2 : d ≤ 1152921504606846976
  ·rw [if_pos h2, decide_eq_true h2]
   by_cases h3 : n ≥ -1152921504606846976
   ·rw [if_pos h3, decide_eq_true (show -1152921504606846976 ≤ n from h3)]
    rfl
   rw [if_neg h3, decide_eq_false (show ¬ -1152921504606846976 ≤ n from h3)]
   rfl
  rw [if_neg h2, decide_eq_false h2]
  rfl
 rw [if_neg h1, decide_eq_false (show ¬ 1 ≤ d from h1)]
 rfl
theorem rvalid_n (n d : Int) (w : World) : Calls Tryz.prog 42 #[.agg #[.int .i64 n, .int .i64 d]] w (ValP w (.bool (Ea.valid n d))) :=
 dioramaref02_Valid.calls n d _ w (rvalid_f n d)
theorem rempty_n (x : Ed) (w : World) : Calls Tryz.prog 70 #[.agg #[.int .i64 x.f0, .int .i64 x.f1, .int .i64 x.f2, .int .i64 x.f3]] w (ValP w (.bool (x.f1 == -1))) :=
 dioramaref10_isEmpty.calls x.f0 x.f1 x.f2 x.f3 _ w rfl
theorem lessM_t (u v : Value) (p q : Rat) (n m : Nat) (w : World) (h1 : RM w u p n) (h2 : RM w v q m) (hl : n + m + 2 ≤ 1000000) (h : p < q) :
  Calls Tryz.prog 76 #[u, v] w (ValP w (.bool true)) := by
 have := lessM u v p q n m w h1 h2 hl
 rwa [decide_eq_true h] at this
theorem lessM_f (u v : Value) (p q : Rat) (n m : Nat) (w : World) (h1 : RM w u p n) (h2 : RM w v q m) (hl : n + m + 2 ≤ 1000000) (h : ¬ p < q) :
  Calls Tryz.prog 76 #[u, v] w (ValP w (.bool false)) := by
 have := lessM u v p q n m w h1 h2 hl
 rwa [decide_eq_false h] at this
theorem RM.form {w : World} {v : Value} {q : Rat} {n : Nat} (h : RM w v q n) : ∃ b A1 k1 c1 A2 k2 c2, v = .agg #[.bool b, .slice A1 k1 c1, .slice A2 k2 c2] := by
 obtain ⟨b, A1, c1, l1, A2, c2, l2, rfl, _⟩ := h
 exact ⟨_, _, _, _, _, _, _, rfl⟩
end Go.Proofs.YtekommcfpjonmaaGreat.Rm
namespace Go.Proofs.YtekommcfpjonmaaGreat.E
open RowKit Go YtekommcfpjonmaaGreatW.PrintWords YtekommcfpjonmaaGreatW.PrintLast YtekommcfpjonmaaGreatW.PrintMore Et Pe
end Go.Proofs.YtekommcfpjonmaaGreat.E

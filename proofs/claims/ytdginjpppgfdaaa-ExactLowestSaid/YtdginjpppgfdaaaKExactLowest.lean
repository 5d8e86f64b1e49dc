/-
  ExactLowest: for every input the law returns true. ExactLowest: whether any numbers are a time, and its lowest form, are as the reference says. The reference's Lowest, as a value. Words for the walks of the reference: Valid, signs, two times boxed. The reference's Time: a rational number in lowest terms.
-/
import Derived.Test.YtdginjpppgfdaaaKf
import Derived.Test.YtdginjpppgfdaaaKd
import Derived.Test.YtdginjpppgfdaaaRows
import Derived.Test.YtdginjpppgfdaaaKc
import Derived.WalkKit
import Derived.ProofKit
import Derived.OpenShut
import Derived.ChangeOld
import Derived.Below
import Derived.SizedLaws
import Derived.Carry
namespace Go.Proofs.Ytdginjpppgfdaaa.Fc
open Go.RowKit Go Go.Proofs.YtdginjpppgfdaaaW.PrintWords Go.Proofs.YtdginjpppgfdaaaW.PrintLast Go.Proofs.YtdginjpppgfdaaaW.PrintMore Go.Proofs.Ytdginjpppgfdaaa.Ml Go.Proofs.Ytdginjpppgfdaaa.Mn Go.Proofs.Ytdginjpppgfdaaa.Nd Go.Proofs.Ytdginjpppgfdaaa.P Go.Proofs.Ytdginjpppgfdaaa.Nc Go.Proofs.Ytdginjpppgfdaaa.Nb Go.Proofs.Ytdginjpppgfdaaa.Ea Go.Proofs.Ytdginjpppgfdaaa.Eb Go.Proofs.Ytdginjpppgfdaaa.Ee Go.Proofs.Ytdginjpppgfdaaa.Ra Go.Proofs.Ytdginjpppgfdaaa.Rb Go.Proofs.Ytdginjpppgfdaaa.Rd Go.Proofs.Ytdginjpppgfdaaa.Lb Go.Proofs.Ytdginjpppgfdaaa.Fa Go.Proofs.Ytdginjpppgfdaaa.Fb
set_option linter.unusedVariables false
set_option linter.unusedSimpArgs false

/-- Where the search for the greatest common divisor stands. -/
structure GdI (w0 w : World) (a d : Int) (n : Nat) (vx vy : Value) (q : Nat) : Prop where mk ::
  at_ : ∃ A k c A' k' c' x y, vx = .slice A k c ∧ vy = .slice A' k' c' ∧ Dec w (.slice A k c) x n ∧ Dec w (.slice A' k' c') y n ∧ Int.gcd x y = Int.gcd a d ∧ y ≤ (q : Int)
  b : Below w0.heap.size w0 w
theorem gcd_mod (x y : Int) : Int.gcd y (x % y) = Int.gcd x y := by
  have := Int.mul_ediv_add_emod x y
  exact gcd_step (q := x / y) (by rw [Int.mul_comm]; exact this.symm)
theorem sg_gcd (neg : Bool) (a d : Int) : Int.gcd (sg neg a) d = Int.gcd a d := by cases neg <;> simp [sg, Int.neg_gcd]
theorem sg_div (neg : Bool) (a d : Int) : lowN (sg neg a) d = sg neg (a / (Int.gcd a d : Int)) := by
  unfold lowN
  rw [sg_gcd]
  cases neg
  · rfl
  · simp only [sg, if_true]
    exact Int.neg_ediv_of_dvd (Int.gcd_dvd_left _ _)
theorem sg_low (neg : Bool) (a d : Int) : lowD (sg neg a) d = d / (Int.gcd a d : Int) := by
  unfold lowD
  rw [sg_gcd]
theorem vLow_pos {n d : Int} (hd : 1 ≤ d) : vLow n d = if valid (lowN n d) (lowD n d) then two (tm (lowN n d) (lowD n d)) (er 0) else two (tm 0 0) (er 2) := by
  unfold vLow
  rw [(ratN_pos (n := n) (d := d) (by omega)).1, (ratN_pos (n := n) (d := d) (by omega)).2]
theorem vLow_zero {d : Int} (hd : 1 ≤ d) : vLow 0 d = .tuple #[.agg #[.int .i64 0, .int .i64 1], .int .i64 0] := by
  have h1 : lowN 0 d = 0 := by unfold lowN; simp
  have h2 : lowD 0 d = 1 := by
    unfold lowD
    rw [Int.gcd_zero_left, show ((d.natAbs : Nat) : Int) = d by omega]
    exact Int.ediv_self (by omega)
  rw [vLow_pos hd, h1, h2]
  rfl
theorem valid_sg {neg : Bool} {x d : Int} (hx : 0 ≤ x) (hd : 1 ≤ d) : valid (sg neg x) d = (!decide (1152921504606846976 < x) && !decide (1152921504606846976 < d)) := by
  rw [Bool.eq_iff_iff]
  unfold valid
  cases neg <;> simp [sg] <;> omega
set_option maxHeartbeats 16000000 in
set_option maxRecDepth 100000 in
theorem timeR_n (neg : Bool) (A1 A2 : Option Addr) (k1 c1 k2 c2 : Nat) (a d : Int) (n : Nat) (w : World) (h1 : Dec w (.slice A1 k1 c1) a n) (h2 : Dec w (.slice A2 k2 c2) d n) (hd : 1 ≤ d) (hl : n ≤ 400) :
    Calls Try.prog 51 #[.agg #[.bool neg, .slice A1 k1 c1, .slice A2 k2 c2]] w (ValP w (vLow (sg neg a) d)) := by
  have hu := Try.underlying60
  have hu2 := Try.underlying25
  have e1 : (w.alloc (ratObj neg (.slice A1 k1 c1) (.slice A2 k2 c2))).heap.size = w.heap.size + 1 := by simp
  have g2 := blk_new (w.alloc (ratObj neg (.slice A1 k1 c1) (.slice A2 k2 c2))) (timeObj 0 0)
  rw [e1] at g2
  have hbw : Below w.heap.size w ((w.alloc (ratObj neg (.slice A1 k1 c1) (.slice A2 k2 c2))).alloc (timeObj 0 0)) := below_alloc (below_alloc (Below.refl _ w) _) _
  have g1 := blk_alloc (blk_new w (ratObj neg (.slice A1 k1 c1) (.slice A2 k2 c2))) (timeObj 0 0)
  have ha0 := h1.nonneg
  have hk := h1.len0
  generalize hW : (w.alloc (ratObj neg (.slice A1 k1 c1) (.slice A2 k2 c2))).alloc (timeObj 0 0) = W at *
  have HW := Aside0.mk (And.intro hbw (And.intro g1 g2))
  have HD := Aside0.mk (And.intro (h1.below hbw) (h2.below hbw))
  clear hbw g1 g2 h1 h2
  obtain ⟨x0, x1, x2, _⟩ := rat_cells HW.out.2.1
  by_cases hz : a = 0
  · have hkz := hk.2 hz
    subst hkz
    have HV := Aside0.mk (show vLow (sg neg a) d = .tuple #[.agg #[.int .i64 0, .int .i64 1], .int .i64 0] by
      rw [hz, show sg neg 0 = 0 by cases neg <;> rfl]
      exact vLow_zero hd)
    generalize vLow (sg neg a) d = VV at *
    obtain ⟨r0, r1, r2, r3⟩ := time_cells HW.out.2.2
    clear hk hz ha0
    go_enter Try.func51, Try.ntmps51
    go_wp2_with fail
    have gq := blk_new (w.alloc (ratObj neg (.slice A1 0 c1) (.slice A2 k2 c2))) (timeObj 0 1)
    rw [e1] at gq
    refine bodyPost_ret (results_ct rfl _ _ (w.heap.size + 1) 25 #[.int .i64 0, .int .i64 1] (0, 0) _ rfl gq Try.underlying25 rfl (by kernel_rfl)) rfl ?_
    exact ⟨by rw [HV.out]; rfl, below_alloc (below_alloc (Below.refl _ w) _) _⟩
  · have hkb : ((k1 : Int) == 0) = false := by
      have : k1 ≠ 0 := fun h => hz (hk.1 h)
      simp
      omega
    have HZ := Aside0.mk hz
    clear hk hz
    have hG : 0 < (Int.gcd a d : Int) := by
      have := Int.gcd_pos_of_ne_zero_right a (show d ≠ 0 by omega)
      omega
    have HV := Aside0.mk (vLow_pos (n := sg neg a) hd)
    rw [sg_div, sg_low] at HV
    generalize hV : vLow (sg neg a) d = VV at *
    have HG := Aside0.mk (And.intro hG (And.intro (Int.gcd_dvd_left a d) (Int.gcd_dvd_right a d)))
    have HA := Aside0.mk (And.intro ha0 hd)
    have hda : 0 ≤ a / (Int.gcd a d : Int) := Int.ediv_nonneg ha0 (by omega)
    have hdd : 1 ≤ d / (Int.gcd a d : Int) := by
      have e2 : d = d / (Int.gcd a d : Int) * (Int.gcd a d : Int) := (Int.ediv_mul_cancel (Int.gcd_dvd_right a d)).symm
      refine Int.le_of_not_gt fun h0 => ?_
      have : d / (Int.gcd a d : Int) * (Int.gcd a d : Int) ≤ 0 * (Int.gcd a d : Int) := Int.mul_le_mul_of_nonneg_right (by omega) (by omega)
      omega
    have HQ := Aside0.mk (And.intro hda hdd)
    have HI := Aside0.mk (show GdI w W a d n (.slice A1 k1 c1) (.slice A2 k2 c2) d.toNat from ⟨⟨A1, k1, c1, A2, k2, c2, a, d, rfl, rfl, HD.out.1, HD.out.2, rfl, by omega⟩, HW.out.1⟩)
    clear hV hG ha0 hd hda hdd
    go_enter Try.func51, Try.ntmps51
    go_wp2_with fail
    rw [show (w.alloc (.cells #[.bool neg, .slice A1 k1 c1, .slice A2 k2 c2] 60)).alloc (.cells #[.int .i64 0, .int .i64 0] 25) = W from hW]
    refine start_ (n := 6) (S := fun w' => w'.cell? ⟨w.heap.size, 1, none⟩ = some (.slice A1 k1 c1) ∧ w'.cell? ⟨w.heap.size, 2, none⟩ = some (.slice A2 k2 c2)) (ds := []) (bs 6 0) (by kernel_rfl) rfl rfl ⟨x1, x2⟩ (fun hHeld => ?_)
    refine pure_ (i := 0) (N := some 21) (v := ?_) (a' := ?_) (bs 6 1) rfl rfl (by kernel_rfl) (fun _ _ _ h => h) (Or.inl ⟨by rfl, ?_⟩) ?_ ?_; rotate_left; (· intro w'; go_simp; first | done | with_reducible rfl); rotate_left; (· simp only [Act.put, List.setIfInBounds_toArray, List.set_cons_zero, List.set_cons_succ, i64_w, i32_w]; rfl)
    refine pure_ (i := 2) (N := some 23) (v := ?_) (a' := ?_) (bs 6 5) rfl rfl (by kernel_rfl) (fun _ _ _ h => h) (Or.inl ⟨by rfl, ?_⟩) ?_ ?_; rotate_left; (· intro w'; go_simp; first | done | with_reducible rfl); rotate_left; (· simp only [Act.put, List.setIfInBounds_toArray, List.set_cons_zero, List.set_cons_succ, i64_w, i32_w]; rfl)
    refine take_ (i := 1) (N := some 22) (v := ?_) (a' := ?_) (bs 6 7) rfl rfl (by kernel_rfl) (fun _ _ _ h => h) (Or.inl ⟨by rfl, ?_⟩) hHeld ?_ ?_; rotate_left; (· rintro w' ⟨s0, s1⟩; go_simp; first | done | with_reducible rfl); rotate_left; (· simp only [Act.put, List.setIfInBounds_toArray, List.set_cons_zero, List.set_cons_succ, i64_w, i32_w]; rfl)
    refine pure_ (i := 4) (N := some 4) (v := ?_) (a' := ?_) (bs 6 23) rfl rfl (by kernel_rfl) (fun _ _ _ h => h) (Or.inl ⟨by rfl, ?_⟩) ?_ ?_; rotate_left; (· intro w'; go_simp; first | done | with_reducible rfl); rotate_left; (· simp only [Act.put, List.setIfInBounds_toArray, List.set_cons_zero, List.set_cons_succ, i64_w, i32_w]; rfl)
    refine take_ (i := 3) (N := some 24) (v := ?_) (a' := ?_) (bs 6 31) rfl rfl (by kernel_rfl) (fun _ _ _ h => h) (Or.inl ⟨by rfl, ?_⟩) hHeld ?_ ?_; rotate_left; (· rintro w' ⟨s0, s1⟩; go_simp; first | done | with_reducible rfl); rotate_left; (· simp only [Act.put, List.setIfInBounds_toArray, List.set_cons_zero, List.set_cons_succ, i64_w, i32_w]; rfl)
    refine pure_ (i := 5) (N := some 5) (v := ?_) (a' := ?_) (bs 6 63) rfl rfl (by kernel_rfl) (fun _ _ _ h => h) (Or.inl ⟨by rfl, ?_⟩) ?_ ?_; rotate_left; (· intro w'; go_simp; first | done | with_reducible rfl); rotate_left; (· simp only [Act.put, List.setIfInBounds_toArray, List.set_cons_zero, List.set_cons_succ, i64_w, i32_w]; rfl)
    refine done_ (by kernel_rfl) ?_
    have HI2 := Aside0.mk (show GdI w W.drew a d n (.slice A1 k1 c1) (.slice A2 k2 c2) d.toNat from ⟨by
      obtain ⟨A, k, c, A', k', c', x, y, h1, h2, h3, h4, h5⟩ := HI.out.at_
      exact ⟨A, k, c, A', k', c', x, y, h1, h2, h3.below (below_drew' (Below.refl _ _)), h4.below (below_drew' (Below.refl _ _)), h5⟩, HI.out.b.trans ((below_drew' (Below.refl _ _)).mono HI.out.b.size)⟩)
    have HB3 := Aside0.mk (show Below W.heap.size W W.drew from below_drew' (Below.refl _ _))
    clear HI x0 x1 x2
    go_wp2_with fail
    go_loopg [4, 5] d.toNat (fun kq v4 v5 w' => Aside0 (GdI w w' a d n v4 v5 kq) ∧ Aside0 (Below W.heap.size W w'))
    case atStart => exact ⟨HI2, HB3⟩
    case round =>
      clear HI2 HB3
      obtain ⟨⟨⟨Ax, kx, cx, Ay, ky, cy, x, y, rfl, rfl, hDx, hDy, hgc, hyk⟩, hbw⟩, ⟨hbW⟩⟩ := hrel
      have hy0 := hDy.nonneg
      have hky := hDy.len0
      by_cases hy : y = 0
      · have hk0 := hky.2 hy
        subst hk0
        have hxG : x = (Int.gcd a d : Int) := by
          have := hDx.nonneg
          rw [← hgc, hy, Int.gcd_zero]
          omega
        have q1 := blk_below HW.out.2.1 hbW
        obtain ⟨x0, x1, x2, _⟩ := rat_cells q1
        have HX := Aside0.mk (And.intro hDx (And.intro hxG (And.intro hbw (And.intro q1 (And.intro (blk_below HW.out.2.2 hbW) (And.intro (HD.out.1.below hbW) (HD.out.2.below hbW)))))))
        clear hDx hDy hgc hyk hbw hbW hy0 hky hy hxG q1
        go_wp2_with fail
        refine (overD_n wr HX.out.2.2.2.2.2.1 HX.out.1 (by rw [HX.out.2.1]; exact HG.out.1) (by omega)).mono ?_
        rintro e w3 ⟨A5, k5, c5, _, _, _, rfl, hD5, _, hb5⟩
        rw [HX.out.2.1] at hD5
        have q1 := blk_below HX.out.2.2.2.1 hb5
        have HY := Aside0.mk (And.intro hD5 (And.intro (HX.out.1.below hb5) (And.intro (HX.out.2.2.1.trans (hb5.mono HX.out.2.2.1.size)) (And.intro q1 (And.intro (blk_below HX.out.2.2.2.2.1 hb5) (HX.out.2.2.2.2.2.2.below hb5))))))
        have HE := Aside0.mk HX.out.2.1
        clear hD5 hb5 x0 x1 x2 HX
        obtain ⟨x0, x1, x2, _⟩ := rat_cells q1
        clear q1
        go_wp2_with fail
        refine (overD_n w3 HY.out.2.2.2.2.2 HY.out.2.1 (by rw [HE.out]; exact HG.out.1) (by omega)).mono ?_
        rintro e w4 ⟨A6, k6, c6, _, _, _, rfl, hD6, _, hb6⟩
        rw [HE.out] at hD6
        have HX := Aside0.mk (And.intro (HY.out.1.below hb6) (And.intro hD6 (And.intro (HY.out.2.2.1.trans (hb6.mono HY.out.2.2.1.size)) (And.intro (blk_below HY.out.2.2.2.1 hb6) (blk_below HY.out.2.2.2.2.1 hb6)))))
        clear hD6 hb6 x0 x1 x2 HY HE
        generalize a / (Int.gcd a d : Int) = p at *
        generalize d / (Int.gcd a d : Int) = s at *
        go_wp2_with fail
        refine (smallD_n w4 HX.out.1 (by decide) (by decide) (by omega)).mono ?_
        rintro e w5 ⟨rfl, hb5⟩
        have HY := Aside0.mk (And.intro (HX.out.2.1.below hb5) (And.intro (HX.out.2.2.1.trans (hb5.mono HX.out.2.2.1.size)) (And.intro (blk_below HX.out.2.2.2.1 hb5) (blk_below HX.out.2.2.2.2 hb5))))
        clear hb5 HX
        have hq := HQ.out
        have hv := valid_sg (neg := neg) hq.1 hq.2
        by_cases b1 : 1152921504606846976 < p
        · have HV2 := Aside0.mk (show VV = .tuple #[.agg #[.int .i64 0, .int .i64 0], .int .i64 2] by rw [HV.out, hv, decide_eq_true b1]; rfl)
          rw [decide_eq_true b1, if_pos b1]
          clear b1 hq hv
          go_wp2_with fail
          refine (smallD_n w5 HY.out.1 (by decide) (by decide) (by omega)).mono ?_
          rintro e w6 ⟨rfl, hb6⟩
          have HX := Aside0.mk (And.intro (HY.out.2.1.trans (hb6.mono HY.out.2.1.size)) (And.intro (blk_below HY.out.2.2.1 hb6) (blk_below HY.out.2.2.2 hb6)))
          obtain ⟨x0, x1, x2, _⟩ := rat_cells HX.out.2.1
          obtain ⟨r0, r1, r2, r3⟩ := time_cells HX.out.2.2
          clear hb6 HY
          by_cases b2 : 1152921504606846976 < s
          · rw [decide_eq_true b2, if_pos b2]
            clear b2
            go_wp2_with fail
            refine bodyPost_ret (results_ct rfl _ _ (w.heap.size + 1) 25 #[.int .i64 0, .int .i64 0] (0, 0) _ rfl (blk_two HX.out.2.2) Try.underlying25 rfl (by kernel_rfl)) rfl ?_
            exact ⟨by rw [HV2.out]; rfl, (HX.out.1.setCell (by simp) _).setCell (by simp) _⟩
          · rw [decide_eq_false b2, if_neg b2]
            clear b2
            go_wp2_with fail
            refine bodyPost_ret (results_ct rfl _ _ (w.heap.size + 1) 25 #[.int .i64 0, .int .i64 0] (0, 0) _ rfl (blk_two HX.out.2.2) Try.underlying25 rfl (by kernel_rfl)) rfl ?_
            exact ⟨by rw [HV2.out]; rfl, (HX.out.1.setCell (by simp) _).setCell (by simp) _⟩
        · rw [decide_eq_false b1, if_neg b1]
          have HV1 := Aside0.mk (And.intro b1 hv)
          clear hv
          go_wp2_with fail
          refine (smallD_n w5 HY.out.1 (by decide) (by decide) (by omega)).mono ?_
          rintro e w6 ⟨rfl, hb6⟩
          have HX := Aside0.mk (And.intro (HY.out.2.1.trans (hb6.mono HY.out.2.1.size)) (And.intro (blk_below HY.out.2.2.1 hb6) (blk_below HY.out.2.2.2 hb6)))
          obtain ⟨x0, x1, x2, _⟩ := rat_cells HX.out.2.1
          obtain ⟨r0, r1, r2, r3⟩ := time_cells HX.out.2.2
          clear hb6 HY
          by_cases b2 : 1152921504606846976 < s
          · have HV2 := Aside0.mk (show VV = .tuple #[.agg #[.int .i64 0, .int .i64 0], .int .i64 2] by rw [HV.out, HV1.out.2, decide_eq_false (show ¬ 1152921504606846976 < p by omega), decide_eq_true b2]; rfl)
            rw [decide_eq_true b2, if_pos b2]
            clear b1 b2 hq
            go_wp2_with fail
            refine bodyPost_ret (results_ct rfl _ _ (w.heap.size + 1) 25 #[.int .i64 0, .int .i64 0] (0, 0) _ rfl (blk_two HX.out.2.2) Try.underlying25 rfl (by kernel_rfl)) rfl ?_
            exact ⟨by rw [HV2.out]; rfl, (HX.out.1.setCell (by simp) _).setCell (by simp) _⟩
          · rw [decide_eq_false b2, if_neg b2]
            have HV2 := Aside0.mk (show VV = .tuple #[.agg #[.int .i64 (sg neg p), .int .i64 s], .int .i64 0] by rw [HV.out, HV1.out.2, decide_eq_false (show ¬ 1152921504606846976 < p by omega), decide_eq_false b2]; rfl)
            cases neg with
            | true =>
              go_wp2_with fail
              refine bodyPost_ret (results_ct rfl _ _ (w.heap.size + 1) 25 #[.int .i64 (-p), .int .i64 s] (0, 0) _ rfl (blk_two HX.out.2.2) Try.underlying25 rfl (by kernel_rfl)) rfl ?_
              exact ⟨by rw [HV2.out]; rfl, (HX.out.1.setCell (by simp) _).setCell (by simp) _⟩
            | false =>
              go_wp2_with fail
              refine bodyPost_ret (results_ct rfl _ _ (w.heap.size + 1) 25 #[.int .i64 p, .int .i64 s] (0, 0) _ rfl (blk_two HX.out.2.2) Try.underlying25 rfl (by kernel_rfl)) rfl ?_
              exact ⟨by rw [HV2.out]; rfl, (HX.out.1.setCell (by simp) _).setCell (by simp) _⟩
      · cases gk with
        | zero => exfalso; omega
        | succ q1 =>
          have hkp : 0 < ky := by
            have : ky ≠ 0 := fun h => hy (hky.1 h)
            omega
          have HX := Aside0.mk (And.intro (And.intro hDx hDy) (And.intro hgc (And.intro hyk (And.intro hbw hbW))))
          have HP := Aside0.mk (show 0 < y by omega)
          clear hDx hDy hgc hyk hbw hbW hy0 hky hy
          go_wp2_with fail
          refine (overD_n wr HX.out.1.1 HX.out.1.2 HP.out (by omega)).mono ?_
          rintro e w3 ⟨_, _, _, A5, k5, c5, rfl, _, hD5, hb5⟩
          have HN := Aside0.mk (show GdI w w3 a d n (.slice Ay ky cy) (.slice A5 k5 c5) q1 from
            ⟨⟨Ay, ky, cy, A5, k5, c5, y, x % y, rfl, rfl, HX.out.1.2.below hb5, hD5, (gcd_mod x y).trans HX.out.2.1, by have := HX.out.2.2.1; have := Int.emod_lt_of_pos x HP.out; omega⟩, HX.out.2.2.2.1.trans (hb5.mono HX.out.2.2.2.1.size)⟩)
          have HB := Aside0.mk (HX.out.2.2.2.2.trans (hb5.mono HX.out.2.2.2.2.size))
          clear hD5 hb5
          go_wp2_with fail
          go_roundg q1
          case measure => omega
          case rel => exact ⟨HN, HB⟩
theorem timeV_n (N D E x : Int) (neg : Bool) (A1 A2 : Option Addr) (k1 c1 k2 c2 : Nat) (a d : Int) (n : Nat) (w : World) (hV : vLow x d = .tuple #[.agg #[.int .i64 N, .int .i64 D], .int .i64 E]) (h1 : Dec w (.slice A1 k1 c1) a n) (h2 : Dec w (.slice A2 k2 c2) d n) (hx : sg neg a = x) (hd : 1 ≤ d) (hl : n ≤ 400) :
    Calls Try.prog 51 #[.agg #[.bool neg, .slice A1 k1 c1, .slice A2 k2 c2]] w (ValP w (.tuple #[.agg #[.int .i64 N, .int .i64 D], .int .i64 E])) := by
  rw [← hV, ← hx]
  exact timeR_n neg A1 A2 k1 c1 k2 c2 a d n w h1 h2 hd hl
end Go.Proofs.Ytdginjpppgfdaaa.Fc

namespace Go.Proofs.Ytdginjpppgfdaaa.Fx
open Go.RowKit Go Go.Proofs.YtdginjpppgfdaaaW.PrintWords Go.Proofs.YtdginjpppgfdaaaW.PrintLast Go.Proofs.YtdginjpppgfdaaaW.PrintMore Go.Proofs.Ytdginjpppgfdaaa.Ml Go.Proofs.Ytdginjpppgfdaaa.Mn Go.Proofs.Ytdginjpppgfdaaa.Nd Go.Proofs.Ytdginjpppgfdaaa.P Go.Proofs.Ytdginjpppgfdaaa.Nc Go.Proofs.Ytdginjpppgfdaaa.Nb Go.Proofs.Ytdginjpppgfdaaa.Ea Go.Proofs.Ytdginjpppgfdaaa.Eb Go.Proofs.Ytdginjpppgfdaaa.Ee Go.Proofs.Ytdginjpppgfdaaa.Fa Go.Proofs.Ytdginjpppgfdaaa.Fb
set_option linter.unusedVariables false
set_option linter.unusedSimpArgs false

set_option maxHeartbeats 2000000 in
set_option maxRecDepth 100000 in
theorem rValid_n (n d : Int) (w : World) : Calls Try.prog 25 #[tm n d] w (fun e w' => e = .returned (.bool (valid n d)) ∧ Below w.heap.size w w') := by
  have hu := Try.underlying25
  unfold tm
  go_enter Try.func25, Try.ntmps25
  go_wp2
  all_goals
    go_ret
    refine ⟨ret_b ?_, below_alloc (Below.refl _ _) _⟩
    unfold valid
    first | (simp_all; done) | (simp_all; omega) | grind
theorem sg_abs' (x : Int) : sg (decide (x < 0)) (x.natAbs : Int) = x := by
  by_cases h : x < 0
  · rw [decide_eq_true h]; simp [sg]; omega
  · rw [decide_eq_false h]; simp [sg]; omega
theorem sg_mul' (b : Bool) (x y : Int) : sg b (x * y) = sg b x * y := by cases b <;> simp [sg, Int.neg_mul]
theorem sg_not (b : Bool) (x : Int) : sg (!b) x = -sg b x := by cases b <;> simp [sg]
/-- Two times boxed, and room for the answer. -/
structure Bt (w W : World) (n1 d1 n2 d2 : Int) : Prop where
  a : W.heap[w.heap.size]? = some (timeObj n1 d1)
  b : W.heap[w.heap.size + 1]? = some (timeObj n2 d2)
  r : W.heap[w.heap.size + 1 + 1]? = some (timeObj 0 0)
  below : Below w.heap.size w W
theorem Bt.start (w : World) (n1 d1 n2 d2 : Int) : Bt w (((w.alloc (timeObj n1 d1)).alloc (timeObj n2 d2)).alloc (timeObj 0 0)) n1 d1 n2 d2 := by
  have e1 : (w.alloc (timeObj n1 d1)).heap.size = w.heap.size + 1 := by simp
  have e2 : ((w.alloc (timeObj n1 d1)).alloc (timeObj n2 d2)).heap.size = w.heap.size + 1 + 1 := by simp
  have k4 := blk_new ((w.alloc (timeObj n1 d1)).alloc (timeObj n2 d2)) (timeObj 0 0)
  have k2 := blk_new (w.alloc (timeObj n1 d1)) (timeObj n2 d2)
  have k1 := blk_new w (timeObj n1 d1)
  rw [e2] at k4
  rw [e1] at k2
  exact ⟨blk_alloc (blk_alloc k1 _) _, blk_alloc k2 _, k4, below_alloc (below_alloc (below_alloc (Below.refl _ w) _) _) _⟩
theorem Bt.step {w W W2 : World} {n1 d1 n2 d2 : Int} (h : Bt w W n1 d1 n2 d2) (hb : Below W.heap.size W W2) : Bt w W2 n1 d1 n2 d2 :=
  ⟨blk_below h.a hb, blk_below h.b hb, blk_below h.r hb, h.below.trans (hb.mono h.below.size)⟩
theorem Bt.cells {w W : World} {n1 d1 n2 d2 : Int} (h : Bt w W n1 d1 n2 d2) : W.cell? ⟨w.heap.size, 0, none⟩ = some (.int .i64 n1) ∧ W.cell? ⟨w.heap.size, 1, none⟩ = some (.int .i64 d1) ∧ W.cell? ⟨w.heap.size + 1, 0, none⟩ = some (.int .i64 n2) ∧ W.cell? ⟨w.heap.size + 1, 1, none⟩ = some (.int .i64 d2) := by
  obtain ⟨a0, a1, _, _⟩ := time_cells h.a
  obtain ⟨b0, b1, _, _⟩ := time_cells h.b
  exact ⟨a0, a1, b0, b1⟩
theorem Bt.top {w W : World} {n1 d1 n2 d2 : Int} (h : Bt w W n1 d1 n2 d2) : w.heap.size + 1 + 1 < W.heap.size := lt_of_some h.r
theorem D4.of {w : World} {a1 a2 b1 b2 : Value} {a da b db : Int} {n m : Nat} (h1 : Dec w a1 a n) (h2 : Dec w a2 da n) (h3 : Dec w b1 b m) (h4 : Dec w b2 db m) : D4 w a1 a2 b1 b2 a da b db n m := ⟨h1, h2, h3, h4⟩
end Go.Proofs.Ytdginjpppgfdaaa.Fx

namespace Go.Proofs.Ytdginjpppgfdaaa.Fl
open Go.RowKit Go Go.Proofs.YtdginjpppgfdaaaW.PrintWords Go.Proofs.YtdginjpppgfdaaaW.PrintLast Go.Proofs.YtdginjpppgfdaaaW.PrintMore Go.Proofs.Ytdginjpppgfdaaa.Ml Go.Proofs.Ytdginjpppgfdaaa.Mn Go.Proofs.Ytdginjpppgfdaaa.Nd Go.Proofs.Ytdginjpppgfdaaa.P Go.Proofs.Ytdginjpppgfdaaa.Nc Go.Proofs.Ytdginjpppgfdaaa.Nb Go.Proofs.Ytdginjpppgfdaaa.Ea Go.Proofs.Ytdginjpppgfdaaa.Eb Go.Proofs.Ytdginjpppgfdaaa.Ee Go.Proofs.Ytdginjpppgfdaaa.Ra Go.Proofs.Ytdginjpppgfdaaa.Rb Go.Proofs.Ytdginjpppgfdaaa.Rc Go.Proofs.Ytdginjpppgfdaaa.Rd Go.Proofs.Ytdginjpppgfdaaa.Lb Go.Proofs.Ytdginjpppgfdaaa.Fa Go.Proofs.Ytdginjpppgfdaaa.Fb Go.Proofs.Ytdginjpppgfdaaa.Fc Go.Proofs.Ytdginjpppgfdaaa.Fx
set_option linter.unusedVariables false
set_option linter.unusedSimpArgs false

set_option maxHeartbeats 8000000 in
set_option maxRecDepth 100000 in
theorem rLowest_n (n d : Int) (w : World) :
    Calls Try.prog 23 #[tm n d] w (ValP w (vLowest n d)) := by
  have hu := Try.underlying25
  have e1 : (w.alloc (timeObj n d)).heap.size = w.heap.size + 1 := by simp
  have k2 := blk_new (w.alloc (timeObj n d)) (timeObj 0 0)
  rw [e1] at k2
  have hbw : Below w.heap.size w ((w.alloc (timeObj n d)).alloc (timeObj 0 0)) := below_alloc (below_alloc (Below.refl _ w) _) _
  have k1 := blk_alloc (blk_new w (timeObj n d)) (timeObj 0 0)
  generalize hW : (w.alloc (timeObj n d)).alloc (timeObj 0 0) = W at *
  have HW := Aside0.mk (And.intro hbw (And.intro k1 k2))
  clear hbw k1 k2
  cases hv : valid n d with
  | false =>
    rw [show vLowest n d = .tuple #[.agg #[.int .i64 0, .int .i64 0], .int .i64 4] by unfold vLowest; rw [hv]; rfl]
    unfold tm
    go_enter Try.func23, Try.ntmps23
    go_wp2_with fail
    rw [show (w.alloc (.cells #[.int .i64 n, .int .i64 d] 25)).alloc (.cells #[.int .i64 0, .int .i64 0] 25) = W from hW]
    refine (rValid_n n d W).mono ?_
    rintro e w2 ⟨rfl, hb2⟩
    rw [hv]
    have HB2 := Aside0.mk (And.intro (HW.out.1.trans (hb2.mono HW.out.1.size)) (blk_below HW.out.2.2 hb2))
    obtain ⟨r0, r1, r2, r3⟩ := time_cells HB2.out.2
    clear hb2
    go_wp2_with fail
    refine bodyPost_ret (results_ct rfl _ _ (w.heap.size + 1) 25 #[.int .i64 0, .int .i64 0] (0, 0) _ rfl (blk_two HB2.out.2) Try.underlying25 rfl (by kernel_rfl)) rfl ?_
    exact ⟨rfl, (HB2.out.1.setCell (by simp) _).setCell (by simp) _⟩
  | true =>
    have q := valid_bd hv
    obtain ⟨N, D, E, hV⟩ := vLow_form n d
    have hL : vLowest n d = vLow n d := by
      have hlv : valid (lowN n d) (lowD n d) = true := by
        obtain ⟨g, hg, g1, g2, g3⟩ := (show ∃ g : Int, 1 ≤ g ∧ n = lowN n d * g ∧ d = lowD n d * g ∧ 1 ≤ lowD n d from ⟨(Int.gcd n d : Int), by
          have := Int.gcd_pos_of_ne_zero_right n (show d ≠ 0 by omega)
          omega, (Int.ediv_mul_cancel (Int.gcd_dvd_left n d)).symm, (Int.ediv_mul_cancel (Int.gcd_dvd_right n d)).symm, lowD_pos q.1⟩)
        have b1 : lowD n d * 1 ≤ lowD n d * g := Int.mul_le_mul_of_nonneg_left hg (by omega)
        have b2 := div_bound (n := n) (g := (Int.gcd n d : Int)) (m := 1152921504606846976) (by
          have := Int.gcd_pos_of_ne_zero_right n (show d ≠ 0 by omega)
          omega) q.2.2.1 q.2.2.2 (Int.gcd_dvd_left n d)
        have b3 : -1152921504606846976 ≤ lowN n d ∧ lowN n d ≤ 1152921504606846976 := b2
        unfold valid
        simp
        omega
      rw [vLow_pos q.1, hlv]
      unfold vLowest
      rw [hv]
      rfl
    rw [hL, hV]
    have HV := Aside0.mk hV
    clear hV hL
    unfold tm
    go_enter Try.func23, Try.ntmps23
    go_wp2_with fail
    rw [show (w.alloc (.cells #[.int .i64 n, .int .i64 d] 25)).alloc (.cells #[.int .i64 0, .int .i64 0] 25) = W from hW]
    refine (rValid_n n d W).mono ?_
    rintro e w2 ⟨rfl, hb2⟩
    rw [hv]
    have HB2 := Aside0.mk (And.intro (HW.out.1.trans (hb2.mono HW.out.1.size)) (And.intro (blk_below HW.out.2.1 hb2) (blk_below HW.out.2.2 hb2)))
    obtain ⟨a0, a1, _, _⟩ := time_cells HB2.out.2.1
    clear hb2
    go_wp2_with fail
    refine (ratOf_n n d w2 (by omega) (by omega) (by omega) (by omega)).mono ?_
    rintro e w3 ⟨A4, k4, c4, A5, k5, c5, rfl, hD4, hD5, hb3⟩
    have HB3 := Aside0.mk (And.intro (HB2.out.1.trans (hb3.mono HB2.out.1.size)) (blk_below HB2.out.2.2 hb3))
    have HD := Aside0.mk (And.intro hD4 hD5)
    clear hb3 a0 a1 hD4 hD5 HB2
    go_wp2_with fail
    refine (timeV_n N D E n _ A4 A5 k4 c4 k5 c5 _ d 3 w3 HV.out HD.out.1 HD.out.2 (sg_abs' n) q.1 (by decide)).mono ?_
    rintro e w4 ⟨rfl, hb4⟩
    have HB4 := Aside0.mk (And.intro (HB3.out.1.trans (hb4.mono HB3.out.1.size)) (blk_below HB3.out.2 hb4))
    obtain ⟨r0, r1, r2, r3⟩ := time_cells HB4.out.2
    clear hb4 HB3
    go_wp2_with fail
    refine bodyPost_ret (results_ct rfl _ _ (w.heap.size + 1) 25 #[.int .i64 N, .int .i64 D] (0, 0) _ rfl (blk_two HB4.out.2) Try.underlying25 rfl (by kernel_rfl)) rfl ?_
    exact ⟨rfl, (HB4.out.1.setCell (by simp) _).setCell (by simp) _⟩
end Go.Proofs.Ytdginjpppgfdaaa.Fl

namespace Go.Proofs.Ytdginjpppgfdaaa.Lo
open Go.RowKit Go Go.Proofs.YtdginjpppgfdaaaW.PrintWords Go.Proofs.YtdginjpppgfdaaaW.PrintLast Go.Proofs.YtdginjpppgfdaaaW.PrintMore Go.Proofs.Ytdginjpppgfdaaa.Mn Go.Proofs.Ytdginjpppgfdaaa.Nd Go.Proofs.Ytdginjpppgfdaaa.Ea Go.Proofs.Ytdginjpppgfdaaa.Eb Go.Proofs.Ytdginjpppgfdaaa.Ec Go.Proofs.Ytdginjpppgfdaaa.Ee Go.Proofs.Ytdginjpppgfdaaa.Ra Go.Proofs.Ytdginjpppgfdaaa.Rb Go.Proofs.Ytdginjpppgfdaaa.Rc Go.Proofs.Ytdginjpppgfdaaa.Rd Go.Proofs.Ytdginjpppgfdaaa.Lb Go.Proofs.Ytdginjpppgfdaaa.Lw Go.Proofs.Ytdginjpppgfdaaa.Fx Go.Proofs.Ytdginjpppgfdaaa.Fl Go.Proofs.Ytdginjpppgfdaaa.Nc
set_option linter.unusedVariables false
set_option linter.unusedSimpArgs false

theorem FLowestT_n {n d N D E : Int} (h : rLowest n d = (N, D, E)) (w : World) : Calls Try.prog 23 #[.agg #[.int .i64 n, .int .i64 d]] w (TvP w N D E) := (rLowest_n n d w).mono fun e w' hp => TvP.of hp ((vLowest_r _ _).trans (by rw [h]))
theorem validT (n d : Int) (w : World) : Calls Try.prog 24 #[.agg #[.int .i64 n, .int .i64 d]] w (fun e w' => e = .returned (.bool (valid n d)) ∧ Below w.heap.size w w') := Valid_n n d w
theorem rvalidT (n d : Int) (w : World) : Calls Try.prog 25 #[.agg #[.int .i64 n, .int .i64 d]] w (fun e w' => e = .returned (.bool (valid n d)) ∧ Below w.heap.size w w') := rValid_n n d w
set_option maxHeartbeats 32000000 in
set_option maxRecDepth 100000 in
theorem walk (n d : Int) (w : World) (_ : (Lit.int .i64 n).wf = true) (_ : (Lit.int .i64 d).wf = true) :
    Calls Try.prog 5 #[.agg #[.int .i64 n, .int .i64 d]] w (fun e w' => e = .returned (.bool true) ∧ Below w.heap.size w w') := by
  have hu := Try.underlying25
  rcases h1 : rLowest n d with ⟨N1, D1, E1⟩
  have HC := Aside0.mk (And.intro (LowestT_n h1) (FLowestT_n h1))
  clear h1
  go_enter Try.func5, Try.ntmps5
  go_wp2_with fail
  refine (HC.out.1 _).mono ?_
  rintro e w1 ⟨rfl, hb⟩
  have HS1 := Aside0.mk (St.call ((St.start w).box (n) (d) (g := w.heap.size) (by simp)) hb)
  clear hb
  obtain ⟨q_t0, q_t1⟩ := HS1.out.get (g := w.heap.size) (n := n) (d := d) (by simp)
  have q_t2 := HS1.out.lt (g := w.heap.size) (n := n) (d := d) (by simp)
  go_wp2_with fail
  refine (HC.out.2 _).mono ?_
  rintro e w2 ⟨rfl, hb⟩
  have HS2 := Aside0.mk (St.call ((HS1.out).box (N1) (D1) (g := w1.heap.size) (by simp)) hb)
  clear hb
  clear q_t0 q_t1 q_t2
  obtain ⟨q_t0, q_t1⟩ := HS2.out.get (g := w.heap.size) (n := n) (d := d) (by simp)
  have q_t2 := HS2.out.lt (g := w.heap.size) (n := n) (d := d) (by simp)
  obtain ⟨q_r10, q_r11⟩ := HS2.out.get (g := w1.heap.size) (n := N1) (d := D1) (by simp)
  have q_r12 := HS2.out.lt (g := w1.heap.size) (n := N1) (d := D1) (by simp)
  go_wp2_with fail
  have HT := Aside0.mk ((HS2.out).box (N1) (D1) (g := w2.heap.size) (by simp))
  generalize hW : World.alloc w2 _ = W
  rw [show w2.alloc (.cells #[.int .i64 N1, .int .i64 D1] 25) = W from hW] at HT
  clear hW q_t0 q_t1 q_t2 q_r10 q_r11 q_r12
  obtain ⟨q_t0, q_t1⟩ := HT.out.get (g := w.heap.size) (n := n) (d := d) (by simp)
  have q_t2 := HT.out.lt (g := w.heap.size) (n := n) (d := d) (by simp)
  obtain ⟨q_r10, q_r11⟩ := HT.out.get (g := w1.heap.size) (n := N1) (d := D1) (by simp)
  have q_r12 := HT.out.lt (g := w1.heap.size) (n := N1) (d := D1) (by simp)
  obtain ⟨q_r20, q_r21⟩ := HT.out.get (g := w2.heap.size) (n := N1) (d := D1) (by simp)
  have q_r22 := HT.out.lt (g := w2.heap.size) (n := N1) (d := D1) (by simp)
  refine start_ (n := 19) (S := fun w' => w'.cell? ⟨w.heap.size, 0, none⟩ = some (.int .i64 n) ∧ w'.cell? ⟨w.heap.size, 1, none⟩ = some (.int .i64 d) ∧ w'.cell? ⟨w1.heap.size, 0, none⟩ = some (.int .i64 N1) ∧ w'.cell? ⟨w1.heap.size, 1, none⟩ = some (.int .i64 D1) ∧ w'.cell? ⟨w2.heap.size, 0, none⟩ = some (.int .i64 N1) ∧ w'.cell? ⟨w2.heap.size, 1, none⟩ = some (.int .i64 D1)) (ds := []) (bs 19 0) (by kernel_rfl) rfl rfl ⟨q_t0, q_t1, q_r10, q_r11, q_r20, q_r21⟩ (fun hHeld => ?_)
  refine take_ (i := 0) (N := some 17) (v := ?_) (a' := ?_) (bs 19 1) rfl rfl (by kernel_rfl) (fun _ _ _ h => h) (Or.inl ⟨by rfl, ?_⟩) hHeld ?_ ?_; rotate_left; (· rintro w' ⟨s0, s1, s2, s3, s4, s5⟩; go_simp; first | done | with_reducible rfl); rotate_left; (· simp only [Act.put, List.setIfInBounds_toArray, List.set_cons_zero, List.set_cons_succ, i64_w, i32_w]; rfl)
  refine take_ (i := 1) (N := some 18) (v := ?_) (a' := ?_) (bs 19 3) rfl rfl (by kernel_rfl) (fun _ _ _ h => h) (Or.inl ⟨by rfl, ?_⟩) hHeld ?_ ?_; rotate_left; (· rintro w' ⟨s0, s1, s2, s3, s4, s5⟩; go_simp; first | done | with_reducible rfl); rotate_left; (· simp only [Act.put, List.setIfInBounds_toArray, List.set_cons_zero, List.set_cons_succ, i64_w, i32_w]; rfl)
  refine pure_ (i := 2) (N := some 19) (v := ?_) (a' := ?_) (bs 19 7) rfl rfl (by kernel_rfl) (fun _ _ _ h => h) (Or.inl ⟨by rfl, ?_⟩) ?_ ?_; rotate_left; (· intro w'; go_simp; first | done | with_reducible rfl); rotate_left; (· simp only [Act.put, List.setIfInBounds_toArray, List.set_cons_zero, List.set_cons_succ, i64_w, i32_w]; rfl)
  refine pure_ (i := 3) (N := some 20) (v := ?_) (a' := ?_) (bs 19 15) rfl rfl (by kernel_rfl) (fun _ _ _ h => h) (Or.inl ⟨by rfl, ?_⟩) ?_ ?_; rotate_left; (· intro w'; go_simp; first | done | with_reducible rfl); rotate_left; (· simp only [Act.put, List.setIfInBounds_toArray, List.set_cons_zero, List.set_cons_succ, i64_w, i32_w]; rfl)
  refine pure_ (i := 4) (N := some 21) (v := ?_) (a' := ?_) (bs 19 31) rfl rfl (by kernel_rfl) (fun _ _ _ h => h) (Or.inl ⟨by rfl, ?_⟩) ?_ ?_; rotate_left; (· intro w'; go_simp; first | done | with_reducible rfl); rotate_left; (· simp only [Act.put, List.setIfInBounds_toArray, List.set_cons_zero, List.set_cons_succ, i64_w, i32_w]; rfl)
  refine pure_ (i := 5) (N := some 22) (v := ?_) (a' := ?_) (bs 19 63) rfl rfl (by kernel_rfl) (fun _ _ _ h => h) (Or.inl ⟨by rfl, ?_⟩) ?_ ?_; rotate_left; (· intro w'; go_simp; first | done | with_reducible rfl); rotate_left; (· simp only [Act.put, List.setIfInBounds_toArray, List.set_cons_zero, List.set_cons_succ, i64_w, i32_w]; rfl)
  refine pure_ (i := 6) (N := some 23) (v := ?_) (a' := ?_) (bs 19 127) rfl rfl (by kernel_rfl) (fun _ _ _ h => h) (Or.inl ⟨by rfl, ?_⟩) ?_ ?_; rotate_left; (· intro w'; go_simp; first | done | with_reducible rfl); rotate_left; (· simp only [Act.put, List.setIfInBounds_toArray, List.set_cons_zero, List.set_cons_succ, i64_w, i32_w]; rfl)
  refine pure_ (i := 7) (N := some 24) (v := ?_) (a' := ?_) (bs 19 255) rfl rfl (by kernel_rfl) (fun _ _ _ h => h) (Or.inl ⟨by rfl, ?_⟩) ?_ ?_; rotate_left; (· intro w'; go_simp; first | done | with_reducible rfl); rotate_left; (· simp only [Act.put, List.setIfInBounds_toArray, List.set_cons_zero, List.set_cons_succ, i64_w, i32_w]; rfl)
  refine pure_ (i := 8) (N := some 25) (v := ?_) (a' := ?_) (bs 19 511) rfl rfl (by kernel_rfl) (fun _ _ _ h => h) (Or.inl ⟨by rfl, ?_⟩) ?_ ?_; rotate_left; (· intro w'; go_simp; first | done | with_reducible rfl); rotate_left; (· simp only [Act.put, List.setIfInBounds_toArray, List.set_cons_zero, List.set_cons_succ, i64_w, i32_w]; rfl)
  refine take_ (i := 9) (N := some 26) (v := ?_) (a' := ?_) (bs 19 1023) rfl rfl (by kernel_rfl) (fun _ _ _ h => h) (Or.inl ⟨by rfl, ?_⟩) hHeld ?_ ?_; rotate_left; (· rintro w' ⟨s0, s1, s2, s3, s4, s5⟩; go_simp; first | done | with_reducible rfl); rotate_left; (· simp only [Act.put, List.setIfInBounds_toArray, List.set_cons_zero, List.set_cons_succ, i64_w, i32_w]; rfl)
  refine take_ (i := 11) (N := some 28) (v := ?_) (a' := ?_) (bs 19 3071) rfl rfl (by kernel_rfl) (fun _ _ _ h => h) (Or.inl ⟨by rfl, ?_⟩) hHeld ?_ ?_; rotate_left; (· rintro w' ⟨s0, s1, s2, s3, s4, s5⟩; go_simp; first | done | with_reducible rfl); rotate_left; (· simp only [Act.put, List.setIfInBounds_toArray, List.set_cons_zero, List.set_cons_succ, i64_w, i32_w]; rfl)
  refine one_ (i := 10) (N := some 27) (bs 19 4095) rfl rfl (by kernel_rfl) (by decide) (fun K hK => ?_)
  refine goes_ Try.func24 (by kernel_rfl) rfl #[.agg #[.int .i64 n, .int .i64 d]] (by rfl) rfl rfl (by simp only [List.map_toArray, List.map_cons, List.map_nil]; rfl) ?_
  with_reducible refine (validT n d _).mono ?_
  rintro e w4 ⟨rfl, hb4⟩
  refine ⟨_, rfl, ?_⟩
  have hb4' := below_drew' hb4
  have hS4 := HT.out.call hb4'
  refine hK.out _ _ ⟨(hS4.get (g := w.heap.size) (n := n) (d := d) (by simp)).1, (hS4.get (g := w.heap.size) (n := n) (d := d) (by simp)).2, (hS4.get (g := w1.heap.size) (n := N1) (d := D1) (by simp)).1, (hS4.get (g := w1.heap.size) (n := N1) (d := D1) (by simp)).2, (hS4.get (g := w2.heap.size) (n := N1) (d := D1) (by simp)).1, (hS4.get (g := w2.heap.size) (n := N1) (d := D1) (by simp)).2⟩ (fun hHeld => ?_)
  clear hK K
  refine norm_ (a' := ?_) ?_ ?_; rotate_left; (· show Act.put _ (some 27) _ = _; simp only [Act.put, List.setIfInBounds_toArray, List.set_cons_zero, List.set_cons_succ, i64_w, i32_w]; rfl)
  refine one_ (i := 12) (N := some 29) (bs 19 8191) rfl rfl (by kernel_rfl) (by decide) (fun K hK => ?_)
  refine goes_ Try.func25 (by kernel_rfl) rfl #[.agg #[.int .i64 n, .int .i64 d]] (by rfl) rfl rfl (by simp only [List.map_toArray, List.map_cons, List.map_nil]; rfl) ?_
  with_reducible refine (rvalidT n d _).mono ?_
  rintro e w5 ⟨rfl, hb5⟩
  refine ⟨_, rfl, ?_⟩
  have hS5 := hS4.call hb5
  refine hK.out _ _ ⟨(hS5.get (g := w.heap.size) (n := n) (d := d) (by simp)).1, (hS5.get (g := w.heap.size) (n := n) (d := d) (by simp)).2, (hS5.get (g := w1.heap.size) (n := N1) (d := D1) (by simp)).1, (hS5.get (g := w1.heap.size) (n := N1) (d := D1) (by simp)).2, (hS5.get (g := w2.heap.size) (n := N1) (d := D1) (by simp)).1, (hS5.get (g := w2.heap.size) (n := N1) (d := D1) (by simp)).2⟩ (fun hHeld => ?_)
  clear hK K
  refine norm_ (a' := ?_) ?_ ?_; rotate_left; (· show Act.put _ (some 29) _ = _; simp only [Act.put, List.setIfInBounds_toArray, List.set_cons_zero, List.set_cons_succ, i64_w, i32_w]; rfl)
  refine pure_ (i := 13) (N := some 30) (v := ?_) (a' := ?_) (bs 19 16383) rfl rfl (by kernel_rfl) (fun _ _ _ h => h) (Or.inl ⟨by rfl, ?_⟩) ?_ ?_; rotate_left; (· intro w'; go_simp; first | done | with_reducible rfl); rotate_left; (· simp only [Act.put, List.setIfInBounds_toArray, List.set_cons_zero, List.set_cons_succ, i64_w, i32_w]; rfl)
  refine pure_ (i := 14) (N := some 31) (v := ?_) (a' := ?_) (bs 19 32767) rfl rfl (by kernel_rfl) (fun _ _ _ h => h) (Or.inl ⟨by rfl, ?_⟩) ?_ ?_; rotate_left; (· intro w'; go_simp; first | done | with_reducible rfl); rotate_left; (· simp only [Act.put, List.setIfInBounds_toArray, List.set_cons_zero, List.set_cons_succ, i64_w, i32_w]; rfl)
  refine pure_ (i := 15) (N := some 32) (v := ?_) (a' := ?_) (bs 19 65535) rfl rfl (by kernel_rfl) (fun _ _ _ h => h) (Or.inl ⟨by rfl, ?_⟩) ?_ ?_; rotate_left; (· intro w'; go_simp; first | done | with_reducible rfl); rotate_left; (· simp only [Act.put, List.setIfInBounds_toArray, List.set_cons_zero, List.set_cons_succ, i64_w, i32_w]; rfl)
  refine one_ (i := 16) (N := some 33) (bs 19 131071) rfl rfl (by kernel_rfl) (by decide) (fun K hK => ?_)
  refine goes_ Try.func21 (by kernel_rfl) rfl #[] (by rfl) rfl rfl (by simp) ?_
  with_reducible refine (awake_n _).mono ?_
  rintro e w6 ⟨rfl, hb6⟩
  refine ⟨_, rfl, ?_⟩
  have hS6 := hS5.call hb6
  refine hK.out _ _ ⟨(hS6.get (g := w.heap.size) (n := n) (d := d) (by simp)).1, (hS6.get (g := w.heap.size) (n := n) (d := d) (by simp)).2, (hS6.get (g := w1.heap.size) (n := N1) (d := D1) (by simp)).1, (hS6.get (g := w1.heap.size) (n := N1) (d := D1) (by simp)).2, (hS6.get (g := w2.heap.size) (n := N1) (d := D1) (by simp)).1, (hS6.get (g := w2.heap.size) (n := N1) (d := D1) (by simp)).2⟩ (fun hHeld => ?_)
  clear hK K
  refine norm_ (a' := ?_) ?_ ?_; rotate_left; (· show Act.put _ (some 33) _ = _; simp only [Act.put, List.setIfInBounds_toArray, List.set_cons_zero, List.set_cons_succ, i64_w, i32_w]; rfl)
  refine pure_ (i := 17) (N := some 34) (v := ?_) (a' := ?_) (bs 19 262143) rfl rfl (by kernel_rfl) (fun _ _ _ h => h) (Or.inl ⟨by rfl, ?_⟩) ?_ ?_; rotate_left; (· intro w'; go_simp; first | done | with_reducible rfl); rotate_left; (· simp only [Act.put, List.setIfInBounds_toArray, List.set_cons_zero, List.set_cons_succ, i64_w, i32_w]; rfl)
  refine pure_ (i := 18) (N := some 2) (v := ?_) (a' := ?_) (bs 19 524287) rfl rfl (by kernel_rfl) (fun _ _ _ h => h) (Or.inl ⟨by rfl, ?_⟩) ?_ ?_; rotate_left; (· intro w'; go_simp; first | done | with_reducible rfl); rotate_left; (· simp only [Act.put, List.setIfInBounds_toArray, List.set_cons_zero, List.set_cons_succ, i64_w, i32_w]; rfl)
  refine done_ (by kernel_rfl) ?_
  have HB := Aside0.mk hS6.b
  go_wp2
  go_ret
  exact ⟨ret_b (by first | rfl | (simp; done)), HB.out⟩
end Go.Proofs.Ytdginjpppgfdaaa.Lo

namespace Go.Proofs.Ytdginjpppgfdaaa.exactLowestRow
open Go.ChangeShapes Go.WideShapes Go.ChangeAt Go.RowKit Go.Proofs.Ytdginjpppgfdaaa.O5
set_option linter.unusedVariables false
set_option maxRecDepth 100000 in
theorem lifted (os : Os) (started : os.Started) (H : Type) (enc : TypeId × Value → H) :
    ReturnsInHanded {} Try.checked os 5 .any (Rows.exactLowestSpec.pre6 enc Try.prog Try.f5 Rows.exactLowestRow.domain false) (Rows.exactLowestSpec.post enc Try.prog Try.f5 false true false false) := by
  refine returnsInHanded_of_change_sized (C := Try.checked) own started (by kernel_rfl) Try.func5
    (ChangeSpec.witness6 (enc := enc) (C := Try.checked) false ⟨#[], #[.agg #[.int .i64 0, .int .i64 0]], []⟩ 8 (by kernel_rfl) (by kernel_rfl) (by kernel_rfl) (by kernel_rfl)) ?_
  intro W base args ds gs before hval0 hW hcnd hsz0 _
  have hval : ∀ (j : Nat) t v, Try.f5.params[j]? = some t → args[j]? = some v → Value.okWide Try.prog W .any base t v := hval0
  have hW' := hW
  obtain ⟨p, q, hA0, hV, rfl, hfz, hnd⟩ := hW
  have hA : DataW.TrodAll enc Try.prog W 0 (fun _ => true) true Try.f5.params.toList args.toList ds p := hA0
  rw [Try.params5] at hA hval
  obtain ⟨v0, vs0, d0, ds0, p0, q0, hargs, rfl, rfl, h0, r0⟩ := trodAll_cons hA
  obtain ⟨rfl, rfl, rfl⟩ := trodAll_nil r0
  obtain rfl : args = #[v0] := by cases args; simp_all
  obtain ⟨rfl, rfl⟩ := trodVars_none hV
  have k0 := h0
  have lt0 : ∀ x ∈ p0, x.block < W.heap.size := by obtain ⟨m, hm⟩ := k0; exact DataW.trod_lt m _ _ _ hm
  obtain ⟨a0_0, a0_1, rfl, w0_0, w0_1⟩ := open_time (hval 0 25 v0 rfl rfl) h0
  clear hA0 hval0 hsz0
  refine (Lo.walk a0_0 a0_1 W w0_0 w0_1).mono fun e W' ⟨he, bel⟩ => ?_
  subst he
  exact ⟨_, rfl, _, _, _, [], _, [], hW', trodAll_mk1 (shut_bool Try.underlying4 _), (trodAll_cons_mk (Below.trod laidOut (by kernel_rfl) (of_decide_eq_true (by kernel_rfl)) k0 bel lt0) trodAll_mk0), rfl, bel.frame _, fun h => by cases h⟩
theorem over : Rows.exactLowestRow.holds Try.pinned (OpenSpec.ofChange Rows.exactLowestSpec) :=
  OpenClaim.holds_of_wide 5 Try.f5 rfl rfl rfl rfl rfl rfl rfl ⟨rfl, rfl, rfl, rfl, rfl⟩ rfl rfl rfl rfl rfl (by kernel_rfl) Try.func5 (by kernel_rfl)
    (of_decide_eq_true (by kernel_rfl)) (by unfold Func.isWrapper; first | (rw [if_pos (by decide +kernel)]; kernel_rfl) | (rw [if_neg (by decide +kernel)]; exact ⟨rfl, rfl⟩))
    (fun os started H enc _ => lifted os started H enc)
end Go.Proofs.Ytdginjpppgfdaaa.exactLowestRow
namespace Go.Proofs.Ytdginjpppgfdaaa
/-- The row, under a short name, for the claim. -/
theorem exactLowest_holds : Rows.ExactLowestSaid := exactLowestRow.over
#print axioms exactLowest_holds
end Go.Proofs.Ytdginjpppgfdaaa

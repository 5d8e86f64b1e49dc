/-
  edit's lowest, over and Length, told as functions of numbers and lists.
-/
import Derived.Test.YtpbhepdgamoiaaaEx0
import Derived.Test.YtpbhepdgamoiaaaEk
namespace Go.Proofs.Ytpbhepdgamoiaaa.E
open Go.RowKit Go Go.Proofs.YtpbhepdgamoiaaaW.PrintWords Go.Proofs.YtpbhepdgamoiaaaW.PrintLast Go.Proofs.YtpbhepdgamoiaaaW.PrintMore Go.Proofs.Ytpbhepdgamoiaaa.Ml Go.Proofs.Ytpbhepdgamoiaaa.Mn Go.Proofs.Ytpbhepdgamoiaaa.Nd Go.Proofs.Ytpbhepdgamoiaaa.Nc Go.Proofs.Ytpbhepdgamoiaaa.Nb Go.Proofs.Ytpbhepdgamoiaaa.Qa Go.Proofs.Ytpbhepdgamoiaaa.Ea Go.Proofs.Ytpbhepdgamoiaaa.Ra Go.Proofs.Ytpbhepdgamoiaaa.Rf Go.Proofs.Ytpbhepdgamoiaaa.Er Go.Proofs.Ytpbhepdgamoiaaa.Ek
set_option linter.unusedVariables false
set_option linter.unusedSimpArgs false

def in64 (x : Int) : Bool := decide (-9223372036854775808 ≤ x) && decide (x ≤ 9223372036854775807)
theorem in64_iff {x : Int} : in64 x = true ↔ I64 x := by
  unfold in64
  simp only [Bool.and_eq_true, decide_eq_true_eq]
  exact ⟨fun h => ⟨h.1, h.2⟩, fun h => ⟨h.lo, h.hi⟩⟩
def rateOk (n e : Int) : Bool := decide (0 ≤ n) && (decide (n ≤ 1000000) && (decide (1 ≤ e) && decide (e ≤ 1000000)))
def edit_lowest.f (a0_0 : Int) (a0_1 : Int) (a0_2 : Int) (a0_3 : Int) : Option (Int × Int × Int × Int) := if rateOk a0_2 a0_3 = true then some (a0_0, a0_1, (qq a0_2 a0_3).num, ((qq a0_2 a0_3).den : Int)) else none
theorem edit_lowest.calls (a0_0 : Int) (a0_1 : Int) (a0_2 : Int) (a0_3 : Int) (r1 : Int) (r2 : Int) (r3 : Int) (r4 : Int) (w : World) (h : edit_lowest.f a0_0 a0_1 a0_2 a0_3 = some (r1, r2, r3, r4)) :
    Calls Try.prog 71 #[.agg #[.int .i64 a0_0, .int .i64 a0_1, .int .i64 a0_2, .int .i64 a0_3]] w fun e w' => e = .returned (.agg #[.int .i64 r1, .int .i64 r2, .int .i64 r3, .int .i64 r4]) ∧ Below w.heap.size w w' := by
  unfold edit_lowest.f rateOk at h
  simp only [Bool.and_eq_true, decide_eq_true_eq] at h
  split at h
  · rename_i hc
    obtain ⟨h0, h1, h2, h3⟩ := hc
    simp only [Option.some.injEq, Prod.mk.injEq] at h
    obtain ⟨rfl, rfl, rfl, rfl⟩ := h
    exact lowest_n _ _ _ _ w h0 h1 h2 h3
  · cases h
def overOk (ms ts d m n e m' : Int) : Bool := in64 ms && (in64 ts && (in64 d && (in64 m && (in64 n && (in64 e && (in64 m' && (decide (ms ≠ 0) && decide (e ≠ 0))))))))
def edit_clocks_over.f (a0_0 : Int) (a0_1 : Int) (a1_0 : Int) (a1_1 : Int) (a1_2 : Int) (a1_3 : Int) (a2_0 : Int) (a2_1 : Int) (a2_2 : Int) (a2_3 : Int) : Option (Bool) := if overOk a0_0 a0_1 a1_0 a1_1 a1_2 a1_3 a2_1 = true then some (overB a0_0 a0_1 a1_0 a1_1 a1_2 a1_3 a2_1 a2_2 a2_3) else none
theorem edit_clocks_over.calls (a0_0 : Int) (a0_1 : Int) (a1_0 : Int) (a1_1 : Int) (a1_2 : Int) (a1_3 : Int) (a2_0 : Int) (a2_1 : Int) (a2_2 : Int) (a2_3 : Int) (r : Bool) (w : World) (h : edit_clocks_over.f a0_0 a0_1 a1_0 a1_1 a1_2 a1_3 a2_0 a2_1 a2_2 a2_3 = some r) :
    Calls Try.prog 113 #[.agg #[.int .i64 a0_0, .int .i64 a0_1], .agg #[.int .i64 a1_0, .int .i64 a1_1, .int .i64 a1_2, .int .i64 a1_3], .agg #[.int .i64 a2_0, .int .i64 a2_1, .int .i64 a2_2, .int .i64 a2_3]] w fun e w' => e = .returned (.bool r) ∧ Below w.heap.size w w' := by
  unfold edit_clocks_over.f overOk at h
  split at h
  · rename_i hc
    simp only [Bool.and_eq_true, decide_eq_true_eq, in64_iff] at hc
    obtain ⟨h1, h2, h3, h4, h5, h6, h7, h8, h9⟩ := hc
    simp only [Option.some.injEq] at h
    subst h
    exact over_n _ _ _ _ _ _ _ _ _ _ w ⟨h1, h8⟩ h2 h4 h5 ⟨h6, h9⟩ h3 h7
  · cases h
/-! ### the length of a list -/
theorem cmp_gt {q m : Int} (h : m < q) : cmpI q m = 1 := by unfold cmpI; rw [if_neg (by omega), if_pos h]
theorem cmp_lt {q m : Int} (h : q < m) : cmpI q m = -1 := by unfold cmpI; rw [if_pos h]
theorem cmp_le {q m : Int} (h : ¬ m < q) : ∃ c : Int, c ≤ 0 ∧ cmpI q m = c := by
  refine ⟨_, ?_, rfl⟩
  unfold cmpI
  by_cases h2 : q < m
  · rw [if_pos h2]; decide
  · rw [if_neg h2, if_neg h]; decide
theorem cmp_ge {q m : Int} (h : ¬ q < m) : ∃ c : Int, 0 ≤ c ∧ cmpI q m = c := by
  refine ⟨_, ?_, rfl⟩
  unfold cmpI
  rw [if_neg h]
  split <;> decide
def sumD : List S77 → Int
  | [] => 0
  | x :: t => x.f0 + sumD t
def lenB (z : Int) : Int := if z < 0 then 0 else if 1099511627776 < z then 0 else z
def lenOk (l : List S77) : Bool := decide (l.length ≤ 100) && l.all (fun x => in64 x.f0)
def edit_Length.f (l0 : List (S77)) : Option (Int) := if lenOk l0 = true then some (lenB (sumD l0)) else none
theorem sumD_app (a b : List S77) : sumD (a ++ b) = sumD a + sumD b := by
  induction a with
  | nil => simp [sumD]
  | cons x t ih => simp only [List.cons_append, sumD, ih]; omega
theorem sumD_take (l : List S77) (i : Nat) (hi : i < l.length) : sumD (l.take (i + 1)) = sumD (l.take i) + (l.getD i z77).f0 := by
  rw [List.take_add_one, sumD_app]
  have : l[i]?.toList = [l.getD i z77] := by
    rw [List.getElem?_eq_getElem hi, List.getD_eq_getElem?_getD, List.getElem?_eq_getElem hi]
    rfl
  rw [this]
  simp [sumD]
theorem isN_zero (w : World) : IsN (w.alloc (.cells #[.bool false, .slice none 0 0] 86)) w.heap.size 0 0 3 :=
  ⟨⟨false, .slice none 0 0, [], ⟨_, 86, blk_new w _, ⟨none, 0, 0, rfl⟩, rfl, rfl⟩, Mag.nil _, Cn.nil _, by simp, by simp [sg, dv], by simp⟩⟩
set_option maxHeartbeats 8000000 in
set_option maxRecDepth 100000 in
theorem edit_Length.calls (A0 : Option Addr) (c0 : Nat) (l0 : List (S77)) (r : Int) (w : World) (hr0 : Kd.C k77 w A0 l0.length l0) (hc0 : l0.length ≤ c0) (h : edit_Length.f l0 = some r) :
    Calls Try.prog 26 #[.slice A0 l0.length c0] w fun e w' => e = .returned (.int .i64 r) ∧ Below w.heap.size w w' := by
  unfold edit_Length.f lenOk at h
  split at h
  case isFalse => cases h
  rename_i hc
  simp only [Bool.and_eq_true, decide_eq_true_eq, List.all_eq_true, in64_iff] at hc
  obtain ⟨hlen, hall⟩ := hc
  simp only [Option.some.injEq] at h
  subst h
  have hu := Try.underlying77
  have HR := Aside0.mk (And.intro hr0 (And.intro hc0 (And.intro hlen hall)))
  have HV := Aside0.mk (show lenB (sumD l0) = if sumD l0 < 0 then 0 else if 1099511627776 < sumD l0 then 0 else sumD l0 from rfl)
  generalize lenB (sumD l0) = V at *
  have hN0 := Aside0.mk (And.intro (isN_zero w) (below_alloc (Below.refl w.heap.size w) (.cells #[.bool false, .slice none 0 0] 86)))
  clear hr0 hc0 hlen hall
  go_enter Try.func26, Try.ntmps26
  go_wp2_with fail
  generalize hW : w.alloc (.cells #[.bool false, .slice none 0 0] 86) = W at *
  go_loopg [9] l0.length (fun kq v9 w' => ∃ i : Int, v9 = .int .i64 i ∧ Aside0 (0 ≤ i ∧ i + kq = l0.length) ∧ Aside0 (IsN w' w.heap.size 0 (sumD (l0.take i.toNat)) (i.toNat + 3)) ∧ Aside0 (Below w.heap.size w w'))
  case atStart => exact ⟨0, rfl, ⟨by simp⟩, ⟨hN0.out.1⟩, ⟨hN0.out.2⟩⟩
  case round =>
    clear hN0 hW
    obtain ⟨i, rfl, hi, hN, hB⟩ := hrel
    by_cases hlt : i < (l0.length : Int)
    · have hlb : decide (i < (l0.length : Int)) = true := decide_eq_true hlt
      have p0 := hi.out.1
      obtain ⟨ad, hA, q0, q1, q2, q3⟩ := at_T77 (Kd.C_below HR.out.1 hB.out) i p0 hlt
      subst hA
      have hn : i.toNat < l0.length := by omega
      have hE : rd_T77 l0 i = l0.getD i.toNat z77 := rfl
      have hmem : l0.getD i.toNat z77 ∈ l0 := by
        rw [List.getD_eq_getElem?_getD, List.getElem?_eq_getElem hn]
        exact List.getElem_mem hn
      have HX := Aside0.mk (And.intro (HR.out.2.2.2 _ hmem) (And.intro (sumD_take l0 i.toNat hn) (And.intro hE (And.intro hn HR.out.2.2.1))))
      obtain ⟨k1, rfl⟩ : ∃ k, gk = k + 1 := ⟨gk - 1, by have := hi.out.2; omega⟩
      generalize rd_T77 l0 i = X at *
      have hwi : wrap64 (i + 1) = i + 1 := by
        have := HR.out.2.2.1
        exact w64 (by omega) (by omega)
      have HW := Aside0.mk (And.intro hwi (And.intro (show 0 ≤ i + 1 ∧ i + 1 + (k1 : Int) = l0.length by have := hi.out.2; omega) (show (i + 1).toNat = i.toNat + 1 by omega)))
      replace p0 := eq_true p0
      replace hlt := eq_true hlt
      clear hE hmem hn hwi hi
      go_wp2_with fail
      have hb1 := below_alloc (Below.refl wr.heap.size wr) (edO X.f0 X.f1 X.f2 X.f3)
      refine (newInt_n X.f0 _ (HX.out.2.2.1 ▸ HX.out.1.lo) (HX.out.2.2.1 ▸ HX.out.1.hi)).mono ?_
      rintro e w3 ⟨g3, hg3, rfl, hb3, hN3⟩
      have hb13 := hb1.trans (hb3.mono hb1.size)
      have H3 := Aside0.mk (And.intro (hN.out.below hb13) (And.intro hN3 (hB.out.trans (hb13.mono hB.out.size))))
      clear hb1 hb3 hN3 hg3 hb13 q0 q1 q2 q3
      go_wp2_with fail
      refine (add_n w.heap.size 0 w.heap.size 0 g3 0 (sumD (l0.take i.toNat)) X.f0 (i.toNat + 3) 2 w3 H3.out.1.room H3.out.1 H3.out.2.1.w (by have := HX.out.2.2.2; omega)).mono ?_
      rintro e w4 ⟨rfl, hw4, hN4⟩
      have H4 := Aside0.mk (And.intro (show IsN w4 w.heap.size 0 (sumD (l0.take (i + 1).toNat)) ((i + 1).toNat + 3) by
        rw [HW.out.2.2, HX.out.2.1, ← HX.out.2.2.1]
        exact hN4.mono (by omega)) (H3.out.2.2.trans (hw4.below (Nat.le_refl _) H3.out.2.2.size)))
      clear hw4 hN4
      go_wp2_with fail
      go_roundg k1
      case measure => omega
      case rel => exact ⟨i + 1, by rw [HW.out.1], ⟨HW.out.2.1⟩, ⟨H4.out.1⟩, ⟨H4.out.2⟩⟩
    · have hlb : decide (i < (l0.length : Int)) = false := decide_eq_false hlt
      have hS : sumD (l0.take i.toNat) = sumD l0 := by rw [List.take_of_length_le (by have := hi.out; omega)]
      have HN := Aside0.mk (And.intro (show IsN wr w.heap.size 0 (sumD l0) (i.toNat + 3) from hS ▸ hN.out) (show i.toNat ≤ 100 by have := hi.out; have := HR.out.2.2.1; omega))
      replace hlt := eq_false hlt
      clear hN hi hS
      go_wp2_with fail
      refine (signI_n w.heap.size 0 (sumD l0) _ wr HN.out.1).mono ?_
      rintro e w2 ⟨rfl, hb2⟩
      have H2 := Aside0.mk (And.intro (HN.out.1.below hb2) (hB.out.trans (hb2.mono hB.out.size)))
      clear hb2
      by_cases hneg : sumD l0 < 0
      · rw [cmp_lt hneg]
        have HV2 := Aside0.mk (show V = 0 by rw [HV.out, if_pos hneg])
        clear hneg HV
        go_wp2_with fail
        go_ret
        exact ⟨ret_i HV2.out.symm, H2.out.2⟩
      · obtain ⟨c, hc, ec⟩ := cmp_ge hneg
        rw [ec]
        have HV2 := Aside0.mk (show V = if 1099511627776 < sumD l0 then 0 else sumD l0 by rw [HV.out, if_neg hneg])
        have HP := Aside0.mk (show 0 ≤ sumD l0 by omega)
        clear hneg HV ec
        go_wp2_with fail
        refine (newInt_n 1099511627776 w2 (by decide) (by decide)).mono ?_
        rintro e w3 ⟨g3, hg3, rfl, hb3, hN3⟩
        have H3 := Aside0.mk (And.intro (H2.out.1.below hb3) (And.intro hN3 (H2.out.2.trans (hb3.mono H2.out.2.size))))
        clear hb3 hN3 hg3
        go_wp2_with fail
        refine (cmp_n w.heap.size 0 g3 0 (sumD l0) 1099511627776 _ 2 w3 H3.out.1 H3.out.2.1 (by have := HN.out.2; omega)).mono ?_
        rintro e w4 ⟨rfl, hb4⟩
        have H4 := Aside0.mk (And.intro (H3.out.1.below hb4) (H3.out.2.2.trans (hb4.mono H3.out.2.2.size)))
        clear hb4
        by_cases hbig : 1099511627776 < sumD l0
        · rw [cmp_gt hbig]
          have HV3 := Aside0.mk (show V = 0 by rw [HV2.out, if_pos hbig])
          clear hbig HV2
          go_wp2_with fail
          go_ret
          exact ⟨ret_i HV3.out.symm, H4.out.2⟩
        · obtain ⟨c2, hc2, ec2⟩ := cmp_le hbig
          rw [ec2]
          have HV3 := Aside0.mk (show V = sumD l0 by rw [HV2.out, if_neg hbig])
          have HL := Aside0.mk (show sumD l0 ≤ 1099511627776 by omega)
          clear hbig HV2 ec2
          go_wp2_with fail
          refine (int64_n w.heap.size 0 (sumD l0) _ w4 H4.out.1 (by have := HP.out; omega) (by have := HL.out; omega) (by have := HN.out.2; omega)).mono ?_
          rintro e w5 ⟨rfl, hb5⟩
          have H5 := Aside0.mk (H4.out.2.trans (hb5.mono H4.out.2.size))
          clear hb5
          go_wp2_with fail
          go_ret
          exact ⟨ret_i HV3.out.symm, H5.out⟩
end Go.Proofs.Ytpbhepdgamoiaaa.E

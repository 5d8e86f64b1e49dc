/-
  exact's functions of whole numbers: what they compute, and the walks of the small ones. exact's functions of ticks: product, rounded, From, Ticks, Whole, Rescale. exact.Rescale; valid, little, cmp, add; the law's awake. valid and little: two times are looked at by a function. exact's valid and little; add and Add of little times; the law's awake. Structs of one-cell fields, by value, opened: a time, and the five numbers of a change of scale. Plain laws of ticks: whole ticks stay whole. Numbers that are made in an order that is open: what is known of those that have been made, in whatever order. exact.Whole, as a value.
-/
import Derived.Test.YtdginjpppgfdaaaKb
import Derived.Test.YtdginjpppgfdaaaChecked
import Derived.Lib.SmallJoins
import Derived.ProofKit
namespace Go.Proofs.Ytdginjpppgfdaaa.Ea
open Go.RowKit Go Go.Proofs.YtdginjpppgfdaaaW.PrintWords Go.Proofs.YtdginjpppgfdaaaW.PrintLast Go.Proofs.YtdginjpppgfdaaaW.PrintMore Go.Proofs.Ytdginjpppgfdaaa.Ml Go.Proofs.Ytdginjpppgfdaaa.Mn Go.Proofs.Ytdginjpppgfdaaa.Nd Go.Proofs.Ytdginjpppgfdaaa.P Go.Proofs.Ytdginjpppgfdaaa.Nc Go.Proofs.Ytdginjpppgfdaaa.Nb Go.Proofs.Ytdginjpppgfdaaa.Qa Go.Proofs.Ytdginjpppgfdaaa.Qb
set_option linter.unusedVariables false
set_option linter.unusedSimpArgs false

theorem gcd_l (y : Nat) : ∀ x k : Nat, y < k → exact_gcd.l0 k (x : Int) (y : Int) = some ((Nat.gcd x y : Nat) : Int) := by
  induction y using Nat.strongRecOn with
  | _ y ih =>
    intro x k hk
    obtain ⟨k, rfl⟩ : ∃ j, k = j + 1 := ⟨k - 1, by omega⟩
    unfold exact_gcd.l0
    by_cases hy : y = 0
    · subst hy
      simp
    · rw [if_neg (by omega)]
      have e : Int.tmod (x : Int) (y : Int) = ((x % y : Nat) : Int) := by rw [Int.tmod_eq_emod_of_nonneg (by omega)]; simp
      rw [e, ih (x % y) (Nat.mod_lt _ (by omega)) y k (by have := Nat.mod_lt x (show y > 0 by omega); omega)]
      congr 2
      rw [Nat.gcd_comm x y, Nat.gcd_rec y x, Nat.gcd_comm]
theorem gcd_f (a : Int) (b : Nat) (k : Nat) (h0 : -9223372036854775807 ≤ a) (h1 : a ≤ 9223372036854775807) (hk : b + 1 < k) : exact_gcd.f k a (b : Int) = some ((Int.gcd a b : Nat) : Int) := by
  obtain ⟨k, rfl⟩ : ∃ j, k = j + 1 := ⟨k - 1, by omega⟩
  have ej : ∀ x y, exact_gcd.j0 (k + 1) x y = exact_gcd.l0 k x y := fun _ _ => by unfold exact_gcd.j0; rfl
  unfold exact_gcd.f
  rw [ej, ej]
  by_cases ha : a < 0
  · rw [if_pos ha, w64 (by omega) (by omega)]
    obtain ⟨n, hn⟩ : ∃ n : Nat, -a = (n : Int) := ⟨(-a).toNat, by omega⟩
    rw [hn, gcd_l b n k (by omega)]
    have : Int.gcd a b = Nat.gcd n b := by
      rw [show a = -(n : Int) by omega, Int.neg_gcd]; rfl
    rw [this]
  · rw [if_neg ha]
    obtain ⟨n, rfl⟩ : ∃ n : Nat, a = (n : Int) := ⟨a.toNat, by omega⟩
    rw [gcd_l b n k (by omega)]
    rfl
def lowN (n d : Int) : Int := n / (Int.gcd n d : Int)
def lowD (n d : Int) : Int := d / (Int.gcd n d : Int)
theorem div_bound {n g : Int} (hg : 1 ≤ g) {m : Int} (h0 : -m ≤ n) (h1 : n ≤ m) (hd : g ∣ n) : -m ≤ n / g ∧ n / g ≤ m := by
  obtain ⟨q, rfl⟩ := hd
  rw [Int.mul_ediv_cancel_left _ (by omega)]
  have hm : 0 ≤ m := by omega
  rcases Int.lt_or_le q 0 with h | h
  · have : g * (-q) ≥ 1 * (-q) := Int.mul_le_mul_of_nonneg_right hg (by omega)
    rw [Int.mul_neg] at this
    omega
  · have : g * q ≥ 1 * q := Int.mul_le_mul_of_nonneg_right hg h
    omega
theorem lowest_f (n : Int) (d : Int) (h0 : -9223372036854775807 ≤ n) (h1 : n ≤ 9223372036854775807) (hd : 1 ≤ d) (hd1 : d ≤ 9223372036854775807) : ∃ k, exact_lowest.f k n d = some (lowN n d, lowD n d) := by
  obtain ⟨m, rfl⟩ : ∃ m : Nat, d = (m : Int) := ⟨d.toNat, by omega⟩
  refine ⟨m + 2, ?_⟩
  unfold exact_lowest.f lowN lowD
  rw [gcd_f n m (m + 2) h0 h1 (by omega), Option.bind_some]
  have hg : 1 ≤ ((Int.gcd n m : Nat) : Int) := by
    have := Int.gcd_pos_of_ne_zero_right n (show (m : Int) ≠ 0 by omega)
    omega
  have d1 : ((Int.gcd n m : Nat) : Int) ∣ n := Int.gcd_dvd_left n m
  have d2 : ((Int.gcd n m : Nat) : Int) ∣ (m : Int) := Int.gcd_dvd_right n m
  rw [if_neg (by omega), Int.tdiv_eq_ediv_of_dvd d1, Int.tdiv_eq_ediv_of_dvd d2]
  have b1 := div_bound hg h0 h1 d1
  have b2 := div_bound hg (m := 9223372036854775807) (by omega) hd1 d2
  rw [w64 (by omega) (by omega), w64 (by omega) (by omega)]

def isScale (s : Int) : Bool := decide (1 ≤ s) && decide (s ≤ 1000000)
def isTicks (s : Int) : Bool := decide (-1099511627776 ≤ s) && decide (s ≤ 1099511627776)
def isHow (h : Int) : Bool := decide (h = 0) || decide (h = 1) || decide (h = 2)
def valid (n d : Int) : Bool := decide (1 ≤ d) && decide (d ≤ 1152921504606846976) && decide (-1152921504606846976 ≤ n) && decide (n ≤ 1152921504606846976)
def tm (n d : Int) : Value := .agg #[.int .i64 n, .int .i64 d]
def er (e : Int) : Value := .int .i64 e

set_option maxHeartbeats 1000000 in
theorem isScale_n (s : Int) (w : World) : Calls Try.prog 47 #[.int .i64 s] w (fun e w' => e = .returned (.bool (isScale s)) ∧ w = w') := by
  go_enter Try.func47, Try.ntmps47
  go_wp2
  all_goals
    go_ret
    refine ⟨ret_b ?_, rfl⟩
    unfold isScale
    first | (simp_all; done) | (simp_all; omega) | grind
set_option maxHeartbeats 1000000 in
theorem isTicks_n (s : Int) (w : World) : Calls Try.prog 46 #[.int .i64 s] w (fun e w' => e = .returned (.bool (isTicks s)) ∧ w = w') := by
  go_enter Try.func46, Try.ntmps46
  go_wp2
  all_goals
    go_ret
    refine ⟨ret_b ?_, rfl⟩
    unfold isTicks
    first | (simp_all; done) | (simp_all; omega) | grind
set_option maxHeartbeats 1000000 in
theorem isHow_n (s : Int) (w : World) : Calls Try.prog 67 #[.int .i64 s] w (fun e w' => e = .returned (.bool (isHow s)) ∧ w = w') := by
  go_enter Try.func67, Try.ntmps67
  go_wp2
  all_goals
    go_ret
    refine ⟨ret_b ?_, rfl⟩
    unfold isHow
    first | (simp_all; done) | (simp_all; omega) | grind
set_option maxHeartbeats 2000000 in
set_option maxRecDepth 100000 in
theorem Valid_n (n d : Int) (w : World) : Calls Try.prog 24 #[tm n d] w (fun e w' => e = .returned (.bool (valid n d)) ∧ Below w.heap.size w w') := by
  have hu := Try.underlying25
  unfold tm
  go_enter Try.func24, Try.ntmps24
  go_wp2
  all_goals
    go_ret
    refine ⟨ret_b ?_, below_alloc (Below.refl _ _) _⟩
    unfold valid
    first | (simp_all; done) | (simp_all; omega) | grind
end Go.Proofs.Ytdginjpppgfdaaa.Ea

namespace Go.Proofs.Ytdginjpppgfdaaa.Eb
open Go.RowKit Go Go.Proofs.YtdginjpppgfdaaaW.PrintWords Go.Proofs.YtdginjpppgfdaaaW.PrintLast Go.Proofs.YtdginjpppgfdaaaW.PrintMore Go.Proofs.Ytdginjpppgfdaaa.Ml Go.Proofs.Ytdginjpppgfdaaa.Mn Go.Proofs.Ytdginjpppgfdaaa.Nd Go.Proofs.Ytdginjpppgfdaaa.P Go.Proofs.Ytdginjpppgfdaaa.Nc Go.Proofs.Ytdginjpppgfdaaa.Nb Go.Proofs.Ytdginjpppgfdaaa.Qa Go.Proofs.Ytdginjpppgfdaaa.Qb Go.Proofs.Ytdginjpppgfdaaa.Ea
set_option linter.unusedVariables false
set_option linter.unusedSimpArgs false

set_option maxHeartbeats 2000000 in
theorem product_n (a b : Int) (w : World) (a0 : -9223372036854775808 ≤ a) (a1 : a ≤ 9223372036854775807) (b0 : -9223372036854775808 ≤ b) (b1 : b ≤ 9223372036854775807) :
    Calls Try.prog 60 #[.int .i64 a, .int .i64 b] w (NewP w (a * b) 4) := by
  have hA := Aside0.mk (And.intro (And.intro a0 a1) (And.intro b0 b1))
  clear a0 a1 b0 b1
  go_enter Try.func60, Try.ntmps60
  go_wp2_with fail
  have hr := room_new w
  have hb1 : Below w.heap.size w (w.alloc (.cells #[.bool false, .slice none 0 0] 80)) := below_alloc (Below.refl _ w) _
  have s1 := hb1.size
  refine (newInt_n a _ hA.out.1.1 hA.out.1.2).mono ?_
  rintro e w2 ⟨g1, hg1, rfl, hb2, hN1⟩
  have H1 := Aside0.mk (And.intro hr (And.intro hb1 (And.intro hb2 hN1)))
  clear hr hb1 hb2 hN1
  go_wp2_with fail
  refine (newInt_n b _ hA.out.2.1 hA.out.2.2).mono ?_
  rintro e w3 ⟨g2, hg2, rfl, hb3, hN2⟩
  have H2 := Aside0.mk (And.intro hb3 hN2)
  clear hb3 hN2
  go_wp2_with fail
  have hlt := H1.out.1.lt
  refine (mul_n w.heap.size 0 g1 0 g2 0 a b 2 2 w3 ((H1.out.1.below H1.out.2.2.1).below H2.out.1) (H1.out.2.2.2.below H2.out.1) H2.out.2 (by decide)).mono ?_
  rintro e w4 ⟨rfl, hw, hN⟩
  have H3 := Aside0.mk (And.intro hw hN)
  clear hw hN
  go_wp2_with fail
  go_ret
  have s2 := H1.out.2.1.size
  have s3 := H1.out.2.2.1.size
  have s4 := H2.out.1.size
  exact ⟨_, Nat.le_refl _, rfl, H1.out.2.1.trans ((H1.out.2.2.1.mono s2).trans ((H2.out.1.mono (by omega)).trans (H3.out.1.below (Nat.le_refl _) (by omega)))), H3.out.2⟩

theorem _root_.Go.Proofs.Ytdginjpppgfdaaa.Nd.Wrote.room' {w w' : World} {g o g2 o2 : Nat} (h : Wrote w w' g o) (_ : Room w g o) (hr : Room w g2 o2) (hne : g2 ≠ g) : Room w' g2 o2 := Wrote.room h hr hne
def rnd (h n d : Int) : Int := if h = 1 then (n + d - 1) / d else if h = 2 then (n * 2 + d) / (d * 2) else n / d
theorem eq_f {a b : Int} (h : a ≠ b) : (a == b) = false := by simpa using h

set_option maxHeartbeats 4000000 in
theorem rounded_n (gn gd nn nd : Nat) (n d h : Int) (w : World) (hn : IsN w gn 0 n nn) (hd : IsN w gd 0 d nd) (hp : 0 < d) (hh : h = 0 ∨ h = 1 ∨ h = 2) (hl : nn + nd ≤ 100) :
    Calls Try.prog 68 #[.pointer (some ⟨gn, 0, none⟩), .pointer (some ⟨gd, 0, none⟩), .int .i64 h] w (NewP w (rnd h n d) (nn + nd + 10)) := by
  have hb1 : Below w.heap.size w (w.alloc (.cells #[.bool false, .slice none 0 0] 80)) := below_alloc (Below.refl _ w) _
  have s1 := hb1.size
  have hr := room_new w
  rcases hh with rfl | rfl | rfl
  · go_enter Try.func68, Try.ntmps68
    go_wp2_with fail
    refine (divI_n w.heap.size 0 gn 0 gd 0 n d nn nd w.heap.size _ hr (hn.below hb1) (hd.below hb1) hp (by omega) (Nat.le_refl _)).mono ?_
    rintro e w2 ⟨rfl, hB, hN⟩
    have H := Aside0.mk (And.intro hB hN)
    clear hB hN
    go_wp2_with fail
    go_ret
    exact ⟨_, Nat.le_refl _, rfl, hb1.trans H.out.1, H.out.2.mono (by omega)⟩
  · go_enter Try.func68, Try.ntmps68
    go_wp2_with fail
    refine (add_n w.heap.size 0 gn 0 gd 0 n d nn nd _ hr (hn.below hb1) (hd.below hb1).w (by omega)).mono ?_
    rintro e w2 ⟨rfl, hw, hN⟩
    have hx := hn.lt
    have hy := hd.lt
    have H := Aside0.mk (And.intro hw (And.intro hN (hw.isN hr (hd.below hb1) (.inl (by omega)))))
    have HB2 := Aside0.mk (hb1.trans (hw.below (Nat.le_refl _) s1))
    clear hw hN
    go_wp2_with fail
    refine (newInt_n 1 _ (by decide) (by decide)).mono ?_
    rintro e w3 ⟨g3, hg3, rfl, hb3, hN3⟩
    have H3 := Aside0.mk (And.intro hb3 hN3)
    have hm : max nn nd ≤ nn + nd := by omega
    clear hb3 hN3
    go_wp2_with fail
    have hx2 := H.out.2.1.below H3.out.1
    refine (subI_n w.heap.size 0 w.heap.size 0 g3 0 (n + d) 1 _ 2 w3 hx2.room hx2 H3.out.2 (by omega)).mono ?_
    rintro e w4 ⟨rfl, hw4, hN4⟩
    have s2 := HB2.out.size
    have s3 := H3.out.1.size
    have hlt := H.out.2.2.lt
    have hyd : IsN w4 gd 0 d nd := hw4.isN hx2.room (H.out.2.2.below H3.out.1) (.inl (by omega))
    have HB4 := Aside0.mk (show Below w.heap.size w w4 from (HB2.out.trans (H3.out.1.mono s2)).trans (hw4.below (Nat.le_refl _) (by omega)))
    have H4 := Aside0.mk (And.intro hN4 hyd)
    clear hw4 hN4 hyd
    go_wp2_with fail
    have hb5 : Below w4.heap.size w4 (w4.alloc (.cells #[.bool false, .slice none 0 0] 80)) := below_alloc (Below.refl _ w4) _
    refine (divI_n w4.heap.size 0 w.heap.size 0 gd 0 (n + d - 1) d _ nd w4.heap.size _ (room_new w4) (H4.out.1.below hb5) (H4.out.2.below hb5) hp (by omega) (Nat.le_refl _)).mono ?_
    rintro e w6 ⟨rfl, hB6, hN6⟩
    have H6 := Aside0.mk (And.intro hB6 hN6)
    clear hB6 hN6
    go_wp2_with fail
    go_ret
    have s4 := HB4.out.size
    exact ⟨_, s4, rfl, HB4.out.trans ((hb5.trans H6.out.1).mono s4), H6.out.2.mono (by omega)⟩
  · go_enter Try.func68, Try.ntmps68
    go_wp2_with fail
    generalize hw1 : w.alloc (.cells #[.bool false, .slice none 0 0] 80) = w1 at *
    have sz1 : w1.heap.size = w.heap.size + 1 := by rw [← hw1]; simp
    have hb2 : Below w1.heap.size w1 (w1.alloc (.cells #[.bool false, .slice none 0 0] 80)) := below_alloc (Below.refl _ w1) _
    have hr2 := room_new w1
    rw [sz1] at hr2
    refine (lsh_n (w.heap.size + 1) 0 gn 0 n nn _ hr2 ((hn.below hb1).below hb2) (by omega)).mono ?_
    rintro e w3 ⟨rfl, hw3, hN3⟩
    have hx := hn.lt
    have hy := hd.lt
    have s2 := hb2.size
    have hA := hw3.room' hr2 (hr.below hb2) (by omega)
    have hD := hw3.isN hr2 ((hd.below hb1).below hb2) (.inl (by omega))
    have HB3 := Aside0.mk ((hb1.trans (hb2.mono s1)).trans (hw3.below (by omega) (by omega)))
    have H3 := Aside0.mk (And.intro hN3 (And.intro hA hD))
    clear hw3 hN3 hA hD
    go_wp2_with fail
    refine (add_n w.heap.size 0 (w.heap.size + 1) 0 gd 0 (n * 2) d (nn + 1) nd w3 H3.out.2.1 H3.out.1 H3.out.2.2.w (by omega)).mono ?_
    rintro e w4 ⟨rfl, hw4, hN4⟩
    have hD := hw4.isN H3.out.2.1 H3.out.2.2 (.inl (by omega))
    have s3 := HB3.out.size
    have HB4 := Aside0.mk (HB3.out.trans (hw4.below (Nat.le_refl _) s3))
    have H4 := Aside0.mk (And.intro hN4 hD)
    clear hw4 hN4 hD
    go_wp2_with fail
    have hb5 : Below w4.heap.size w4 (w4.alloc (.cells #[.bool false, .slice none 0 0] 80)) := below_alloc (Below.refl _ w4) _
    have s4 := HB4.out.size
    have s5 := hb5.size
    have hy4 := H4.out.2.lt
    have hx4 := H4.out.1.lt
    refine (lsh_n w4.heap.size 0 gd 0 d nd _ (room_new w4) (H4.out.2.below hb5) (by omega)).mono ?_
    rintro e w6 ⟨rfl, hw6, hN6⟩
    have hS := hw6.isN (room_new w4) (H4.out.1.below hb5) (.inl (by omega))
    have HB6 := Aside0.mk (HB4.out.trans ((hb5.mono s4).trans (hw6.below s4 (by omega))))
    have H6 := Aside0.mk (And.intro hN6 hS)
    clear hw6 hN6 hS
    go_wp2_with fail
    have hb7 : Below w6.heap.size w6 (w6.alloc (.cells #[.bool false, .slice none 0 0] 80)) := below_alloc (Below.refl _ w6) _
    have hm : max (nn + 1) nd ≤ nn + nd + 1 := by omega
    refine (divI_n w6.heap.size 0 w.heap.size 0 w4.heap.size 0 (n * 2 + d) (d * 2) _ (nd + 1) w6.heap.size _ (room_new w6) (H6.out.2.below hb7) (H6.out.1.below hb7) (by omega) (by omega) (Nat.le_refl _)).mono ?_
    rintro e w8 ⟨rfl, hB8, hN8⟩
    have H8 := Aside0.mk (And.intro hB8 hN8)
    clear hB8 hN8
    go_wp2_with fail
    go_ret
    have s6 := HB6.out.size
    exact ⟨_, s6, rfl, HB6.out.trans ((hb7.trans H8.out.1).mono s6), H8.out.2.mono (by omega)⟩

theorem blk_two {w : World} {g : Nat} {t : TypeId} {a b x y : Value} (h : w.heap[g]? = some (.cells #[a, b] t (0, 0))) : ((w.setCell ⟨g, 0, none⟩ x).setCell ⟨g, 1, none⟩ y).heap[g]? = some (.cells #[x, y] t (0, 0)) :=
  blk_put (cs := #[x, b]) (blk_put (cs := #[a, b]) h 0 x rfl) 1 y rfl
def two (a b : Value) : Value := .tuple #[a, b]
def vFrom (t s : Int) : Value := if isTicks t && isScale s then two (tm (lowN t s) (lowD t s)) (er 0) else two (tm 0 0) (er 1)
set_option maxHeartbeats 4000000 in
set_option maxRecDepth 100000 in
theorem From_n (t s : Int) (w : World) : Calls Try.prog 17 #[.int .i64 t, .int .i64 s] w (ValP w (vFrom t s)) := by
  have hu := Try.underlying25
  unfold vFrom two tm er
  have hb1 : ∀ c, Below w.heap.size w (w.alloc c) := fun c => below_alloc (Below.refl _ w) _
  cases ht : isTicks t with
  | false =>
    go_enter Try.func17, Try.ntmps17
    go_wp2_with fail
    refine (isTicks_n t _).mono ?_
    rintro e w2 ⟨rfl, rfl⟩
    rw [ht]
    go_wp2_with fail
    refine bodyPost_ret (results_ct rfl _ _ w.heap.size 25 #[.int .i64 0, .int .i64 0] (0, 0) _ rfl (blk_new w _) Try.underlying25 rfl (by kernel_rfl)) rfl ?_
    exact ⟨rfl, hb1 _⟩
  | true =>
    cases hs : isScale s with
    | false =>
      go_enter Try.func17, Try.ntmps17
      go_wp2_with fail
      refine (isTicks_n t _).mono ?_
      rintro e w2 ⟨rfl, rfl⟩
      rw [ht]
      go_wp2_with fail
      refine (isScale_n s _).mono ?_
      rintro e w2 ⟨rfl, rfl⟩
      rw [hs]
      go_wp2_with fail
      refine bodyPost_ret (results_ct rfl _ _ w.heap.size 25 #[.int .i64 0, .int .i64 0] (0, 0) _ rfl (blk_new w _) Try.underlying25 rfl (by kernel_rfl)) rfl ?_
      exact ⟨rfl, hb1 _⟩
    | true =>
      have ht2 : -1099511627776 ≤ t ∧ t ≤ 1099511627776 := by unfold isTicks at ht; simpa using ht
      have hs2 : 1 ≤ s ∧ s ≤ 1000000 := by unfold isScale at hs; simpa using hs
      obtain ⟨k, hk⟩ := lowest_f t s (by omega) (by omega) (by omega) (by omega)
      have HK := Aside0.mk hk
      clear hk ht2 hs2
      go_enter Try.func17, Try.ntmps17
      go_wp2_with fail
      refine (isTicks_n t _).mono ?_
      rintro e w2 ⟨rfl, rfl⟩
      rw [ht]
      go_wp2_with fail
      refine (isScale_n s _).mono ?_
      rintro e w2 ⟨rfl, rfl⟩
      rw [hs]
      go_wp2_with fail
      refine (exact_lowest.calls k t s _ _ _ HK.out).mono ?_
      rintro e w3 ⟨rfl, hb3⟩
      have hblk := blk_below (blk_new w _) hb3
      have hc0 : w3.cell? ⟨w.heap.size, 0, none⟩ = some (.int .i64 0) := (blk_cell hblk 0).trans rfl
      have hf0 := blk_frozen hblk 0
      have hc1 : w3.cell? ⟨w.heap.size, 1, none⟩ = some (.int .i64 0) := (blk_cell hblk 1).trans rfl
      have hf1 := blk_frozen hblk 1
      have HB3 := Aside0.mk ((hb1 _).trans (hb3.mono (hb1 _).size))
      have HBL := Aside0.mk hblk
      clear hblk hb3
      go_wp2_with fail
      refine bodyPost_ret (results_ct rfl _ _ w.heap.size 25 #[.int .i64 (lowN t s), .int .i64 (lowD t s)] (0, 0) _ rfl (blk_two HBL.out) Try.underlying25 rfl (by kernel_rfl)) rfl ?_
      exact ⟨rfl, (HB3.out.setCell (Nat.le_refl _) _).setCell (Nat.le_refl _) _⟩

def big (q : Int) : Bool := decide (1099511627776 < (q.natAbs : Int))
def vTicks (n d s h : Int) : Value := if valid n d then (if isScale s && isHow h then (if big (rnd h (n * s) d) then two (.int .i64 0) (er 2) else two (.int .i64 (rnd h (n * s) d)) (er 0)) else two (.int .i64 0) (er 1)) else two (.int .i64 0) (er 4)
set_option maxHeartbeats 8000000 in
set_option maxRecDepth 100000 in
theorem Ticks_n (n d s h : Int) (w : World) : Calls Try.prog 39 #[tm n d, .int .i64 s, .int .i64 h] w (ValP w (vTicks n d s h)) := by
  have hu := Try.underlying25
  have hb1 : Below w.heap.size w (w.alloc (.cells #[.int .i64 n, .int .i64 d] 25)) := below_alloc (Below.refl _ w) _
  have hbk := blk_new w (.cells #[.int .i64 n, .int .i64 d] 25)
  have s1 := hb1.size
  cases hv : valid n d with
  | false =>
    rw [show vTicks n d s h = .tuple #[.int .i64 0, .int .i64 4] by unfold vTicks; rw [hv]; rfl]
    unfold tm
    go_enter Try.func39, Try.ntmps39
    go_wp2_with fail
    refine (Valid_n n d _).mono ?_
    rintro e w2 ⟨rfl, hb2⟩
    rw [hv]
    go_wp2_with fail
    go_ret2
    exact ⟨rfl, hb1.trans (hb2.mono s1)⟩
  | true =>
    cases hs : isScale s with
    | false =>
      rw [show vTicks n d s h = .tuple #[.int .i64 0, .int .i64 1] by unfold vTicks; rw [hv, hs]; rfl]
      unfold tm
      go_enter Try.func39, Try.ntmps39
      go_wp2_with fail
      refine (Valid_n n d _).mono ?_
      rintro e w2 ⟨rfl, hb2⟩
      rw [hv]
      go_wp2_with fail
      refine (isScale_n s _).mono ?_
      rintro e w3 ⟨rfl, rfl⟩
      rw [hs]
      go_wp2_with fail
      go_ret2
      exact ⟨rfl, hb1.trans (hb2.mono s1)⟩
    | true =>
      cases hh : isHow h with
      | false =>
        rw [show vTicks n d s h = .tuple #[.int .i64 0, .int .i64 1] by unfold vTicks; rw [hv, hs, hh]; rfl]
        unfold tm
        go_enter Try.func39, Try.ntmps39
        go_wp2_with fail
        refine (Valid_n n d _).mono ?_
        rintro e w2 ⟨rfl, hb2⟩
        rw [hv]
        go_wp2_with fail
        refine (isScale_n s _).mono ?_
        rintro e w3 ⟨rfl, rfl⟩
        rw [hs]
        go_wp2_with fail
        refine (isHow_n h _).mono ?_
        rintro e w3 ⟨rfl, rfl⟩
        rw [hh]
        go_wp2_with fail
        go_ret2
        exact ⟨rfl, hb1.trans (hb2.mono s1)⟩
      | true =>
        have hv2 : ((1 ≤ d ∧ d ≤ 1152921504606846976) ∧ -1152921504606846976 ≤ n) ∧ n ≤ 1152921504606846976 := by unfold valid at hv; simpa using hv
        have hs2 : 1 ≤ s ∧ s ≤ 1000000 := by unfold isScale at hs; simpa using hs
        have hh2 : h = 0 ∨ h = 1 ∨ h = 2 := by unfold isHow at hh; simp at hh; omega
        obtain ⟨⟨⟨hd1, hd2⟩, hn1⟩, hn2⟩ := hv2
        have hV : vTicks n d s h = if big (rnd h (n * s) d) then .tuple #[.int .i64 0, .int .i64 2] else .tuple #[.int .i64 (rnd h (n * s) d), .int .i64 0] := by unfold vTicks; rw [hv, hs, hh]; rfl
        generalize vTicks n d s h = V at hV ⊢
        generalize hqq : rnd h (n * s) d = q at hV
        have HQ := Aside0.mk (And.intro hqq hV)
        clear hqq hV
        unfold tm
        go_enter Try.func39, Try.ntmps39
        go_wp2_with fail
        refine (Valid_n n d _).mono ?_
        rintro e w2 ⟨rfl, hb2⟩
        rw [hv]
        go_wp2_with fail
        refine (isScale_n s _).mono ?_
        rintro e w3 ⟨rfl, rfl⟩
        rw [hs]
        go_wp2_with fail
        refine (isHow_n h _).mono ?_
        rintro e w3 ⟨rfl, rfl⟩
        rw [hh]
        have hbk2 := blk_below hbk hb2
        have HB2 := Aside0.mk (hb1.trans (hb2.mono s1))
        clear hb2 hbk
        have hc0 : w2.cell? ⟨w.heap.size, 0, none⟩ = some (.int .i64 n) := (blk_cell hbk2 0).trans rfl
        have hc1 : w2.cell? ⟨w.heap.size, 1, none⟩ = some (.int .i64 d) := (blk_cell hbk2 1).trans rfl
        go_wp2_with fail
        refine start_ (n := 10) (S := fun w' => w'.cell? ⟨w.heap.size, 0, none⟩ = some (.int .i64 n) ∧ w'.cell? ⟨w.heap.size, 1, none⟩ = some (.int .i64 d)) (ds := []) (bs 10 0) (by kernel_rfl) rfl rfl ⟨hc0, hc1⟩ (fun hHeld => ?_)
        refine pure_ (i := 0) (N := some 20) (v := ?_) (a' := ?_) (bs 10 1) rfl rfl (by kernel_rfl) (fun _ _ _ h => h) (Or.inl ⟨by rfl, ?_⟩) ?_ ?_; rotate_left; (· intro w'; go_simp; first | done | with_reducible rfl); rotate_left; (· simp only [Act.put, List.setIfInBounds_toArray, List.set_cons_zero, List.set_cons_succ, i64_w, i32_w]; rfl)
        refine pure_ (i := 2) (N := some 22) (v := ?_) (a' := ?_) (bs 10 5) rfl rfl (by kernel_rfl) (fun _ _ _ h => h) (Or.inl ⟨by rfl, ?_⟩) ?_ ?_; rotate_left; (· intro w'; go_simp; first | done | with_reducible rfl); rotate_left; (· simp only [Act.put, List.setIfInBounds_toArray, List.set_cons_zero, List.set_cons_succ, i64_w, i32_w]; rfl)
        refine pure_ (i := 4) (N := some 24) (v := ?_) (a' := ?_) (bs 10 21) rfl rfl (by kernel_rfl) (fun _ _ _ h => h) (Or.inl ⟨by rfl, ?_⟩) ?_ ?_; rotate_left; (· intro w'; go_simp; first | done | with_reducible rfl); rotate_left; (· simp only [Act.put, List.setIfInBounds_toArray, List.set_cons_zero, List.set_cons_succ, i64_w, i32_w]; rfl)
        refine pure_ (i := 7) (N := some 27) (v := ?_) (a' := ?_) (bs 10 149) rfl rfl (by kernel_rfl) (fun _ _ _ h => h) (Or.inl ⟨by rfl, ?_⟩) ?_ ?_; rotate_left; (· intro w'; go_simp; first | done | with_reducible rfl); rotate_left; (· simp only [Act.put, List.setIfInBounds_toArray, List.set_cons_zero, List.set_cons_succ, i64_w, i32_w]; rfl)
        refine take_ (i := 1) (N := some 21) (v := ?_) (a' := ?_) (bs 10 151) rfl rfl (by kernel_rfl) (fun _ _ _ h => h) (Or.inl ⟨by rfl, ?_⟩) hHeld ?_ ?_; rotate_left; (· rintro w' ⟨s0, s1⟩; go_simp; first | done | with_reducible rfl); rotate_left; (· simp only [Act.put, List.setIfInBounds_toArray, List.set_cons_zero, List.set_cons_succ, i64_w, i32_w]; rfl)
        refine take_ (i := 5) (N := some 25) (v := ?_) (a' := ?_) (bs 10 183) rfl rfl (by kernel_rfl) (fun _ _ _ h => h) (Or.inl ⟨by rfl, ?_⟩) hHeld ?_ ?_; rotate_left; (· rintro w' ⟨s0, s1⟩; go_simp; first | done | with_reducible rfl); rotate_left; (· simp only [Act.put, List.setIfInBounds_toArray, List.set_cons_zero, List.set_cons_succ, i64_w, i32_w]; rfl)
        refine one_ (i := 3) (N := some 23) (bs 10 191) rfl rfl (by kernel_rfl) (by decide) (fun K hK => ?_)
        refine goes_ Try.func60 (by kernel_rfl) rfl #[.int .i64 n, .int .i64 s] (by rfl) rfl rfl (by simp only [List.map_toArray, List.map_cons, List.map_nil]; rfl) ?_
        with_reducible refine (product_n n s _ (by omega) (by omega) (by omega) (by omega)).mono ?_
        rintro e w4 ⟨g4, hg4, rfl, hb4, hN4⟩
        refine ⟨_, rfl, ?_⟩
        have hb4' := below_drew' hb4
        refine hK.out _ _ ⟨pw_cell_below hb4' hc0, pw_cell_below hb4' hc1⟩ (fun hHeld => ?_)
        clear hK K
        refine norm_ (a' := ?_) ?_ ?_; rotate_left; (· show Act.put _ (some 23) _ = _; simp only [Act.put, List.setIfInBounds_toArray, List.set_cons_zero, List.set_cons_succ, i64_w, i32_w]; rfl)
        refine one_ (i := 6) (N := some 26) (bs 10 255) rfl rfl (by kernel_rfl) (by decide) (fun K hK => ?_)
        refine goes_ Try.func69 (by kernel_rfl) rfl #[.int .i64 d] (by rfl) rfl rfl (by simp only [List.map_toArray, List.map_cons, List.map_nil]; rfl) ?_
        with_reducible refine (newInt_n d w4 (by omega) (by omega)).mono ?_
        rintro e w5 ⟨g5, hg5, rfl, hb5, hN5⟩
        refine ⟨_, rfl, ?_⟩
        have hb45 := hb4'.trans (hb5.mono hb4'.size)
        refine hK.out _ _ ⟨pw_cell_below hb45 hc0, pw_cell_below hb45 hc1⟩ (fun hHeld => ?_)
        clear hK K
        refine norm_ (a' := ?_) ?_ ?_; rotate_left; (· show Act.put _ (some 26) _ = _; simp only [Act.put, List.setIfInBounds_toArray, List.set_cons_zero, List.set_cons_succ, i64_w, i32_w]; rfl)
        refine one_ (i := 8) (N := some 28) (bs 10 511) rfl rfl (by kernel_rfl) (by decide) (fun K hK => ?_)
        refine goes_ Try.func68 (by kernel_rfl) rfl #[.pointer (some ⟨g4, 0, none⟩), .pointer (some ⟨g5, 0, none⟩), .int .i64 h] (by rfl) rfl rfl (by simp only [List.map_toArray, List.map_cons, List.map_nil]; rfl) ?_
        with_reducible refine (rounded_n g4 g5 4 2 (n * s) d h w5 (hN4.below hb5) hN5 (by omega) hh2 (by decide)).mono ?_
        rintro e w6 ⟨g6, hg6, rfl, hb6, hN6⟩
        refine ⟨_, rfl, ?_⟩
        have hb46 := hb45.trans (hb6.mono hb45.size)
        refine hK.out _ _ ⟨pw_cell_below hb46 hc0, pw_cell_below hb46 hc1⟩ (fun hHeld => ?_)
        clear hK K
        refine norm_ (a' := ?_) ?_ ?_; rotate_left; (· show Act.put _ (some 28) _ = _; simp only [Act.put, List.setIfInBounds_toArray, List.set_cons_zero, List.set_cons_succ, i64_w, i32_w]; rfl)
        refine pure_ (i := 9) (N := some 8) (v := ?_) (a' := ?_) (bs 10 1023) rfl rfl (by kernel_rfl) (fun _ _ _ h => h) (Or.inl ⟨by rfl, ?_⟩) ?_ ?_; rotate_left; (· intro w'; go_simp; first | done | with_reducible rfl); rotate_left; (· simp only [Act.put, List.setIfInBounds_toArray, List.set_cons_zero, List.set_cons_succ, i64_w, i32_w]; rfl)
        refine done_ (by kernel_rfl) ?_
        rw [HQ.out.1] at hN6
        have HB6 := Aside0.mk (HB2.out.trans (hb46.mono HB2.out.size))
        have H6 := Aside0.mk hN6
        clear hN6 hb46 hb45 hb4 hb4' hb5 hb6 hN4 hN5 hc0 hc1 hbk2 HB2 hHeld
        go_wp2_with fail
        refine (newInt_n 1099511627776 w6 (by decide) (by decide)).mono ?_
        rintro e w7 ⟨g7, hg7, rfl, hb7, hN7⟩
        have HB7 := Aside0.mk (HB6.out.trans (hb7.mono HB6.out.size))
        have H7 := Aside0.mk (And.intro (H6.out.below hb7) hN7)
        clear hb7 hN7 HB6 H6
        go_wp2_with fail
        refine (cmpAbs_n g6 0 g7 0 q 1099511627776 _ _ w7 H7.out.1 H7.out.2 (by decide)).mono ?_
        rintro e w8 ⟨rfl, hb8⟩
        have HB8 := Aside0.mk (HB7.out.trans (hb8.mono HB7.out.size))
        have H8 := Aside0.mk (H7.out.1.below hb8)
        clear hb8 HB7 H7
        by_cases hbig : 1099511627776 < (q.natAbs : Int)
        · have e1 : big q = true := decide_eq_true hbig
          have e2 : cmpI (q.natAbs : Int) ((1099511627776 : Int).natAbs : Int) = 1 := by unfold cmpI; rw [if_neg (by simp; omega), if_pos (by simpa using hbig)]
          have HV := Aside0.mk (show V = .tuple #[.int .i64 0, .int .i64 2] by rw [HQ.out.2, e1]; rfl)
          rw [e2]
          clear e1 e2
          go_wp2_with fail
          go_ret2
          exact ⟨by rw [HV.out]; rfl, HB8.out⟩
        · have e1 : big q = false := decide_eq_false hbig
          have e2 : ∃ c : Int, c ≤ 0 ∧ cmpI (q.natAbs : Int) ((1099511627776 : Int).natAbs : Int) = c := by
            refine ⟨_, ?_, rfl⟩
            unfold cmpI
            split
            · decide
            · rw [if_neg (by simpa using hbig)]; decide
          obtain ⟨c, hc, e2⟩ := e2
          have HV := Aside0.mk (show V = .tuple #[.int .i64 q, .int .i64 0] by rw [HQ.out.2, e1]; rfl)
          rw [e2]
          clear e1 e2
          go_wp2_with fail
          refine (int64_n g6 0 q _ w8 H8.out (by omega) (by omega) (by decide)).mono ?_
          rintro e w9 ⟨rfl, hb9⟩
          go_wp2_with fail
          go_ret2
          exact ⟨by rw [HV.out]; rfl, HB8.out.trans (hb9.mono HB8.out.size)⟩
end Go.Proofs.Ytdginjpppgfdaaa.Eb

namespace Go.Proofs.Ytdginjpppgfdaaa.Ec
open Go.RowKit Go Go.Proofs.YtdginjpppgfdaaaW.PrintWords Go.Proofs.YtdginjpppgfdaaaW.PrintLast Go.Proofs.YtdginjpppgfdaaaW.PrintMore Go.Proofs.Ytdginjpppgfdaaa.Ml Go.Proofs.Ytdginjpppgfdaaa.Mn Go.Proofs.Ytdginjpppgfdaaa.Nd Go.Proofs.Ytdginjpppgfdaaa.P Go.Proofs.Ytdginjpppgfdaaa.Nc Go.Proofs.Ytdginjpppgfdaaa.Nb Go.Proofs.Ytdginjpppgfdaaa.Qa Go.Proofs.Ytdginjpppgfdaaa.Qb Go.Proofs.Ytdginjpppgfdaaa.Ea Go.Proofs.Ytdginjpppgfdaaa.Eb
set_option linter.unusedVariables false
set_option linter.unusedSimpArgs false

/-- Ticks always answer two whole numbers. -/
theorem vTicks_form (n d s h : Int) : ∃ q e, vTicks n d s h = .tuple #[.int .i64 q, .int .i64 e] := by
  unfold vTicks two er
  repeat' split
  all_goals exact ⟨_, _, rfl⟩
def vRescale (t f s h : Int) : Value := if isTicks t && isScale f then vTicks (lowN t f) (lowD t f) s h else .tuple #[.int .i64 0, .int .i64 1]
set_option maxHeartbeats 4000000 in
set_option maxRecDepth 100000 in
theorem Rescale_n (t f s h : Int) (w : World) : Calls Try.prog 19 #[.int .i64 t, .int .i64 f, .int .i64 s, .int .i64 h] w (ValP w (vRescale t f s h)) := by
  have hu := Try.underlying25
  have hF := From_n t f w
  cases hc : (isTicks t && isScale f) with
  | false =>
    rw [show vRescale t f s h = .tuple #[.int .i64 0, .int .i64 1] by unfold vRescale; rw [hc]; rfl]
    rw [show vFrom t f = .tuple #[.agg #[.int .i64 0, .int .i64 0], .int .i64 1] by unfold vFrom; rw [hc]; rfl] at hF
    have HF := Aside0.mk hF
    clear hF
    go_enter Try.func19, Try.ntmps19
    go_wp2_with fail
    refine HF.out.mono ?_
    rintro e w2 ⟨rfl, hb2⟩
    go_wp2_with fail
    go_ret2
    exact ⟨rfl, below_alloc hb2 _⟩
  | true =>
    obtain ⟨q, e, hq⟩ := vTicks_form (lowN t f) (lowD t f) s h
    have hT := fun w => Ticks_n (lowN t f) (lowD t f) s h w
    rw [show vRescale t f s h = .tuple #[.int .i64 q, .int .i64 e] by unfold vRescale; rw [hc, hq]; rfl]
    rw [show vFrom t f = .tuple #[.agg #[.int .i64 (lowN t f), .int .i64 (lowD t f)], .int .i64 0] by unfold vFrom; rw [hc]; rfl] at hF
    rw [hq] at hT
    have HF := Aside0.mk hF
    have HT := Aside0.mk hT
    clear hF hT hq
    go_enter Try.func19, Try.ntmps19
    go_wp2_with fail
    refine HF.out.mono ?_
    rintro e2 w2 ⟨rfl, hb2⟩
    go_wp2_with fail
    refine (HT.out _).mono ?_
    rintro e3 w3 ⟨rfl, hb3⟩
    go_wp2_with fail
    go_ret2
    have h1 := below_alloc hb2 (.cells #[.int .i64 (lowN t f), .int .i64 (lowD t f)] 25)
    exact ⟨rfl, h1.trans (hb3.mono h1.size)⟩
end Go.Proofs.Ytdginjpppgfdaaa.Ec

namespace Go.Proofs.Ytdginjpppgfdaaa.Ed
open Go.RowKit Go Go.Proofs.YtdginjpppgfdaaaW.PrintWords Go.Proofs.YtdginjpppgfdaaaW.PrintLast Go.Proofs.YtdginjpppgfdaaaW.PrintMore Go.Proofs.Ytdginjpppgfdaaa.Ml Go.Proofs.Ytdginjpppgfdaaa.Mn Go.Proofs.Ytdginjpppgfdaaa.Nd Go.Proofs.Ytdginjpppgfdaaa.P Go.Proofs.Ytdginjpppgfdaaa.Nc Go.Proofs.Ytdginjpppgfdaaa.Nb Go.Proofs.Ytdginjpppgfdaaa.Qa Go.Proofs.Ytdginjpppgfdaaa.Qb Go.Proofs.Ytdginjpppgfdaaa.Ea Go.Proofs.Ytdginjpppgfdaaa.Eb Go.Proofs.Ytdginjpppgfdaaa.Ec
set_option linter.unusedVariables false
set_option linter.unusedSimpArgs false

/-- Two times in a row of their own. -/
def Pair (w : World) (g : Nat) (n1 d1 n2 d2 : Int) : Prop := w.heap[g]? = some (.cells #[.int .i64 n1, .int .i64 d1, .int .i64 n2, .int .i64 d2] 25 (0, 0))
set_option maxHeartbeats 4000000 in
set_option maxRecDepth 100000 in
theorem index2_n (F : Nat) (p : Int → Int → Bool) (g : Nat) (n1 d1 n2 d2 : Int) (w : World) (hp : Pair w g n1 d1 n2 d2) (hE : ∀ args w, Sem.run Try.prog (callFunc F args) w = .ok (.enter F args) w)
    (hF : ∀ n d w, Calls Try.prog F #[tm n d] w (fun e w' => e = .returned (.bool (p n d)) ∧ Below w.heap.size w w')) :
    Calls Try.prog 111 #[.slice (some ⟨g, 0, none⟩) 2 2, .func (.func F) #[] #[]] w (fun e w' => ∃ i : Int, e = .returned (.int .i64 i) ∧ decide (0 ≤ i) = (p n1 d1 || p n2 d2) ∧ Below w.heap.size w w') := by
  have hu := Try.underlying25
  go_enter Try.func111, Try.ntmps111
  go_wp2_with fail
  go_loopg [8] 2 (fun kq v8 w' => ∃ i : Nat, v8 = .int .i64 (i : Int) ∧ Aside0 (i + kq = 2) ∧ Aside0 (Below w.heap.size w w') ∧ Aside0 (i = 0 ∨ p n1 d1 = false) ∧ Aside0 (i ≤ 1 ∨ p n2 d2 = false))
  case atStart => exact ⟨0, rfl, ⟨rfl⟩, ⟨Below.refl _ _⟩, ⟨.inl rfl⟩, ⟨.inl (by decide)⟩⟩
  case round =>
    obtain ⟨i, rfl, HK, HB, H1, H2⟩ := hrel
    cases gk with
    | zero =>
      obtain rfl : i = 2 := HK.out
      have q1 : p n1 d1 = false := by have := H1.out; simpa using this
      have q2 : p n2 d2 = false := by have := H2.out; simpa using this
      go_wp2_with fail
      go_ret
      exact ⟨_, rfl, by first | decide | (simp [q1, q2]; done) | simp [*], HB.out⟩
    | succ k1 =>
      have hi : i = 0 ∨ i = 1 := by have := HK.out; omega
      have hbk := blk_below hp HB.out
      rcases hi with rfl | rfl
      · have hc0 : wr.cell? ⟨g, 0, none⟩ = some (.int .i64 n1) := (blk_cell hbk 0).trans rfl
        have hc1 : wr.cell? ⟨g, 1, none⟩ = some (.int .i64 d1) := (blk_cell hbk 1).trans rfl
        go_wp2_with fail
        refine (hF n1 d1 _).mono ?_
        rintro e w2 ⟨rfl, hb2⟩
        have HB2 := Aside0.mk (HB.out.trans (hb2.mono HB.out.size))
        cases hq : p n1 d1 with
        | true =>
          go_wp2_with fail
          go_ret
          exact ⟨_, rfl, by first | decide | (simp [hq]; done) | simp [*], HB2.out⟩
        | false =>
          go_wp2_with fail
          go_roundg k1
          case measure => omega
          case rel => exact ⟨1, rfl, ⟨by have := HK.out; omega⟩, HB2, ⟨.inr hq⟩, ⟨.inl (Nat.le_refl _)⟩⟩
      · have hc0 : wr.cell? ⟨g, 2, none⟩ = some (.int .i64 n2) := (blk_cell hbk 2).trans rfl
        have hc1 : wr.cell? ⟨g, 3, none⟩ = some (.int .i64 d2) := (blk_cell hbk 3).trans rfl
        have q1 : p n1 d1 = false := by have := H1.out; simpa using this
        go_wp2_with fail
        refine (hF n2 d2 _).mono ?_
        rintro e w2 ⟨rfl, hb2⟩
        have HB2 := Aside0.mk (HB.out.trans (hb2.mono HB.out.size))
        cases hq : p n2 d2 with
        | true =>
          go_wp2_with fail
          go_ret
          exact ⟨_, rfl, by first | decide | (simp [hq, q1]; done) | simp [*], HB2.out⟩
        | false =>
          go_wp2_with fail
          go_roundg k1
          case measure => omega
          case rel => exact ⟨2, rfl, ⟨by have := HK.out; omega⟩, HB2, ⟨.inr q1⟩, ⟨.inr hq⟩⟩
set_option maxHeartbeats 1000000 in
theorem has2_n (F : Nat) (p : Int → Int → Bool) (g : Nat) (n1 d1 n2 d2 : Int) (w : World) (hp : Pair w g n1 d1 n2 d2) (hE : ∀ args w, Sem.run Try.prog (callFunc F args) w = .ok (.enter F args) w)
    (hF : ∀ n d w, Calls Try.prog F #[tm n d] w (fun e w' => e = .returned (.bool (p n d)) ∧ Below w.heap.size w w')) :
    Calls Try.prog 82 #[.slice (some ⟨g, 0, none⟩) 2 2, .func (.func F) #[] #[]] w (ValP w (.bool (p n1 d1 || p n2 d2))) := by
  go_enter Try.func82, Try.ntmps82
  go_wp2_with fail
  refine (index2_n F p g n1 d1 n2 d2 w hp hE hF).mono ?_
  rintro e w2 ⟨i, rfl, hi, hb2⟩
  go_wp2_with fail
  go_ret
  exact ⟨ret_b (by first | exact hi | rfl), hb2⟩
set_option maxHeartbeats 1000000 in
theorem notValid_n (n d : Int) (w : World) : Calls Try.prog 83 #[tm n d] w (fun e w' => e = .returned (.bool (!valid n d)) ∧ Below w.heap.size w w') := by
  have hu := Try.underlying25
  unfold tm
  go_enter Try.func83, Try.ntmps83
  go_wp2_with fail
  refine (Valid_n n d _).mono ?_
  rintro e w2 ⟨rfl, hb2⟩
  go_wp2_with fail
  go_ret
  exact ⟨rfl, (below_alloc (Below.refl _ w) _).trans (hb2.mono (by simp))⟩
def small (n d : Int) : Bool := decide (n < 1073741824) && decide (-1073741824 < n) && decide (d < 1073741824)
set_option maxHeartbeats 1000000 in
set_option maxRecDepth 100000 in
theorem large_n (n d : Int) (w : World) : Calls Try.prog 112 #[tm n d] w (fun e w' => e = .returned (.bool (!small n d)) ∧ Below w.heap.size w w') := by
  have hu := Try.underlying25
  unfold tm
  go_enter Try.func112, Try.ntmps112
  go_wp2
  all_goals
    go_ret
    refine ⟨ret_b ?_, below_alloc (Below.refl _ _) _⟩
    unfold small
    first | (simp_all; done) | (simp_all; omega) | grind
end Go.Proofs.Ytdginjpppgfdaaa.Ed

namespace Go.Proofs.Ytdginjpppgfdaaa.Ee
open Go.RowKit Go Go.Proofs.YtdginjpppgfdaaaW.PrintWords Go.Proofs.YtdginjpppgfdaaaW.PrintLast Go.Proofs.YtdginjpppgfdaaaW.PrintMore Go.Proofs.Ytdginjpppgfdaaa.Ml Go.Proofs.Ytdginjpppgfdaaa.Mn Go.Proofs.Ytdginjpppgfdaaa.Nd Go.Proofs.Ytdginjpppgfdaaa.P Go.Proofs.Ytdginjpppgfdaaa.Nc Go.Proofs.Ytdginjpppgfdaaa.Nb Go.Proofs.Ytdginjpppgfdaaa.Qa Go.Proofs.Ytdginjpppgfdaaa.Qb Go.Proofs.Ytdginjpppgfdaaa.Ea Go.Proofs.Ytdginjpppgfdaaa.Eb Go.Proofs.Ytdginjpppgfdaaa.Ec Go.Proofs.Ytdginjpppgfdaaa.Ed
set_option linter.unusedVariables false
set_option linter.unusedSimpArgs false

set_option maxHeartbeats 1000000 in
theorem valid2_n (g : Nat) (n1 d1 n2 d2 : Int) (w : World) (hp : Pair w g n1 d1 n2 d2) :
    Calls Try.prog 56 #[.slice (some ⟨g, 0, none⟩) 2 2] w (ValP w (.bool (valid n1 d1 && valid n2 d2))) := by
  go_enter Try.func56, Try.ntmps56
  go_wp2_with fail
  refine (has2_n 83 (fun n d => !valid n d) g n1 d1 n2 d2 w hp (fun _ _ => by go_simp) notValid_n).mono ?_
  rintro e w2 ⟨rfl, hb2⟩
  go_wp2_with fail
  go_ret
  exact ⟨ret_b (by cases valid n1 d1 <;> cases valid n2 d2 <;> rfl), hb2⟩
set_option maxHeartbeats 1000000 in
theorem little2_n (g : Nat) (n1 d1 n2 d2 : Int) (w : World) (hp : Pair w g n1 d1 n2 d2) :
    Calls Try.prog 84 #[.slice (some ⟨g, 0, none⟩) 2 2] w (ValP w (.bool (small n1 d1 && small n2 d2))) := by
  go_enter Try.func84, Try.ntmps84
  go_wp2_with fail
  refine (has2_n 112 (fun n d => !small n d) g n1 d1 n2 d2 w hp (fun _ _ => by go_simp) large_n).mono ?_
  rintro e w2 ⟨rfl, hb2⟩
  go_wp2_with fail
  go_ret
  exact ⟨ret_b (by cases small n1 d1 <;> cases small n2 d2 <;> rfl), hb2⟩
theorem mul_bd {a b : Int} (a0 : -1073741824 < a) (a1 : a < 1073741824) (b0 : 1 ≤ b) (b1 : b < 1073741824) : -1152921504606846976 < a * b ∧ a * b < 1152921504606846976 := by
  have h1 : a * b ≤ 1073741823 * b := Int.mul_le_mul_of_nonneg_right (by omega) (by omega)
  have h2 : -1073741823 * b ≤ a * b := Int.mul_le_mul_of_nonneg_right (by omega) (by omega)
  omega
def timeObj (n d : Int) : Obj := .cells #[.int .i64 n, .int .i64 d] 25 (0, 0)
/-- Two times boxed, a third one for the answer, and the row of the two. -/
structure Boxed (w W : World) (n1 d1 n2 d2 : Int) : Prop where
  a : W.heap[w.heap.size]? = some (timeObj n1 d1)
  b : W.heap[w.heap.size + 1]? = some (timeObj n2 d2)
  r : W.heap[w.heap.size + 1 + 1]? = some (timeObj 0 0)
  s : Pair W (w.heap.size + 1 + 1 + 1) n1 d1 n2 d2
  below : Below w.heap.size w W
theorem Boxed.start (w : World) (n1 d1 n2 d2 : Int) : Boxed w ((((w.alloc (timeObj n1 d1)).alloc (timeObj n2 d2)).alloc (timeObj 0 0)).alloc (.cells #[.int .i64 n1, .int .i64 d1, .int .i64 n2, .int .i64 d2] 25)) n1 d1 n2 d2 := by
  have e1 : (w.alloc (timeObj n1 d1)).heap.size = w.heap.size + 1 := by simp
  have e2 : ((w.alloc (timeObj n1 d1)).alloc (timeObj n2 d2)).heap.size = w.heap.size + 1 + 1 := by simp
  have e3 : (((w.alloc (timeObj n1 d1)).alloc (timeObj n2 d2)).alloc (timeObj 0 0)).heap.size = w.heap.size + 1 + 1 + 1 := by simp
  have k4 := blk_new (((w.alloc (timeObj n1 d1)).alloc (timeObj n2 d2)).alloc (timeObj 0 0)) (.cells #[.int .i64 n1, .int .i64 d1, .int .i64 n2, .int .i64 d2] 25)
  have k3 := blk_new ((w.alloc (timeObj n1 d1)).alloc (timeObj n2 d2)) (timeObj 0 0)
  have k2 := blk_new (w.alloc (timeObj n1 d1)) (timeObj n2 d2)
  have k1 := blk_new w (timeObj n1 d1)
  rw [e3] at k4
  rw [e2] at k3
  rw [e1] at k2
  refine ⟨blk_alloc (blk_alloc (blk_alloc k1 _) _) _, blk_alloc (blk_alloc k2 _) _, blk_alloc k3 _, k4, below_alloc (below_alloc (below_alloc (below_alloc (Below.refl _ w) _) _) _) _⟩
theorem Boxed.step {w W W2 : World} {n1 d1 n2 d2 : Int} (h : Boxed w W n1 d1 n2 d2) (hb : Below W.heap.size W W2) : Boxed w W2 n1 d1 n2 d2 :=
  ⟨blk_below h.a hb, blk_below h.b hb, blk_below h.r hb, blk_below (o := .cells _ _ _) h.s hb, h.below.trans (hb.mono h.below.size)⟩
theorem time_cells {w : World} {g : Nat} {n d : Int} (h : w.heap[g]? = some (timeObj n d)) : w.cell? ⟨g, 0, none⟩ = some (.int .i64 n) ∧ w.cell? ⟨g, 1, none⟩ = some (.int .i64 d) ∧ w.frozen? ⟨g, 0, none⟩ = false ∧ w.frozen? ⟨g, 1, none⟩ = false :=
  ⟨(blk_cell h 0).trans rfl, (blk_cell h 1).trans rfl, blk_frozen h 0, blk_frozen h 1⟩
set_option maxHeartbeats 4000000 in
set_option maxRecDepth 100000 in
theorem addS_n (n1 d1 n2 d2 : Int) (w : World) (h1 : small n1 d1 = true) (h2 : small n2 d2 = true) (p1 : 1 ≤ d1) (p2 : 1 ≤ d2) (N D : Int) (hN : N = lowN (n1 * d2 + n2 * d1) (d1 * d2)) (hD : D = lowD (n1 * d2 + n2 * d1) (d1 * d2)) (hv : valid N D = true) :
    Calls Try.prog 57 #[tm n1 d1, tm n2 d2] w (ValP w (two (tm N D) (er 0))) := by
  have hu := Try.underlying25
  have hB := Aside0.mk (Boxed.start w n1 d1 n2 d2)
  have hs1 : (n1 < 1073741824 ∧ -1073741824 < n1) ∧ d1 < 1073741824 := by unfold small at h1; simpa using h1
  have hs2 : (n2 < 1073741824 ∧ -1073741824 < n2) ∧ d2 < 1073741824 := by unfold small at h2; simpa using h2
  obtain ⟨x1, x2⟩ := mul_bd hs1.1.2 hs1.1.1 p2 hs2.2
  obtain ⟨y1, y2⟩ := mul_bd hs2.1.2 hs2.1.1 p1 hs1.2
  obtain ⟨z1, z2⟩ := mul_bd (a := d1) (by omega) hs1.2 p2 hs2.2
  have z3 : 1 ≤ d1 * d2 := by have := Int.mul_le_mul_of_nonneg_right p1 (show 0 ≤ d2 by omega); omega
  obtain ⟨k, hk⟩ := lowest_f (n1 * d2 + n2 * d1) (d1 * d2) (by omega) (by omega) z3 (by omega)
  rw [← hN, ← hD] at hk
  have HK := Aside0.mk hk
  clear hs1 hs2 hk hN hD
  unfold two tm er
  go_enter Try.func57, Try.ntmps57
  go_wp2_with fail
  generalize hW : World.alloc (World.alloc _ _) _ = W
  have HB := Aside0.mk (show Boxed w W n1 d1 n2 d2 by rw [← hW]; exact hB.out)
  clear hW hB
  refine (little2_n _ n1 d1 n2 d2 W HB.out.s).mono ?_
  rintro e w2 ⟨rfl, hb2⟩
  rw [h1, h2]
  have HB2 := Aside0.mk (HB.out.step hb2)
  clear hb2 HB
  obtain ⟨a0, a1, _, _⟩ := time_cells HB2.out.a
  obtain ⟨b0, b1, _, _⟩ := time_cells HB2.out.b
  go_wp2_with fail
  refine (exact_lowest.calls k (n1 * d2 + n2 * d1) (d1 * d2) N D _ HK.out).mono ?_
  rintro e w3 ⟨rfl, hb3⟩
  have HB3 := Aside0.mk (HB2.out.step hb3)
  clear hb3 HB2 a0 a1 b0 b1
  go_wp2_with fail
  have hq := blk_new w3 (timeObj N D)
  have hb4 : Below w3.heap.size w3 (w3.alloc (timeObj N D)) := below_alloc (Below.refl _ w3) _
  refine (Valid_n N D _).mono ?_
  rintro e w5 ⟨rfl, hb5⟩
  rw [hv]
  have HB5 := Aside0.mk ((HB3.out.step hb4).step hb5)
  have hq5 := blk_below hq hb5
  obtain ⟨q0, q1, q2, q3⟩ := time_cells hq5
  obtain ⟨r0, r1, r2, r3⟩ := time_cells HB5.out.r
  clear hb4 hb5 hq hq5 HB3
  go_wp2_with fail
  refine bodyPost_ret (results_ct rfl _ _ (w.heap.size + 1 + 1) 25 #[.int .i64 N, .int .i64 D] (0, 0) _ rfl (blk_two HB5.out.r) Try.underlying25 rfl (by kernel_rfl)) rfl ?_
  exact ⟨rfl, (HB5.out.below.setCell (by simp; omega) _).setCell (by simp; omega) _⟩
set_option maxHeartbeats 4000000 in
set_option maxRecDepth 100000 in
/-- Add of two valid times, by what add does. -/
theorem AddV_n (n1 d1 n2 d2 : Int) (w : World) (h1 : valid n1 d1 = true) (h2 : valid n2 d2 = true) (N D E : Int)
    (hA : ∀ w, Calls Try.prog 57 #[tm n1 d1, tm n2 d2] w (ValP w (two (tm N D) (er E)))) :
    Calls Try.prog 26 #[tm n1 d1, tm n2 d2] w (ValP w (two (tm N D) (er E))) := by
  have hu := Try.underlying25
  have hB := Aside0.mk (Boxed.start w n1 d1 n2 d2)
  have HA := Aside0.mk hA
  clear hA
  unfold two tm er
  go_enter Try.func26, Try.ntmps26
  go_wp2_with fail
  generalize hW : World.alloc (World.alloc _ _) _ = W
  have HB := Aside0.mk (show Boxed w W n1 d1 n2 d2 by rw [← hW]; exact hB.out)
  clear hW hB
  refine (valid2_n _ n1 d1 n2 d2 W HB.out.s).mono ?_
  rintro e w2 ⟨rfl, hb2⟩
  rw [h1, h2]
  have HB2 := Aside0.mk (HB.out.step hb2)
  clear hb2 HB
  obtain ⟨a0, a1, _, _⟩ := time_cells HB2.out.a
  obtain ⟨b0, b1, _, _⟩ := time_cells HB2.out.b
  go_wp2_with fail
  refine (HA.out w2).mono ?_
  rintro e w3 ⟨rfl, hb3⟩
  have HB3 := Aside0.mk (HB2.out.step hb3)
  obtain ⟨r0, r1, r2, r3⟩ := time_cells HB3.out.r
  clear hb3 HB2 a0 a1 b0 b1
  unfold two tm er
  go_wp2_with fail
  refine bodyPost_ret (results_ct rfl _ _ (w.heap.size + 1 + 1) 25 #[.int .i64 N, .int .i64 D] (0, 0) _ rfl (blk_two HB3.out.r) Try.underlying25 rfl (by kernel_rfl)) rfl ?_
  exact ⟨rfl, (HB3.out.below.setCell (by simp; omega) _).setCell (by simp; omega) _⟩
set_option maxHeartbeats 4000000 in
set_option maxRecDepth 100000 in
theorem awake_n (w : World) : Calls Try.prog 21 #[] w (ValP w (.bool true)) := by
  have hu := Try.underlying25
  have hA := fun w => AddV_n 1 3 1 6 w (by decide) (by decide) 1 2 0 (fun w => addS_n 1 3 1 6 w (by decide) (by decide) (by decide) (by decide) 1 2 (by decide) (by decide) (by decide))
  have hT := fun w => Ticks_n 1 3 1000 1 w
  rw [show vTicks 1 3 1000 1 = .tuple #[.int .i64 334, .int .i64 0] by kernel_rfl] at hT
  have hR := fun w => Rescale_n 1 3 2 2 w
  rw [show vRescale 1 3 2 2 = .tuple #[.int .i64 1, .int .i64 0] by kernel_rfl] at hR
  unfold two tm er at hA
  unfold tm at hT
  go_enter Try.func21, Try.ntmps21
  go_wp2_with fail
  refine (hA _).mono ?_
  rintro e w2 ⟨rfl, hb2⟩
  go_wp2_with fail
  refine (hT _).mono ?_
  rintro e w3 ⟨rfl, hb3⟩
  go_wp2_with fail
  refine (hR _).mono ?_
  rintro e w4 ⟨rfl, hb4⟩
  have hq := blk_below (blk_below (blk_new w2 (timeObj 1 2)) hb3) hb4
  obtain ⟨q0, q1, q2, q3⟩ := time_cells hq
  have h1 := below_alloc hb2 (timeObj 1 2)
  have HB := Aside0.mk ((h1.trans (hb3.mono h1.size)).trans (hb4.mono (h1.trans (hb3.mono h1.size)).size))
  clear hq hb2 hb3 hb4 h1 hA hT hR
  go_wp2_with fail
  go_ret
  exact ⟨rfl, HB.out⟩
end Go.Proofs.Ytdginjpppgfdaaa.Ee

namespace Go.Proofs.Ytdginjpppgfdaaa.O5
open Go.ChangeShapes Go.WideShapes Go.ChangeAt Go.RowKit Go.Joins Go.Deep
set_option linter.unusedVariables false

theorem array5 {α : Type} {cs : Array α} (h : cs.size = 5) : ∃ c0 c1 c2 c3 c4, cs = #[c0, c1, c2, c3, c4] := by
  obtain ⟨l⟩ := cs
  match l, h with
  | [c0, c1, c2, c3, c4], _ => exact ⟨c0, c1, c2, c3, c4, rfl⟩
theorem open_five {H : Type} {enc : TypeId × Value → H} {P : Program} {w : World} {base : Nat} {spare : Nat → Bool} {held : Bool} {r : Reach} {b0 : Nat} {t : TypeId} {f0 f1 f2 f3 f4 : Field} {v : Value} {d : DataW H} {p : List MemPlace} (hs : P.underlying t = some (.struct #[f0, f1, f2, f3, f4])) (hone : oneCellFields P #[f0, f1, f2, f3, f4] = true) (hC : P.cellsOf t = 5)
    (hv : Value.okWide P w r b0 t v) (h : DataW.Trod enc P w base spare held t v d p) :
    ∃ (v0 v1 v2 v3 v4 : Value) (y0 y1 y2 y3 y4 : DataW H × List MemPlace) (n : Nat), v = .agg #[v0, v1, v2, v3, v4] ∧
      DataW.trod enc P w base spare held n f0.type [v0] = some y0 ∧ DataW.trod enc P w base spare held n f1.type [v1] = some y1 ∧ DataW.trod enc P w base spare held n f2.type [v2] = some y2 ∧ DataW.trod enc P w base spare held n f3.type [v3] = some y3 ∧ DataW.trod enc P w base spare held n f4.type [v4] = some y4 := by
  obtain ⟨cs, rfl, hsz⟩ := okWide_struct hs hv
  obtain ⟨c0, c1, c2, c3, c4, rfl⟩ := array5 (hsz.trans hC)
  obtain ⟨fuel, hf⟩ := h
  obtain ⟨xs, n, _, hx, hl, hlen, hg⟩ := DataW.trod_struct hs hf
  match xs, hlen with
  | [y0, y1, y2, y3, y4], _ =>
    obtain ⟨o0, k0⟩ := hone_of hone 0 f0 rfl
    obtain ⟨o1, k1⟩ := hone_of hone 1 f1 rfl
    obtain ⟨o2, k2⟩ := hone_of hone 2 f2 rfl
    obtain ⟨o3, k3⟩ := hone_of hone 3 f3 rfl
    obtain ⟨o4, k4⟩ := hone_of hone 4 f4 rfl
    exact ⟨c0, c1, c2, c3, c4, y0, y1, y2, y3, y4, n, rfl, by simpa [Value.cells, o0, k0] using hg 0 f0 rfl, by simpa [Value.cells, o1, k1] using hg 1 f1 rfl, by simpa [Value.cells, o2, k2] using hg 2 f2 rfl, by simpa [Value.cells, o3, k3] using hg 3 f3 rfl, by simpa [Value.cells, o4, k4] using hg 4 f4 rfl⟩
theorem one_int {H : Type} {enc : TypeId × Value → H} {w : World} {base : Nat} {spare : Nat → Bool} {held : Bool} {n : Nat} {v : Value} {y : DataW H × List MemPlace} (h : DataW.trod enc Try.prog w base spare held n 3 [v] = some y) : ∃ z, v = .int .i64 z ∧ (Lit.int .i64 z).wf = true := by
  obtain ⟨z, hz, _, hw⟩ := DataW.trod_int Try.underlying3 h
  simp only [List.cons.injEq, and_true] at hz
  exact ⟨z, hz, hw⟩
set_option maxRecDepth 100000 in
theorem open_time {H : Type} {enc : TypeId × Value → H} {w : World} {base : Nat} {spare : Nat → Bool} {held : Bool} {r : Reach} {b0 : Nat} {v : Value} {d : DataW H} {p : List MemPlace} (hv : Value.okWide Try.prog w r b0 25 v) (h : DataW.Trod enc Try.prog w base spare held 25 v d p) :
    ∃ n m : Int, v = .agg #[.int .i64 n, .int .i64 m] ∧ (Lit.int .i64 n).wf = true ∧ (Lit.int .i64 m).wf = true := by
  obtain ⟨v0, v1, y0, y1, k, rfl, _, _, h0, h1⟩ := open_agg2 Try.underlying25 (by kernel_rfl) (by kernel_rfl) hv h
  obtain ⟨n, rfl, hn⟩ := one_int h0
  obtain ⟨m, rfl, hm⟩ := one_int h1
  exact ⟨n, m, rfl, hn, hm⟩
set_option maxRecDepth 100000 in
theorem open_ways {H : Type} {enc : TypeId × Value → H} {w : World} {base : Nat} {spare : Nat → Bool} {held : Bool} {r : Reach} {b0 : Nat} {v : Value} {d : DataW H} {p : List MemPlace} (hv : Value.okWide Try.prog w r b0 23 v) (h : DataW.Trod enc Try.prog w base spare held 23 v d p) :
    ∃ t f k m b : Int, v = .agg #[.int .i64 t, .int .i64 f, .int .i64 k, .int .i64 m, .int .i64 b] ∧ (Lit.int .i64 t).wf = true ∧ (Lit.int .i64 f).wf = true ∧ (Lit.int .i64 k).wf = true ∧ (Lit.int .i64 m).wf = true ∧ (Lit.int .i64 b).wf = true := by
  obtain ⟨v0, v1, v2, v3, v4, y0, y1, y2, y3, y4, k, rfl, h0, h1, h2, h3, h4⟩ := open_five Try.underlying23 (by kernel_rfl) (by kernel_rfl) hv h
  obtain ⟨t, rfl, ht⟩ := one_int h0
  obtain ⟨f, rfl, hf⟩ := one_int h1
  obtain ⟨s, rfl, hs⟩ := one_int h2
  obtain ⟨m, rfl, hm⟩ := one_int h3
  obtain ⟨b, rfl, hb⟩ := one_int h4
  exact ⟨t, f, s, m, b, rfl, ht, hf, hs, hm, hb⟩
theorem laidOut : laidOutB Try.prog = true := by kernel_rfl
theorem own : ownKnob Try.prog.godebug = none := by kernel_rfl
end Go.Proofs.Ytdginjpppgfdaaa.O5

namespace Go.Proofs.Ytdginjpppgfdaaa.La
open Go.RowKit Go Go.Proofs.Ytdginjpppgfdaaa.Ea Go.Proofs.Ytdginjpppgfdaaa.Eb Go.Proofs.Ytdginjpppgfdaaa.Ec
set_option linter.unusedVariables false
set_option linter.unusedSimpArgs false

theorem low_spec (n d : Int) (hd : 1 ≤ d) : ∃ g : Int, 1 ≤ g ∧ n = lowN n d * g ∧ d = lowD n d * g ∧ 1 ≤ lowD n d := by
  have hg : 1 ≤ ((Int.gcd n d : Nat) : Int) := by
    have := Int.gcd_pos_of_ne_zero_right n (show d ≠ 0 by omega)
    omega
  have e2 : d = lowD n d * (Int.gcd n d : Int) := (Int.ediv_mul_cancel (Int.gcd_dvd_right n d)).symm
  refine ⟨(Int.gcd n d : Int), hg, (Int.ediv_mul_cancel (Int.gcd_dvd_left n d)).symm, e2, ?_⟩
  refine Int.le_of_not_gt fun h0 => ?_
  have h : lowD n d ≤ 0 := by omega
  have : lowD n d * (Int.gcd n d : Int) ≤ 0 * (Int.gcd n d : Int) := Int.mul_le_mul_of_nonneg_right h (by omega)
  omega
theorem low_valid {n d : Int} (hd : 1 ≤ d) (hd2 : d ≤ 1152921504606846976) (h0 : -1152921504606846976 ≤ n) (h1 : n ≤ 1152921504606846976) : valid (lowN n d) (lowD n d) = true := by
  obtain ⟨g, hg, e1, e2, e3⟩ := low_spec n d hd
  have b1 : lowD n d * 1 ≤ lowD n d * g := Int.mul_le_mul_of_nonneg_left hg (by omega)
  have b2 : -1152921504606846976 ≤ lowN n d ∧ lowN n d ≤ 1152921504606846976 := by
    generalize lowN n d = x at *
    rcases Int.lt_or_le x 0 with h | h
    · have : (-x) * 1 ≤ (-x) * g := Int.mul_le_mul_of_nonneg_left hg (by omega)
      simp only [Int.neg_mul] at this
      omega
    · have : x * 1 ≤ x * g := Int.mul_le_mul_of_nonneg_left hg (by omega)
      omega
  unfold valid
  simp
  omega
theorem rnd_exact (h m d : Int) (hd : 0 < d) : rnd h (m * d) d = m := by
  unfold rnd
  split
  · rw [show m * d + d - 1 = (d - 1) + m * d by omega, Int.add_mul_ediv_right _ _ (by omega), Int.ediv_eq_zero_of_lt (by omega) (by omega)]
    omega
  · split
    · rw [show m * d * 2 + d = d + m * (d * 2) by rw [← Int.mul_assoc]; omega, Int.add_mul_ediv_right _ _ (by omega), Int.ediv_eq_zero_of_lt (by omega) (by omega)]
      omega
    · exact Int.mul_ediv_cancel _ (by omega)
/-- Ticks at a scale, told at a multiple of it. -/
theorem vTicks_whole (t f s h m : Int) (hf : 1 ≤ f) (hv : valid (lowN t f) (lowD t f) = true) (hs : isScale s = true) (hh : isHow h = true) (hm : t * s = m * f) : vTicks (lowN t f) (lowD t f) s h = if big m then two (.int .i64 0) (er 2) else two (.int .i64 m) (er 0) := by
  obtain ⟨g, hg, e1, e2, e3⟩ := low_spec t f hf
  have e4 : lowN t f * s = m * lowD t f := by
    have : (lowN t f * s - m * lowD t f) * g = 0 := by
      rw [Int.sub_mul, Int.mul_assoc, Int.mul_comm s g, ← Int.mul_assoc, ← e1, Int.mul_assoc, ← e2]
      omega
    rcases Int.mul_eq_zero.1 this with h | h <;> omega
  unfold vTicks
  rw [hv, hs, hh, e4, rnd_exact h m _ (by omega)]
  rfl
theorem scales (t f k h b n : Int) (hf : 1 ≤ f) (hf2 : f ≤ 1000000) (hk : 1 ≤ k) (hk2 : k ≤ 1000000) (hh : isHow h = true) (hb : isHow b = true) (e : vRescale t f (f * k) h = two (.int .i64 n) (er 0)) : vRescale n (f * k) f b = two (.int .i64 t) (er 0) := by
  have hF : isScale f = true := by unfold isScale; simp; omega
  have hfk : 1 ≤ f * k := by have := Int.mul_le_mul_of_nonneg_right hf (show 0 ≤ k by omega); omega
  unfold vRescale at e ⊢
  rw [hF] at e
  cases ht : isTicks t with
  | false => rw [ht] at e; simp [two, er] at e
  | true =>
    rw [ht] at e
    have ht2 : -1099511627776 ≤ t ∧ t ≤ 1099511627776 := by unfold isTicks at ht; simpa using ht
    have hv := low_valid (n := t) hf (by omega) (by omega) (by omega)
    cases hs : isScale (f * k) with
    | false =>
      simp only [Bool.and_self, if_true] at e
      unfold vTicks at e
      rw [hv, hs] at e
      simp [two, er] at e
    | true =>
      simp only [Bool.and_self, if_true] at e
      rw [vTicks_whole t f (f * k) h (t * k) hf hv hs hh (by grind)] at e
      cases hB : big (t * k) with
      | true => rw [hB] at e; simp [two, er] at e
      | false =>
        rw [hB] at e
        simp only [two, er, Bool.false_eq_true, if_false] at e
        have hn : n = t * k := by
          injection e with e
          have := congrArg (fun a => a[0]?) e
          simp at this
          exact this.symm
        have hnb : ¬ 1099511627776 < (n.natAbs : Int) := by rw [hn]; unfold big at hB; simpa using hB
        have hnt : isTicks n = true := by unfold isTicks; simp; omega
        have hfk2 : f * k ≤ 1000000 := by unfold isScale at hs; simp at hs; exact hs.2
        have hv2 := low_valid (n := n) hfk (by omega) (by omega) (by omega)
        rw [hnt]
        simp only [Bool.and_self, if_true]
        rw [vTicks_whole n (f * k) f b t hfk hv2 hF hb (by rw [hn]; grind)]
        have : big t = false := by unfold big; simp; omega
        rw [this]
        rfl
end Go.Proofs.Ytdginjpppgfdaaa.La

namespace Go.Proofs.Ytdginjpppgfdaaa.Dg
open Go.RowKit Go Go.Proofs.YtdginjpppgfdaaaW.PrintWords Go.Proofs.YtdginjpppgfdaaaW.PrintLast Go.Proofs.YtdginjpppgfdaaaW.PrintMore Go.Proofs.Ytdginjpppgfdaaa.Nd Go.Proofs.Ytdginjpppgfdaaa.Nc
set_option linter.unusedVariables false

/-- What lies at a block: room for a number, or a number. -/
def At (w : World) (g : Nat) : Option (Int × Nat) → Prop
  | none => Room w g 0
  | some x => IsN w g 0 x.1 x.2
theorem At.below {w w' : World} {g : Nat} {k : Option (Int × Nat)} (h : At w g k) (hb : Below w.heap.size w w') : At w' g k := by
  cases k with
  | none => exact Room.below h hb
  | some x => exact IsN.below h hb
theorem At.lt {w : World} {g : Nat} {k : Option (Int × Nat)} (h : At w g k) : g < w.heap.size := by
  cases k with
  | none => exact Room.lt h
  | some x => exact IsN.lt h
/-- What has been made since W0. -/
structure Dag (W0 w : World) (l : List (Nat × Option (Int × Nat))) : Prop where
  b : Below W0.heap.size W0 w
  at_ : ∀ x ∈ l, At w x.1 x.2
  new : ∀ x ∈ l, W0.heap.size ≤ x.1
  ne : l.Pairwise (fun x y => x.1 ≠ y.1)
theorem Dag.start (W0 : World) : Dag W0 W0.drew [] := ⟨below_drew' (Below.refl _ _), by simp, by simp, List.Pairwise.nil⟩
theorem Dag.start' (W0 : World) : Dag W0 W0 [] := ⟨Below.refl _ _, by simp, by simp, List.Pairwise.nil⟩
theorem Dag.add {W0 w w' : World} (l1 l2 : List (Nat × Option (Int × Nat))) {g : Nat} {k : Option (Int × Nat)} (h : Dag W0 w (l1 ++ l2)) (hg : w.heap.size ≤ g) (hb : Below w.heap.size w w') (hk : At w' g k) : Dag W0 w' (l1 ++ (g, k) :: l2) := by
  have hs := h.b.size
  refine ⟨h.b.trans (hb.mono hs), ?_, ?_, ?_⟩
  · intro x hx
    simp only [List.mem_append, List.mem_cons] at hx
    rcases hx with hx | rfl | hx
    · exact (h.at_ x (by simp [hx])).below hb
    · exact hk
    · exact (h.at_ x (by simp [hx])).below hb
  · intro x hx
    simp only [List.mem_append, List.mem_cons] at hx
    rcases hx with hx | rfl | hx
    · exact h.new x (by simp [hx])
    · exact Nat.le_trans hs hg
    · exact h.new x (by simp [hx])
  · have hp := h.ne
    rw [List.pairwise_append] at hp ⊢
    obtain ⟨p1, p2, p3⟩ := hp
    refine ⟨p1, ?_, ?_⟩
    · rw [List.pairwise_cons]
      exact ⟨fun y hy => by have := (h.at_ y (by simp [hy])).lt; show g ≠ y.1; omega, p2⟩
    · intro x hx y hy
      simp only [List.mem_cons] at hy
      rcases hy with rfl | hy
      · have := (h.at_ x (by simp [hx])).lt
        show x.1 ≠ g
        omega
      · exact p3 x hx y hy
theorem Dag.room {W0 w : World} {l : List (Nat × Option (Int × Nat))} (h : Dag W0 w l) {g : Nat} (hm : (g, none) ∈ l) : Room w g 0 := h.at_ _ hm
theorem Dag.num {W0 w : World} {l : List (Nat × Option (Int × Nat))} (h : Dag W0 w l) {g : Nat} {z : Int} {n : Nat} (hm : (g, some (z, n)) ∈ l) : IsN w g 0 z n := h.at_ _ hm
end Go.Proofs.Ytdginjpppgfdaaa.Dg

namespace Go.Proofs.Ytdginjpppgfdaaa.Eg
open Go.RowKit Go Go.Proofs.YtdginjpppgfdaaaW.PrintWords Go.Proofs.YtdginjpppgfdaaaW.PrintLast Go.Proofs.YtdginjpppgfdaaaW.PrintMore Go.Proofs.Ytdginjpppgfdaaa.Ml Go.Proofs.Ytdginjpppgfdaaa.Mn Go.Proofs.Ytdginjpppgfdaaa.Nd Go.Proofs.Ytdginjpppgfdaaa.P Go.Proofs.Ytdginjpppgfdaaa.Nc Go.Proofs.Ytdginjpppgfdaaa.Nb Go.Proofs.Ytdginjpppgfdaaa.Qa Go.Proofs.Ytdginjpppgfdaaa.Qb Go.Proofs.Ytdginjpppgfdaaa.Ea Go.Proofs.Ytdginjpppgfdaaa.Eb Go.Proofs.Ytdginjpppgfdaaa.Ec Go.Proofs.Ytdginjpppgfdaaa.Dg
set_option linter.unusedVariables false
set_option linter.unusedSimpArgs false

def vWhole (n d s : Int) : Value := if valid n d then (if isScale s then (if (n * s).tmod d = 0 then (if big ((n * s).tdiv d) then two (.int .i64 0) (er 2) else two (.int .i64 ((n * s).tdiv d)) (er 0)) else two (.int .i64 0) (er 20)) else two (.int .i64 0) (er 1)) else two (.int .i64 0) (er 4)
theorem vWhole_form (n d s : Int) : ∃ q e, vWhole n d s = .tuple #[.int .i64 q, .int .i64 e] := by
  unfold vWhole two er
  repeat' split
  all_goals exact ⟨_, _, rfl⟩
set_option maxHeartbeats 8000000 in
set_option maxRecDepth 100000 in
theorem Whole_n (n d s : Int) (w : World) : Calls Try.prog 41 #[tm n d, .int .i64 s] w (ValP w (vWhole n d s)) := by
  have hu := Try.underlying25
  have hb1 : Below w.heap.size w (w.alloc (.cells #[.int .i64 n, .int .i64 d] 25)) := below_alloc (Below.refl _ w) _
  have hbk := blk_new w (.cells #[.int .i64 n, .int .i64 d] 25)
  have s1 := hb1.size
  cases hv : valid n d with
  | false =>
    rw [show vWhole n d s = .tuple #[.int .i64 0, .int .i64 4] by unfold vWhole; rw [hv]; rfl]
    unfold tm
    go_enter Try.func41, Try.ntmps41
    go_wp2_with fail
    refine (Valid_n n d _).mono ?_
    rintro e w2 ⟨rfl, hb2⟩
    rw [hv]
    go_wp2_with fail
    go_ret2
    exact ⟨rfl, hb1.trans (hb2.mono s1)⟩
  | true =>
    cases hs : isScale s with
    | false =>
      rw [show vWhole n d s = .tuple #[.int .i64 0, .int .i64 1] by unfold vWhole; rw [hv, hs]; rfl]
      unfold tm
      go_enter Try.func41, Try.ntmps41
      go_wp2_with fail
      refine (Valid_n n d _).mono ?_
      rintro e w2 ⟨rfl, hb2⟩
      rw [hv]
      go_wp2_with fail
      refine (isScale_n s _).mono ?_
      rintro e w3 ⟨rfl, rfl⟩
      rw [hs]
      go_wp2_with fail
      go_ret2
      exact ⟨rfl, hb1.trans (hb2.mono s1)⟩
    | true =>
      have hv2 : ((1 ≤ d ∧ d ≤ 1152921504606846976) ∧ -1152921504606846976 ≤ n) ∧ n ≤ 1152921504606846976 := by unfold valid at hv; simpa using hv
      obtain ⟨⟨⟨hd1, hd2⟩, hn1⟩, hn2⟩ := hv2
      have hs2 : 1 ≤ s ∧ s ≤ 1000000 := by unfold isScale at hs; simpa using hs
      have hV : vWhole n d s = if (n * s).tmod d = 0 then (if big ((n * s).tdiv d) then two (.int .i64 0) (er 2) else two (.int .i64 ((n * s).tdiv d)) (er 0)) else two (.int .i64 0) (er 20) := by unfold vWhole; rw [hv, hs]; rfl
      generalize vWhole n d s = V at hV ⊢
      generalize hqq : (n * s).tdiv d = q at hV
      generalize hrr : (n * s).tmod d = r at hV
      have HQ := Aside0.mk (And.intro hqq (And.intro hrr hV))
      clear hqq hrr hV
      unfold tm
      go_enter Try.func41, Try.ntmps41
      go_wp2_with fail
      refine (Valid_n n d _).mono ?_
      rintro e w2 ⟨rfl, hb2⟩
      rw [hv]
      go_wp2_with fail
      refine (isScale_n s _).mono ?_
      rintro e w3 ⟨rfl, rfl⟩
      rw [hs]
      have hbk2 := blk_below hbk hb2
      have HB2 := Aside0.mk (hb1.trans (hb2.mono s1))
      clear hb2 hbk
      have hc0 : w2.cell? ⟨w.heap.size, 0, none⟩ = some (.int .i64 n) := (blk_cell hbk2 0).trans rfl
      have hc1 : w2.cell? ⟨w.heap.size, 1, none⟩ = some (.int .i64 d) := (blk_cell hbk2 1).trans rfl
      go_wp2_with fail
      refine start_ (n := 15) (S := fun w' => w'.cell? ⟨w.heap.size, 0, none⟩ = some (.int .i64 n) ∧ w'.cell? ⟨w.heap.size, 1, none⟩ = some (.int .i64 d)) (ds := []) (bs 15 0) (by kernel_rfl) rfl rfl ⟨hc0, hc1⟩ (fun hHeld => ?_)
      refine pure_ (i := 1) (N := some 16) (v := ?_) (a' := ?_) (bs 15 2) rfl rfl (by kernel_rfl) (fun _ _ _ h => h) (Or.inl ⟨by rfl, ?_⟩) ?_ ?_; rotate_left; (· intro w'; go_simp; first | done | with_reducible rfl); rotate_left; (· simp only [Act.put, List.setIfInBounds_toArray, List.set_cons_zero, List.set_cons_succ, i64_w, i32_w]; rfl)
      refine pure_ (i := 3) (N := some 18) (v := ?_) (a' := ?_) (bs 15 10) rfl rfl (by kernel_rfl) (fun _ _ _ h => h) (Or.inl ⟨by rfl, ?_⟩) ?_ ?_; rotate_left; (· intro w'; go_simp; first | done | with_reducible rfl); rotate_left; (· simp only [Act.put, List.setIfInBounds_toArray, List.set_cons_zero, List.set_cons_succ, i64_w, i32_w]; rfl)
      refine pure_ (i := 5) (N := some 20) (v := ?_) (a' := ?_) (bs 15 42) rfl rfl (by kernel_rfl) (fun _ _ _ h => h) (Or.inl ⟨by rfl, ?_⟩) ?_ ?_; rotate_left; (· intro w'; go_simp; first | done | with_reducible rfl); rotate_left; (· simp only [Act.put, List.setIfInBounds_toArray, List.set_cons_zero, List.set_cons_succ, i64_w, i32_w]; rfl)
      refine take_ (i := 2) (N := some 17) (v := ?_) (a' := ?_) (bs 15 46) rfl rfl (by kernel_rfl) (fun _ _ _ h => h) (Or.inl ⟨by rfl, ?_⟩) hHeld ?_ ?_; rotate_left; (· rintro w' ⟨s0, s1⟩; go_simp; first | done | with_reducible rfl); rotate_left; (· simp only [Act.put, List.setIfInBounds_toArray, List.set_cons_zero, List.set_cons_succ, i64_w, i32_w]; rfl)
      refine take_ (i := 6) (N := some 21) (v := ?_) (a' := ?_) (bs 15 110) rfl rfl (by kernel_rfl) (fun _ _ _ h => h) (Or.inl ⟨by rfl, ?_⟩) hHeld ?_ ?_; rotate_left; (· rintro w' ⟨s0, s1⟩; go_simp; first | done | with_reducible rfl); rotate_left; (· simp only [Act.put, List.setIfInBounds_toArray, List.set_cons_zero, List.set_cons_succ, i64_w, i32_w]; rfl)
      refine join_ (σ := Nat × Nat × Nat × Nat) 6 (bs 15 511) (fun (⟨g0, g4, g7, g8⟩) => [(15, .pointer (some ⟨g0, 0, none⟩)), (19, .pointer (some ⟨g4, 0, none⟩)), (22, .pointer (some ⟨g7, 0, none⟩)), (23, .pointer (some ⟨g8, 0, none⟩))]) (fun (⟨g0, g4, g7, g8⟩) w' => Dag w2 w' [(g0, none), (g4, some (n * s, 4)), (g7, some (d, 2)), (g8, none)]) ?_ (fun hq_0_4_7_8 => ?_)
      rotate_left
      ·
        refine join_ (σ := Nat × Nat × Nat × Nat) 7 (bs 15 383) (fun (⟨g0, g4, _, g8⟩) => [(15, .pointer (some ⟨g0, 0, none⟩)), (19, .pointer (some ⟨g4, 0, none⟩)), (23, .pointer (some ⟨g8, 0, none⟩))]) (fun (⟨g0, g4, _, g8⟩) w' => Dag w2 w' [(g0, none), (g4, some (n * s, 4)), (g8, none)]) ?_ (fun hq_0_4_8 => ?_)
        · rintro ⟨g0, g4, g7, g8⟩ w' hD
          refine norm_ (a' := ?_) ?_ ?_; rotate_left; (· simp only [putAll, Act.put, List.setIfInBounds_toArray, List.set_cons_zero, List.set_cons_succ, i64_w, i32_w]; rfl)
          refine one_ (i := 7) (N := some 22) (bs 15 511) rfl rfl (by kernel_rfl) (by decide) (fun K hK => ?_)
          ·
            refine goes_ Try.func69 (by kernel_rfl) rfl #[.int .i64 d] (by rfl) rfl rfl (by simp only [List.map_toArray, List.map_cons, List.map_nil]; rfl) ?_
            with_reducible refine (newInt_n d w' (by omega) (by omega)).mono ?_
            rintro e w9 ⟨g7, hg9, rfl, hb9, hN9⟩
            refine ⟨_, rfl, ?_⟩
            have hE := Dag.add [(g0, none), (g4, some (n * s, 4))] [(g8, none)] (k := some (d, 2)) hD hg9 hb9 hN9
            refine hK.out _ _ ⟨pw_cell_below (hE).b hc0, pw_cell_below (hE).b hc1⟩ (fun hHeld => ?_)
            clear hK K
            refine norm_ ?_ (hq_0_4_7_8 ⟨g0, g4, g7, g8⟩ _ hE); (· simp only [putAll, Act.put, List.setIfInBounds_toArray, List.set_cons_zero, List.set_cons_succ, i64_w, i32_w])
        refine join_ (σ := Nat × Nat × Nat × Nat) 7 (bs 15 510) (fun (⟨_, g4, g7, g8⟩) => [(19, .pointer (some ⟨g4, 0, none⟩)), (22, .pointer (some ⟨g7, 0, none⟩)), (23, .pointer (some ⟨g8, 0, none⟩))]) (fun (⟨_, g4, g7, g8⟩) w' => Dag w2 w' [(g4, some (n * s, 4)), (g7, some (d, 2)), (g8, none)]) ?_ (fun hq_4_7_8 => ?_)
        · rintro ⟨g0, g4, g7, g8⟩ w' hD
          refine norm_ (a' := ?_) ?_ ?_; rotate_left; (· simp only [putAll, Act.put, List.setIfInBounds_toArray, List.set_cons_zero, List.set_cons_succ, i64_w, i32_w]; rfl)
          refine one_ (i := 0) (N := some 15) (bs 15 511) rfl rfl (by kernel_rfl) (by decide) (fun K hK => ?_)
          ·
            refine value_ (v := .pointer (some ⟨w'.heap.size, 0, none⟩)) (w1 := w'.alloc (.cells #[.bool false, .slice none 0 0] 80)) (by rfl) rfl ?_ ?_
            · go_simp
            have hE := Dag.add [] [(g4, some (n * s, 4)), (g7, some (d, 2)), (g8, none)] (w' := w'.alloc (.cells #[.bool false, .slice none 0 0] 80)) (k := none) hD (Nat.le_refl _) (below_alloc (Below.refl _ _) _) (room_new _)
            refine hK.out _ _ ⟨pw_cell_below (hE).b hc0, pw_cell_below (hE).b hc1⟩ (fun hHeld => ?_)
            clear hK K
            refine norm_ ?_ (hq_0_4_7_8 ⟨w'.heap.size, g4, g7, g8⟩ _ hE); (· simp only [putAll, Act.put, List.setIfInBounds_toArray, List.set_cons_zero, List.set_cons_succ, i64_w, i32_w])
        refine join_ (σ := Nat × Nat × Nat × Nat) 7 (bs 15 255) (fun (⟨g0, g4, g7, _⟩) => [(15, .pointer (some ⟨g0, 0, none⟩)), (19, .pointer (some ⟨g4, 0, none⟩)), (22, .pointer (some ⟨g7, 0, none⟩))]) (fun (⟨g0, g4, g7, _⟩) w' => Dag w2 w' [(g0, none), (g4, some (n * s, 4)), (g7, some (d, 2))]) ?_ (fun hq_0_4_7 => ?_)
        · rintro ⟨g0, g4, g7, g8⟩ w' hD
          refine norm_ (a' := ?_) ?_ ?_; rotate_left; (· simp only [putAll, Act.put, List.setIfInBounds_toArray, List.set_cons_zero, List.set_cons_succ, i64_w, i32_w]; rfl)
          refine one_ (i := 8) (N := some 23) (bs 15 511) rfl rfl (by kernel_rfl) (by decide) (fun K hK => ?_)
          ·
            refine value_ (v := .pointer (some ⟨w'.heap.size, 0, none⟩)) (w1 := w'.alloc (.cells #[.bool false, .slice none 0 0] 80)) (by rfl) rfl ?_ ?_
            · go_simp
            have hE := Dag.add [(g0, none), (g4, some (n * s, 4)), (g7, some (d, 2))] [] (w' := w'.alloc (.cells #[.bool false, .slice none 0 0] 80)) (k := none) hD (Nat.le_refl _) (below_alloc (Below.refl _ _) _) (room_new _)
            refine hK.out _ _ ⟨pw_cell_below (hE).b hc0, pw_cell_below (hE).b hc1⟩ (fun hHeld => ?_)
            clear hK K
            refine norm_ ?_ (hq_0_4_7_8 ⟨g0, g4, g7, w'.heap.size⟩ _ hE); (· simp only [putAll, Act.put, List.setIfInBounds_toArray, List.set_cons_zero, List.set_cons_succ, i64_w, i32_w])
        refine join_ (σ := Nat × Nat × Nat × Nat) 8 (bs 15 367) (fun (⟨g0, _, _, g8⟩) => [(15, .pointer (some ⟨g0, 0, none⟩)), (23, .pointer (some ⟨g8, 0, none⟩))]) (fun (⟨g0, _, _, g8⟩) w' => Dag w2 w' [(g0, none), (g8, none)]) ?_ (fun hq_0_8 => ?_)
        · rintro ⟨g0, g4, g7, g8⟩ w' hD
          refine norm_ (a' := ?_) ?_ ?_; rotate_left; (· simp only [putAll, Act.put, List.setIfInBounds_toArray, List.set_cons_zero, List.set_cons_succ, i64_w, i32_w]; rfl)
          refine one_ (i := 4) (N := some 19) (bs 15 383) rfl rfl (by kernel_rfl) (by decide) (fun K hK => ?_)
          ·
            refine goes_ Try.func60 (by kernel_rfl) rfl #[.int .i64 n, .int .i64 s] (by rfl) rfl rfl (by simp only [List.map_toArray, List.map_cons, List.map_nil]; rfl) ?_
            with_reducible refine (product_n n s w' (by omega) (by omega) (by omega) (by omega)).mono ?_
            rintro e w9 ⟨g4, hg9, rfl, hb9, hN9⟩
            refine ⟨_, rfl, ?_⟩
            have hE := Dag.add [(g0, none)] [(g8, none)] (k := some (n * s, 4)) hD hg9 hb9 hN9
            refine hK.out _ _ ⟨pw_cell_below (hE).b hc0, pw_cell_below (hE).b hc1⟩ (fun hHeld => ?_)
            clear hK K
            refine norm_ ?_ (hq_0_4_8 ⟨g0, g4, 0, g8⟩ _ hE); (· simp only [putAll, Act.put, List.setIfInBounds_toArray, List.set_cons_zero, List.set_cons_succ, i64_w, i32_w])
        refine join_ (σ := Nat × Nat × Nat × Nat) 8 (bs 15 382) (fun (⟨_, g4, _, g8⟩) => [(19, .pointer (some ⟨g4, 0, none⟩)), (23, .pointer (some ⟨g8, 0, none⟩))]) (fun (⟨_, g4, _, g8⟩) w' => Dag w2 w' [(g4, some (n * s, 4)), (g8, none)]) ?_ (fun hq_4_8 => ?_)
        · rintro ⟨g0, g4, g7, g8⟩ w' hD
          refine norm_ (a' := ?_) ?_ ?_; rotate_left; (· simp only [putAll, Act.put, List.setIfInBounds_toArray, List.set_cons_zero, List.set_cons_succ, i64_w, i32_w]; rfl)
          refine two_ (i := 0) (j := 7) (Ni := some 15) (Nj := some 22) (bs 15 383) (bs 15 510) rfl rfl rfl rfl (by kernel_rfl) (by decide) (by decide) (fun K hK => ?_) (fun K hK => ?_)
          ·
            refine value_ (v := .pointer (some ⟨w'.heap.size, 0, none⟩)) (w1 := w'.alloc (.cells #[.bool false, .slice none 0 0] 80)) (by rfl) rfl ?_ ?_
            · go_simp
            have hE := Dag.add [] [(g4, some (n * s, 4)), (g8, none)] (w' := w'.alloc (.cells #[.bool false, .slice none 0 0] 80)) (k := none) hD (Nat.le_refl _) (below_alloc (Below.refl _ _) _) (room_new _)
            refine hK.out _ _ ⟨pw_cell_below (hE).b hc0, pw_cell_below (hE).b hc1⟩ (fun hHeld => ?_)
            clear hK K
            refine norm_ ?_ (hq_0_4_8 ⟨w'.heap.size, g4, 0, g8⟩ _ hE); (· simp only [putAll, Act.put, List.setIfInBounds_toArray, List.set_cons_zero, List.set_cons_succ, i64_w, i32_w])
          ·
            refine goes_ Try.func69 (by kernel_rfl) rfl #[.int .i64 d] (by rfl) rfl rfl (by simp only [List.map_toArray, List.map_cons, List.map_nil]; rfl) ?_
            with_reducible refine (newInt_n d w' (by omega) (by omega)).mono ?_
            rintro e w9 ⟨g7, hg9, rfl, hb9, hN9⟩
            refine ⟨_, rfl, ?_⟩
            have hE := Dag.add [(g4, some (n * s, 4))] [(g8, none)] (k := some (d, 2)) hD hg9 hb9 hN9
            refine hK.out _ _ ⟨pw_cell_below (hE).b hc0, pw_cell_below (hE).b hc1⟩ (fun hHeld => ?_)
            clear hK K
            refine norm_ ?_ (hq_4_7_8 ⟨0, g4, g7, g8⟩ _ hE); (· simp only [putAll, Act.put, List.setIfInBounds_toArray, List.set_cons_zero, List.set_cons_succ, i64_w, i32_w])
        refine join_ (σ := Nat × Nat × Nat × Nat) 8 (bs 15 127) (fun (⟨g0, g4, _, _⟩) => [(15, .pointer (some ⟨g0, 0, none⟩)), (19, .pointer (some ⟨g4, 0, none⟩))]) (fun (⟨g0, g4, _, _⟩) w' => Dag w2 w' [(g0, none), (g4, some (n * s, 4))]) ?_ (fun hq_0_4 => ?_)
        · rintro ⟨g0, g4, g7, g8⟩ w' hD
          refine norm_ (a' := ?_) ?_ ?_; rotate_left; (· simp only [putAll, Act.put, List.setIfInBounds_toArray, List.set_cons_zero, List.set_cons_succ, i64_w, i32_w]; rfl)
          refine two_ (i := 7) (j := 8) (Ni := some 22) (Nj := some 23) (bs 15 255) (bs 15 383) rfl rfl rfl rfl (by kernel_rfl) (by decide) (by decide) (fun K hK => ?_) (fun K hK => ?_)
          ·
            refine goes_ Try.func69 (by kernel_rfl) rfl #[.int .i64 d] (by rfl) rfl rfl (by simp only [List.map_toArray, List.map_cons, List.map_nil]; rfl) ?_
            with_reducible refine (newInt_n d w' (by omega) (by omega)).mono ?_
            rintro e w9 ⟨g7, hg9, rfl, hb9, hN9⟩
            refine ⟨_, rfl, ?_⟩
            have hE := Dag.add [(g0, none), (g4, some (n * s, 4))] [] (k := some (d, 2)) hD hg9 hb9 hN9
            refine hK.out _ _ ⟨pw_cell_below (hE).b hc0, pw_cell_below (hE).b hc1⟩ (fun hHeld => ?_)
            clear hK K
            refine norm_ ?_ (hq_0_4_7 ⟨g0, g4, g7, 0⟩ _ hE); (· simp only [putAll, Act.put, List.setIfInBounds_toArray, List.set_cons_zero, List.set_cons_succ, i64_w, i32_w])
          ·
            refine value_ (v := .pointer (some ⟨w'.heap.size, 0, none⟩)) (w1 := w'.alloc (.cells #[.bool false, .slice none 0 0] 80)) (by rfl) rfl ?_ ?_
            · go_simp
            have hE := Dag.add [(g0, none), (g4, some (n * s, 4))] [] (w' := w'.alloc (.cells #[.bool false, .slice none 0 0] 80)) (k := none) hD (Nat.le_refl _) (below_alloc (Below.refl _ _) _) (room_new _)
            refine hK.out _ _ ⟨pw_cell_below (hE).b hc0, pw_cell_below (hE).b hc1⟩ (fun hHeld => ?_)
            clear hK K
            refine norm_ ?_ (hq_0_4_8 ⟨g0, g4, 0, w'.heap.size⟩ _ hE); (· simp only [putAll, Act.put, List.setIfInBounds_toArray, List.set_cons_zero, List.set_cons_succ, i64_w, i32_w])
        refine join_ (σ := Nat × Nat × Nat × Nat) 8 (bs 15 254) (fun (⟨_, g4, g7, _⟩) => [(19, .pointer (some ⟨g4, 0, none⟩)), (22, .pointer (some ⟨g7, 0, none⟩))]) (fun (⟨_, g4, g7, _⟩) w' => Dag w2 w' [(g4, some (n * s, 4)), (g7, some (d, 2))]) ?_ (fun hq_4_7 => ?_)
        · rintro ⟨g0, g4, g7, g8⟩ w' hD
          refine norm_ (a' := ?_) ?_ ?_; rotate_left; (· simp only [putAll, Act.put, List.setIfInBounds_toArray, List.set_cons_zero, List.set_cons_succ, i64_w, i32_w]; rfl)
          refine two_ (i := 0) (j := 8) (Ni := some 15) (Nj := some 23) (bs 15 255) (bs 15 510) rfl rfl rfl rfl (by kernel_rfl) (by decide) (by decide) (fun K hK => ?_) (fun K hK => ?_)
          ·
            refine value_ (v := .pointer (some ⟨w'.heap.size, 0, none⟩)) (w1 := w'.alloc (.cells #[.bool false, .slice none 0 0] 80)) (by rfl) rfl ?_ ?_
            · go_simp
            have hE := Dag.add [] [(g4, some (n * s, 4)), (g7, some (d, 2))] (w' := w'.alloc (.cells #[.bool false, .slice none 0 0] 80)) (k := none) hD (Nat.le_refl _) (below_alloc (Below.refl _ _) _) (room_new _)
            refine hK.out _ _ ⟨pw_cell_below (hE).b hc0, pw_cell_below (hE).b hc1⟩ (fun hHeld => ?_)
            clear hK K
            refine norm_ ?_ (hq_0_4_7 ⟨w'.heap.size, g4, g7, 0⟩ _ hE); (· simp only [putAll, Act.put, List.setIfInBounds_toArray, List.set_cons_zero, List.set_cons_succ, i64_w, i32_w])
          ·
            refine value_ (v := .pointer (some ⟨w'.heap.size, 0, none⟩)) (w1 := w'.alloc (.cells #[.bool false, .slice none 0 0] 80)) (by rfl) rfl ?_ ?_
            · go_simp
            have hE := Dag.add [(g4, some (n * s, 4)), (g7, some (d, 2))] [] (w' := w'.alloc (.cells #[.bool false, .slice none 0 0] 80)) (k := none) hD (Nat.le_refl _) (below_alloc (Below.refl _ _) _) (room_new _)
            refine hK.out _ _ ⟨pw_cell_below (hE).b hc0, pw_cell_below (hE).b hc1⟩ (fun hHeld => ?_)
            clear hK K
            refine norm_ ?_ (hq_4_7_8 ⟨0, g4, g7, w'.heap.size⟩ _ hE); (· simp only [putAll, Act.put, List.setIfInBounds_toArray, List.set_cons_zero, List.set_cons_succ, i64_w, i32_w])
        refine join_ (σ := Nat × Nat × Nat × Nat) 9 (bs 15 111) (fun (⟨g0, _, _, _⟩) => [(15, .pointer (some ⟨g0, 0, none⟩))]) (fun (⟨g0, _, _, _⟩) w' => Dag w2 w' [(g0, none)]) ?_ (fun hq_0 => ?_)
        · rintro ⟨g0, g4, g7, g8⟩ w' hD
          refine norm_ (a' := ?_) ?_ ?_; rotate_left; (· simp only [putAll, Act.put, List.setIfInBounds_toArray, List.set_cons_zero, List.set_cons_succ, i64_w, i32_w]; rfl)
          refine two_ (i := 4) (j := 8) (Ni := some 19) (Nj := some 23) (bs 15 127) (bs 15 367) rfl rfl rfl rfl (by kernel_rfl) (by decide) (by decide) (fun K hK => ?_) (fun K hK => ?_)
          ·
            refine goes_ Try.func60 (by kernel_rfl) rfl #[.int .i64 n, .int .i64 s] (by rfl) rfl rfl (by simp only [List.map_toArray, List.map_cons, List.map_nil]; rfl) ?_
            with_reducible refine (product_n n s w' (by omega) (by omega) (by omega) (by omega)).mono ?_
            rintro e w9 ⟨g4, hg9, rfl, hb9, hN9⟩
            refine ⟨_, rfl, ?_⟩
            have hE := Dag.add [(g0, none)] [] (k := some (n * s, 4)) hD hg9 hb9 hN9
            refine hK.out _ _ ⟨pw_cell_below (hE).b hc0, pw_cell_below (hE).b hc1⟩ (fun hHeld => ?_)
            clear hK K
            refine norm_ ?_ (hq_0_4 ⟨g0, g4, 0, 0⟩ _ hE); (· simp only [putAll, Act.put, List.setIfInBounds_toArray, List.set_cons_zero, List.set_cons_succ, i64_w, i32_w])
          ·
            refine value_ (v := .pointer (some ⟨w'.heap.size, 0, none⟩)) (w1 := w'.alloc (.cells #[.bool false, .slice none 0 0] 80)) (by rfl) rfl ?_ ?_
            · go_simp
            have hE := Dag.add [(g0, none)] [] (w' := w'.alloc (.cells #[.bool false, .slice none 0 0] 80)) (k := none) hD (Nat.le_refl _) (below_alloc (Below.refl _ _) _) (room_new _)
            refine hK.out _ _ ⟨pw_cell_below (hE).b hc0, pw_cell_below (hE).b hc1⟩ (fun hHeld => ?_)
            clear hK K
            refine norm_ ?_ (hq_0_8 ⟨g0, 0, 0, w'.heap.size⟩ _ hE); (· simp only [putAll, Act.put, List.setIfInBounds_toArray, List.set_cons_zero, List.set_cons_succ, i64_w, i32_w])
        refine join_ (σ := Nat × Nat × Nat × Nat) 9 (bs 15 126) (fun (⟨_, g4, _, _⟩) => [(19, .pointer (some ⟨g4, 0, none⟩))]) (fun (⟨_, g4, _, _⟩) w' => Dag w2 w' [(g4, some (n * s, 4))]) ?_ (fun hq_4 => ?_)
        · rintro ⟨g0, g4, g7, g8⟩ w' hD
          refine norm_ (a' := ?_) ?_ ?_; rotate_left; (· simp only [putAll, Act.put, List.setIfInBounds_toArray, List.set_cons_zero, List.set_cons_succ, i64_w, i32_w]; rfl)
          refine three_ (i := 0) (j := 7) (k := 8) (Ni := some 15) (Nj := some 22) (Nk := some 23) (bs 15 127) (bs 15 254) (bs 15 382) rfl rfl rfl rfl rfl rfl (by kernel_rfl) (by decide) (by decide) (by decide) (fun K hK => ?_) (fun K hK => ?_) (fun K hK => ?_)
          ·
            refine value_ (v := .pointer (some ⟨w'.heap.size, 0, none⟩)) (w1 := w'.alloc (.cells #[.bool false, .slice none 0 0] 80)) (by rfl) rfl ?_ ?_
            · go_simp
            have hE := Dag.add [] [(g4, some (n * s, 4))] (w' := w'.alloc (.cells #[.bool false, .slice none 0 0] 80)) (k := none) hD (Nat.le_refl _) (below_alloc (Below.refl _ _) _) (room_new _)
            refine hK.out _ _ ⟨pw_cell_below (hE).b hc0, pw_cell_below (hE).b hc1⟩ (fun hHeld => ?_)
            clear hK K
            refine norm_ ?_ (hq_0_4 ⟨w'.heap.size, g4, 0, 0⟩ _ hE); (· simp only [putAll, Act.put, List.setIfInBounds_toArray, List.set_cons_zero, List.set_cons_succ, i64_w, i32_w])
          ·
            refine goes_ Try.func69 (by kernel_rfl) rfl #[.int .i64 d] (by rfl) rfl rfl (by simp only [List.map_toArray, List.map_cons, List.map_nil]; rfl) ?_
            with_reducible refine (newInt_n d w' (by omega) (by omega)).mono ?_
            rintro e w9 ⟨g7, hg9, rfl, hb9, hN9⟩
            refine ⟨_, rfl, ?_⟩
            have hE := Dag.add [(g4, some (n * s, 4))] [] (k := some (d, 2)) hD hg9 hb9 hN9
            refine hK.out _ _ ⟨pw_cell_below (hE).b hc0, pw_cell_below (hE).b hc1⟩ (fun hHeld => ?_)
            clear hK K
            refine norm_ ?_ (hq_4_7 ⟨0, g4, g7, 0⟩ _ hE); (· simp only [putAll, Act.put, List.setIfInBounds_toArray, List.set_cons_zero, List.set_cons_succ, i64_w, i32_w])
          ·
            refine value_ (v := .pointer (some ⟨w'.heap.size, 0, none⟩)) (w1 := w'.alloc (.cells #[.bool false, .slice none 0 0] 80)) (by rfl) rfl ?_ ?_
            · go_simp
            have hE := Dag.add [(g4, some (n * s, 4))] [] (w' := w'.alloc (.cells #[.bool false, .slice none 0 0] 80)) (k := none) hD (Nat.le_refl _) (below_alloc (Below.refl _ _) _) (room_new _)
            refine hK.out _ _ ⟨pw_cell_below (hE).b hc0, pw_cell_below (hE).b hc1⟩ (fun hHeld => ?_)
            clear hK K
            refine norm_ ?_ (hq_4_8 ⟨0, g4, 0, w'.heap.size⟩ _ hE); (· simp only [putAll, Act.put, List.setIfInBounds_toArray, List.set_cons_zero, List.set_cons_succ, i64_w, i32_w])
        refine join_ (σ := Nat × Nat × Nat × Nat) 9 (bs 15 366) (fun (⟨_, _, _, g8⟩) => [(23, .pointer (some ⟨g8, 0, none⟩))]) (fun (⟨_, _, _, g8⟩) w' => Dag w2 w' [(g8, none)]) ?_ (fun hq_8 => ?_)
        · rintro ⟨g0, g4, g7, g8⟩ w' hD
          refine norm_ (a' := ?_) ?_ ?_; rotate_left; (· simp only [putAll, Act.put, List.setIfInBounds_toArray, List.set_cons_zero, List.set_cons_succ, i64_w, i32_w]; rfl)
          refine two_ (i := 0) (j := 4) (Ni := some 15) (Nj := some 19) (bs 15 367) (bs 15 382) rfl rfl rfl rfl (by kernel_rfl) (by decide) (by decide) (fun K hK => ?_) (fun K hK => ?_)
          ·
            refine value_ (v := .pointer (some ⟨w'.heap.size, 0, none⟩)) (w1 := w'.alloc (.cells #[.bool false, .slice none 0 0] 80)) (by rfl) rfl ?_ ?_
            · go_simp
            have hE := Dag.add [] [(g8, none)] (w' := w'.alloc (.cells #[.bool false, .slice none 0 0] 80)) (k := none) hD (Nat.le_refl _) (below_alloc (Below.refl _ _) _) (room_new _)
            refine hK.out _ _ ⟨pw_cell_below (hE).b hc0, pw_cell_below (hE).b hc1⟩ (fun hHeld => ?_)
            clear hK K
            refine norm_ ?_ (hq_0_8 ⟨w'.heap.size, 0, 0, g8⟩ _ hE); (· simp only [putAll, Act.put, List.setIfInBounds_toArray, List.set_cons_zero, List.set_cons_succ, i64_w, i32_w])
          ·
            refine goes_ Try.func60 (by kernel_rfl) rfl #[.int .i64 n, .int .i64 s] (by rfl) rfl rfl (by simp only [List.map_toArray, List.map_cons, List.map_nil]; rfl) ?_
            with_reducible refine (product_n n s w' (by omega) (by omega) (by omega) (by omega)).mono ?_
            rintro e w9 ⟨g4, hg9, rfl, hb9, hN9⟩
            refine ⟨_, rfl, ?_⟩
            have hE := Dag.add [] [(g8, none)] (k := some (n * s, 4)) hD hg9 hb9 hN9
            refine hK.out _ _ ⟨pw_cell_below (hE).b hc0, pw_cell_below (hE).b hc1⟩ (fun hHeld => ?_)
            clear hK K
            refine norm_ ?_ (hq_4_8 ⟨0, g4, 0, g8⟩ _ hE); (· simp only [putAll, Act.put, List.setIfInBounds_toArray, List.set_cons_zero, List.set_cons_succ, i64_w, i32_w])
        have hD := Dag.start w2
        refine three_ (i := 0) (j := 4) (k := 8) (Ni := some 15) (Nj := some 19) (Nk := some 23) (bs 15 111) (bs 15 126) (bs 15 366) rfl rfl rfl rfl rfl rfl (by kernel_rfl) (by decide) (by decide) (by decide) (fun K hK => ?_) (fun K hK => ?_) (fun K hK => ?_)
        ·
          refine value_ (v := .pointer (some ⟨w2.drew.heap.size, 0, none⟩)) (w1 := w2.drew.alloc (.cells #[.bool false, .slice none 0 0] 80)) (by rfl) rfl ?_ ?_
          · go_simp
          have hE := Dag.add [] [] (w' := w2.drew.alloc (.cells #[.bool false, .slice none 0 0] 80)) (k := none) hD (Nat.le_refl _) (below_alloc (Below.refl _ _) _) (room_new _)
          refine hK.out _ _ ⟨pw_cell_below (hE).b hc0, pw_cell_below (hE).b hc1⟩ (fun hHeld => ?_)
          clear hK K
          refine norm_ ?_ (hq_0 ⟨w2.drew.heap.size, 0, 0, 0⟩ _ hE); (· simp only [putAll, Act.put, List.setIfInBounds_toArray, List.set_cons_zero, List.set_cons_succ, i64_w, i32_w])
        ·
          refine goes_ Try.func60 (by kernel_rfl) rfl #[.int .i64 n, .int .i64 s] (by rfl) rfl rfl (by simp only [List.map_toArray, List.map_cons, List.map_nil]; rfl) ?_
          with_reducible refine (product_n n s w2.drew (by omega) (by omega) (by omega) (by omega)).mono ?_
          rintro e w9 ⟨g4, hg9, rfl, hb9, hN9⟩
          refine ⟨_, rfl, ?_⟩
          have hE := Dag.add [] [] (k := some (n * s, 4)) hD hg9 hb9 hN9
          refine hK.out _ _ ⟨pw_cell_below (hE).b hc0, pw_cell_below (hE).b hc1⟩ (fun hHeld => ?_)
          clear hK K
          refine norm_ ?_ (hq_4 ⟨0, g4, 0, 0⟩ _ hE); (· simp only [putAll, Act.put, List.setIfInBounds_toArray, List.set_cons_zero, List.set_cons_succ, i64_w, i32_w])
        ·
          refine value_ (v := .pointer (some ⟨w2.drew.heap.size, 0, none⟩)) (w1 := w2.drew.alloc (.cells #[.bool false, .slice none 0 0] 80)) (by rfl) rfl ?_ ?_
          · go_simp
          have hE := Dag.add [] [] (w' := w2.drew.alloc (.cells #[.bool false, .slice none 0 0] 80)) (k := none) hD (Nat.le_refl _) (below_alloc (Below.refl _ _) _) (room_new _)
          refine hK.out _ _ ⟨pw_cell_below (hE).b hc0, pw_cell_below (hE).b hc1⟩ (fun hHeld => ?_)
          clear hK K
          refine norm_ ?_ (hq_8 ⟨0, 0, 0, w2.drew.heap.size⟩ _ hE); (· simp only [putAll, Act.put, List.setIfInBounds_toArray, List.set_cons_zero, List.set_cons_succ, i64_w, i32_w])
      rintro ⟨g0, g4, g7, g8⟩ w' hD
      refine norm_ (a' := ?_) ?_ ?_; rotate_left; (· simp only [putAll, Act.put, List.setIfInBounds_toArray, List.set_cons_zero, List.set_cons_succ, i64_w, i32_w]; rfl)
      have hHeld : w'.cell? ⟨w.heap.size, 0, none⟩ = some (.int .i64 n) ∧ w'.cell? ⟨w.heap.size, 1, none⟩ = some (.int .i64 d) := ⟨pw_cell_below (hD).b hc0, pw_cell_below (hD).b hc1⟩
      refine one_ (i := 9) (N := some 24) (bs 15 1023) rfl rfl (by kernel_rfl) (by decide) (fun K hK => ?_)
      refine goes_ Try.func72 (by kernel_rfl) rfl #[.pointer (some ⟨g0, 0, none⟩), .pointer (some ⟨g4, 0, none⟩), .pointer (some ⟨g7, 0, none⟩), .pointer (some ⟨g8, 0, none⟩)] (by rfl) rfl rfl (by simp only [List.map_toArray, List.map_cons, List.map_nil]; rfl) ?_
      with_reducible refine (quoRem_n g0 0 g4 0 g7 0 g8 0 (n * s) d 4 2 w2.heap.size w' (hD.room (by simp)) (hD.num (by simp)) (hD.num (by simp)) (hD.room (by simp)) (fun e => (by have := hD.ne; simp at this; omega)) (by omega) (by decide) (hD.new (g0, none) (by simp)) (hD.new (g8, none) (by simp))).mono ?_
      rintro e w5 ⟨rfl, hb5, hq5, hr5, _⟩
      refine ⟨_, rfl, ?_⟩
      have hb25 := hD.b.trans hb5
      refine hK.out _ _ ⟨pw_cell_below hb25 hc0, pw_cell_below hb25 hc1⟩ (fun hHeld => ?_)
      clear hK K
      refine norm_ (a' := ?_) ?_ ?_; rotate_left; (· show Act.put _ (some 24) _ = _; simp only [Act.put, List.setIfInBounds_toArray, List.set_cons_zero, List.set_cons_succ, i64_w, i32_w]; rfl)
      refine pure_ (i := 10) (N := some 14) (v := ?_) (a' := ?_) (bs 15 2047) rfl rfl (by kernel_rfl) (fun _ _ _ h => h) (Or.inl ⟨by rfl, ?_⟩) ?_ ?_; rotate_left; (· intro w'; go_simp; first | done | with_reducible rfl); rotate_left; (· simp only [Act.put, List.setIfInBounds_toArray, List.set_cons_zero, List.set_cons_succ, i64_w, i32_w]; rfl)
      refine pure_ (i := 11) (N := some 25) (v := ?_) (a' := ?_) (bs 15 4095) rfl rfl (by kernel_rfl) (fun _ _ _ h => h) (Or.inl ⟨by rfl, ?_⟩) ?_ ?_; rotate_left; (· intro w'; go_simp; first | done | with_reducible rfl); rotate_left; (· simp only [Act.put, List.setIfInBounds_toArray, List.set_cons_zero, List.set_cons_succ, i64_w, i32_w]; rfl)
      refine pure_ (i := 12) (N := some 26) (v := ?_) (a' := ?_) (bs 15 8191) rfl rfl (by kernel_rfl) (fun _ _ _ h => h) (Or.inl ⟨by rfl, ?_⟩) ?_ ?_; rotate_left; (· intro w'; go_simp; first | done | with_reducible rfl); rotate_left; (· simp only [Act.put, List.setIfInBounds_toArray, List.set_cons_zero, List.set_cons_succ, i64_w, i32_w]; rfl)
      refine pure_ (i := 13) (N := some 6) (v := ?_) (a' := ?_) (bs 15 16383) rfl rfl (by kernel_rfl) (fun _ _ _ h => h) (Or.inl ⟨by rfl, ?_⟩) ?_ ?_; rotate_left; (· intro w'; go_simp; first | done | with_reducible rfl); rotate_left; (· simp only [Act.put, List.setIfInBounds_toArray, List.set_cons_zero, List.set_cons_succ, i64_w, i32_w]; rfl)
      refine pure_ (i := 14) (N := some 7) (v := ?_) (a' := ?_) (bs 15 32767) rfl rfl (by kernel_rfl) (fun _ _ _ h => h) (Or.inl ⟨by rfl, ?_⟩) ?_ ?_; rotate_left; (· intro w'; go_simp; first | done | with_reducible rfl); rotate_left; (· simp only [Act.put, List.setIfInBounds_toArray, List.set_cons_zero, List.set_cons_succ, i64_w, i32_w]; rfl)
      refine done_ (by kernel_rfl) ?_
      rw [HQ.out.1] at hq5
      rw [HQ.out.2.1] at hr5
      have HB6 := Aside0.mk (HB2.out.trans (hb25.mono HB2.out.size))
      have H6 := Aside0.mk (And.intro hq5 hr5)
      clear hq5 hr5 hb25 hb5 hD hHeld hc0 hc1 hbk2 HB2
      go_wp2_with fail
      refine (signI_n g8 0 r _ w5 H6.out.2).mono ?_
      rintro e w7 ⟨rfl, hb7⟩
      have HB7 := Aside0.mk (HB6.out.trans (hb7.mono HB6.out.size))
      have H7 := Aside0.mk (H6.out.1.below hb7)
      clear hb7 HB6 H6
      by_cases hr0 : r = 0
      · have e1 : cmpI r 0 = 0 := by subst hr0; rfl
        have HV := Aside0.mk (show V = if big q then two (.int .i64 0) (er 2) else two (.int .i64 q) (er 0) by rw [HQ.out.2.2, if_pos hr0])
        rw [e1]
        clear e1 hr0
        go_wp2_with fail
        refine (newInt_n 1099511627776 w7 (by decide) (by decide)).mono ?_
        rintro e w8 ⟨g9, hg9, rfl, hb8, hN8⟩
        have HB8 := Aside0.mk (HB7.out.trans (hb8.mono HB7.out.size))
        have H8 := Aside0.mk (And.intro (H7.out.below hb8) hN8)
        clear hb8 hN8 HB7 H7
        go_wp2_with fail
        refine (cmpAbs_n g0 0 g9 0 q 1099511627776 _ _ w8 H8.out.1 H8.out.2 (by decide)).mono ?_
        rintro e w9 ⟨rfl, hb9⟩
        have HB9 := Aside0.mk (HB8.out.trans (hb9.mono HB8.out.size))
        have H9 := Aside0.mk (H8.out.1.below hb9)
        clear hb9 HB8 H8
        by_cases hbig : 1099511627776 < (q.natAbs : Int)
        · have e1 : big q = true := decide_eq_true hbig
          have e2 : cmpI (q.natAbs : Int) ((1099511627776 : Int).natAbs : Int) = 1 := by unfold cmpI; rw [if_neg (by simp; omega), if_pos (by simpa using hbig)]
          have HV2 := Aside0.mk (show V = .tuple #[.int .i64 0, .int .i64 2] by rw [HV.out, e1]; rfl)
          rw [e2]
          clear e1 e2
          go_wp2_with fail
          go_ret2
          exact ⟨by rw [HV2.out]; rfl, HB9.out⟩
        · have e1 : big q = false := decide_eq_false hbig
          have e2 : ∃ c : Int, c ≤ 0 ∧ cmpI (q.natAbs : Int) ((1099511627776 : Int).natAbs : Int) = c := by
            refine ⟨_, ?_, rfl⟩
            unfold cmpI
            split
            · decide
            · rw [if_neg (by simpa using hbig)]; decide
          obtain ⟨c, hc, e2⟩ := e2
          have HV2 := Aside0.mk (show V = .tuple #[.int .i64 q, .int .i64 0] by rw [HV.out, e1]; rfl)
          rw [e2]
          clear e1 e2
          go_wp2_with fail
          refine (int64_n g0 0 q _ w9 H9.out (by omega) (by omega) (by decide)).mono ?_
          rintro e w10 ⟨rfl, hb10⟩
          go_wp2_with fail
          go_ret2
          exact ⟨by rw [HV2.out]; rfl, HB9.out.trans (hb10.mono HB9.out.size)⟩
      · have e1 : ∃ c : Int, (c == 0) = false ∧ cmpI r 0 = c := by
          refine ⟨_, ?_, rfl⟩
          unfold cmpI
          split
          · rfl
          · rw [if_pos (by omega)]; rfl
        obtain ⟨c, hc, e1⟩ := e1
        have hc2 : (c != 0) = true := by simpa using hc
        have HV := Aside0.mk (show V = .tuple #[.int .i64 0, .int .i64 20] by rw [HQ.out.2.2, if_neg hr0]; rfl)
        rw [e1]
        clear e1 hr0
        go_wp2_with fail
        go_ret2
        exact ⟨by rw [HV.out]; rfl, HB7.out⟩
end Go.Proofs.Ytdginjpppgfdaaa.Eg

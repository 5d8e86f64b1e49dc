/-
  exact's functions of ticks: product, rounded, From, Ticks, Whole, Rescale.
-/
import Derived.Test.YtdginjpppgfdaaaEa
namespace Go.Proofs.Ytdginjpppgfdaaa.Eb
open Go.RowKit Go Go.Proofs.YtdginjpppgfdaaaW.PrintWords Go.Proofs.YtdginjpppgfdaaaW.PrintLast Go.Proofs.YtdginjpppgfdaaaW.PrintMore Go.Proofs.Ytdginjpppgfdaaa.Ml Go.Proofs.Ytdginjpppgfdaaa.Mn Go.Proofs.Ytdginjpppgfdaaa.Nd Go.Proofs.Ytdginjpppgfdaaa.P Go.Proofs.Ytdginjpppgfdaaa.Nc Go.Proofs.Ytdginjpppgfdaaa.Nb Go.Proofs.Ytdginjpppgfdaaa.Qa Go.Proofs.Ytdginjpppgfdaaa.Qb Go.Proofs.Ytdginjpppgfdaaa.Ea
set_option linter.unusedVariables false
set_option linter.unusedSimpArgs false

set_option maxHeartbeats 2000000 in
theorem product_n (a b : Int) (w : World) (a0 : -9223372036854775808 ≤ a) (a1 : a ≤ 9223372036854775807) (b0 : -9223372036854775808 ≤ b) (b1 : b ≤ 9223372036854775807) :
    Calls Try.prog 60 #[.int .i64 a, .int .i64 b] w (NewP w (a * b) 4) := by
  have hA := Aside0.mk (And.intro (And.intro a0 a1) (And.intro b0 b1))
  clear a0 a1 b0 b1
  go_enter Try.func60, Try.ntmps60
  go_wp2_with fail
  have hr := room_new w
  have hb1 : Below w.heap.size w (w.alloc (.cells #[.bool false, .slice none 0 0] 80)) := below_alloc (Below.refl _ w) _
  have s1 := hb1.size
  refine (newInt_n a _ hA.out.1.1 hA.out.1.2).mono ?_
  rintro e w2 ⟨g1, hg1, rfl, hb2, hN1⟩
  have H1 := Aside0.mk (And.intro hr (And.intro hb1 (And.intro hb2 hN1)))
  clear hr hb1 hb2 hN1
  go_wp2_with fail
  refine (newInt_n b _ hA.out.2.1 hA.out.2.2).mono ?_
  rintro e w3 ⟨g2, hg2, rfl, hb3, hN2⟩
  have H2 := Aside0.mk (And.intro hb3 hN2)
  clear hb3 hN2
  go_wp2_with fail
  have hlt := H1.out.1.lt
  refine (mul_n w.heap.size 0 g1 0 g2 0 a b 2 2 w3 ((H1.out.1.below H1.out.2.2.1).below H2.out.1) (H1.out.2.2.2.below H2.out.1) H2.out.2 (by decide)).mono ?_
  rintro e w4 ⟨rfl, hw, hN⟩
  have H3 := Aside0.mk (And.intro hw hN)
  clear hw hN
  go_wp2_with fail
  go_ret
  have s2 := H1.out.2.1.size
  have s3 := H1.out.2.2.1.size
  have s4 := H2.out.1.size
  exact ⟨_, Nat.le_refl _, rfl, H1.out.2.1.trans ((H1.out.2.2.1.mono s2).trans ((H2.out.1.mono (by omega)).trans (H3.out.1.below (Nat.le_refl _) (by omega)))), H3.out.2⟩

theorem _root_.Go.Proofs.Ytdginjpppgfdaaa.Nd.Wrote.room' {w w' : World} {g o g2 o2 : Nat} (h : Wrote w w' g o) (_ : Room w g o) (hr : Room w g2 o2) (hne : g2 ≠ g) : Room w' g2 o2 := Wrote.room h hr hne
def rnd (h n d : Int) : Int := if h = 1 then (n + d - 1) / d else if h = 2 then (n * 2 + d) / (d * 2) else n / d
theorem eq_f {a b : Int} (h : a ≠ b) : (a == b) = false := by simpa using h

set_option maxHeartbeats 4000000 in
theorem rounded_n (gn gd nn nd : Nat) (n d h : Int) (w : World) (hn : IsN w gn 0 n nn) (hd : IsN w gd 0 d nd) (hp : 0 < d) (hh : h = 0 ∨ h = 1 ∨ h = 2) (hl : nn + nd ≤ 100) :
    Calls Try.prog 68 #[.pointer (some ⟨gn, 0, none⟩), .pointer (some ⟨gd, 0, none⟩), .int .i64 h] w (NewP w (rnd h n d) (nn + nd + 10)) := by
  have hb1 : Below w.heap.size w (w.alloc (.cells #[.bool false, .slice none 0 0] 80)) := below_alloc (Below.refl _ w) _
  have s1 := hb1.size
  have hr := room_new w
  rcases hh with rfl | rfl | rfl
  · go_enter Try.func68, Try.ntmps68
    go_wp2_with fail
    refine (divI_n w.heap.size 0 gn 0 gd 0 n d nn nd w.heap.size _ hr (hn.below hb1) (hd.below hb1) hp (by omega) (Nat.le_refl _)).mono ?_
    rintro e w2 ⟨rfl, hB, hN⟩
    have H := Aside0.mk (And.intro hB hN)
    clear hB hN
    go_wp2_with fail
    go_ret
    exact ⟨_, Nat.le_refl _, rfl, hb1.trans H.out.1, H.out.2.mono (by omega)⟩
  · go_enter Try.func68, Try.ntmps68
    go_wp2_with fail
    refine (add_n w.heap.size 0 gn 0 gd 0 n d nn nd _ hr (hn.below hb1) (hd.below hb1).w (by omega)).mono ?_
    rintro e w2 ⟨rfl, hw, hN⟩
    have hx := hn.lt
    have hy := hd.lt
    have H := Aside0.mk (And.intro hw (And.intro hN (hw.isN hr (hd.below hb1) (.inl (by omega)))))
    have HB2 := Aside0.mk (hb1.trans (hw.below (Nat.le_refl _) s1))
    clear hw hN
    go_wp2_with fail
    refine (newInt_n 1 _ (by decide) (by decide)).mono ?_
    rintro e w3 ⟨g3, hg3, rfl, hb3, hN3⟩
    have H3 := Aside0.mk (And.intro hb3 hN3)
    have hm : max nn nd ≤ nn + nd := by omega
    clear hb3 hN3
    go_wp2_with fail
    have hx2 := H.out.2.1.below H3.out.1
    refine (subI_n w.heap.size 0 w.heap.size 0 g3 0 (n + d) 1 _ 2 w3 hx2.room hx2 H3.out.2 (by omega)).mono ?_
    rintro e w4 ⟨rfl, hw4, hN4⟩
    have s2 := HB2.out.size
    have s3 := H3.out.1.size
    have hlt := H.out.2.2.lt
    have hyd : IsN w4 gd 0 d nd := hw4.isN hx2.room (H.out.2.2.below H3.out.1) (.inl (by omega))
    have HB4 := Aside0.mk (show Below w.heap.size w w4 from (HB2.out.trans (H3.out.1.mono s2)).trans (hw4.below (Nat.le_refl _) (by omega)))
    have H4 := Aside0.mk (And.intro hN4 hyd)
    clear hw4 hN4 hyd
    go_wp2_with fail
    have hb5 : Below w4.heap.size w4 (w4.alloc (.cells #[.bool false, .slice none 0 0] 80)) := below_alloc (Below.refl _ w4) _
    refine (divI_n w4.heap.size 0 w.heap.size 0 gd 0 (n + d - 1) d _ nd w4.heap.size _ (room_new w4) (H4.out.1.below hb5) (H4.out.2.below hb5) hp (by omega) (Nat.le_refl _)).mono ?_
    rintro e w6 ⟨rfl, hB6, hN6⟩
    have H6 := Aside0.mk (And.intro hB6 hN6)
    clear hB6 hN6
    go_wp2_with fail
    go_ret
    have s4 := HB4.out.size
    exact ⟨_, s4, rfl, HB4.out.trans ((hb5.trans H6.out.1).mono s4), H6.out.2.mono (by omega)⟩
  · go_enter Try.func68, Try.ntmps68
    go_wp2_with fail
    generalize hw1 : w.alloc (.cells #[.bool false, .slice none 0 0] 80) = w1 at *
    have sz1 : w1.heap.size = w.heap.size + 1 := by rw [← hw1]; simp
    have hb2 : Below w1.heap.size w1 (w1.alloc (.cells #[.bool false, .slice none 0 0] 80)) := below_alloc (Below.refl _ w1) _
    have hr2 := room_new w1
    rw [sz1] at hr2
    refine (lsh_n (w.heap.size + 1) 0 gn 0 n nn _ hr2 ((hn.below hb1).below hb2) (by omega)).mono ?_
    rintro e w3 ⟨rfl, hw3, hN3⟩
    have hx := hn.lt
    have hy := hd.lt
    have s2 := hb2.size
    have hA := hw3.room' hr2 (hr.below hb2) (by omega)
    have hD := hw3.isN hr2 ((hd.below hb1).below hb2) (.inl (by omega))
    have HB3 := Aside0.mk ((hb1.trans (hb2.mono s1)).trans (hw3.below (by omega) (by omega)))
    have H3 := Aside0.mk (And.intro hN3 (And.intro hA hD))
    clear hw3 hN3 hA hD
    go_wp2_with fail
    refine (add_n w.heap.size 0 (w.heap.size + 1) 0 gd 0 (n * 2) d (nn + 1) nd w3 H3.out.2.1 H3.out.1 H3.out.2.2.w (by omega)).mono ?_
    rintro e w4 ⟨rfl, hw4, hN4⟩
    have hD := hw4.isN H3.out.2.1 H3.out.2.2 (.inl (by omega))
    have s3 := HB3.out.size
    have HB4 := Aside0.mk (HB3.out.trans (hw4.below (Nat.le_refl _) s3))
    have H4 := Aside0.mk (And.intro hN4 hD)
    clear hw4 hN4 hD
    go_wp2_with fail
    have hb5 : Below w4.heap.size w4 (w4.alloc (.cells #[.bool false, .slice none 0 0] 80)) := below_alloc (Below.refl _ w4) _
    have s4 := HB4.out.size
    have s5 := hb5.size
    have hy4 := H4.out.2.lt
    have hx4 := H4.out.1.lt
    refine (lsh_n w4.heap.size 0 gd 0 d nd _ (room_new w4) (H4.out.2.below hb5) (by omega)).mono ?_
    rintro e w6 ⟨rfl, hw6, hN6⟩
    have hS := hw6.isN (room_new w4) (H4.out.1.below hb5) (.inl (by omega))
    have HB6 := Aside0.mk (HB4.out.trans ((hb5.mono s4).trans (hw6.below s4 (by omega))))
    have H6 := Aside0.mk (And.intro hN6 hS)
    clear hw6 hN6 hS
    go_wp2_with fail
    have hb7 : Below w6.heap.size w6 (w6.alloc (.cells #[.bool false, .slice none 0 0] 80)) := below_alloc (Below.refl _ w6) _
    have hm : max (nn + 1) nd ≤ nn + nd + 1 := by omega
    refine (divI_n w6.heap.size 0 w.heap.size 0 w4.heap.size 0 (n * 2 + d) (d * 2) _ (nd + 1) w6.heap.size _ (room_new w6) (H6.out.2.below hb7) (H6.out.1.below hb7) (by omega) (by omega) (Nat.le_refl _)).mono ?_
    rintro e w8 ⟨rfl, hB8, hN8⟩
    have H8 := Aside0.mk (And.intro hB8 hN8)
    clear hB8 hN8
    go_wp2_with fail
    go_ret
    have s6 := HB6.out.size
    exact ⟨_, s6, rfl, HB6.out.trans ((hb7.trans H8.out.1).mono s6), H8.out.2.mono (by omega)⟩

theorem blk_two {w : World} {g : Nat} {t : TypeId} {a b x y : Value} (h : w.heap[g]? = some (.cells #[a, b] t (0, 0))) : ((w.setCell ⟨g, 0, none⟩ x).setCell ⟨g, 1, none⟩ y).heap[g]? = some (.cells #[x, y] t (0, 0)) :=
  blk_put (cs := #[x, b]) (blk_put (cs := #[a, b]) h 0 x rfl) 1 y rfl
def two (a b : Value) : Value := .tuple #[a, b]
def vFrom (t s : Int) : Value := if isTicks t && isScale s then two (tm (lowN t s) (lowD t s)) (er 0) else two (tm 0 0) (er 1)
set_option maxHeartbeats 4000000 in
set_option maxRecDepth 100000 in
theorem From_n (t s : Int) (w : World) : Calls Try.prog 17 #[.int .i64 t, .int .i64 s] w (ValP w (vFrom t s)) := by
  have hu := Try.underlying25
  unfold vFrom two tm er
  have hb1 : ∀ c, Below w.heap.size w (w.alloc c) := fun c => below_alloc (Below.refl _ w) _
  cases ht : isTicks t with
  | false =>
    go_enter Try.func17, Try.ntmps17
    go_wp2_with fail
    refine (isTicks_n t _).mono ?_
    rintro e w2 ⟨rfl, rfl⟩
    rw [ht]
    go_wp2_with fail
    refine bodyPost_ret (results_ct rfl _ _ w.heap.size 25 #[.int .i64 0, .int .i64 0] (0, 0) _ rfl (blk_new w _) Try.underlying25 rfl (by kernel_rfl)) rfl ?_
    exact ⟨rfl, hb1 _⟩
  | true =>
    cases hs : isScale s with
    | false =>
      go_enter Try.func17, Try.ntmps17
      go_wp2_with fail
      refine (isTicks_n t _).mono ?_
      rintro e w2 ⟨rfl, rfl⟩
      rw [ht]
      go_wp2_with fail
      refine (isScale_n s _).mono ?_
      rintro e w2 ⟨rfl, rfl⟩
      rw [hs]
      go_wp2_with fail
      refine bodyPost_ret (results_ct rfl _ _ w.heap.size 25 #[.int .i64 0, .int .i64 0] (0, 0) _ rfl (blk_new w _) Try.underlying25 rfl (by kernel_rfl)) rfl ?_
      exact ⟨rfl, hb1 _⟩
    | true =>
      have ht2 : -1099511627776 ≤ t ∧ t ≤ 1099511627776 := by unfold isTicks at ht; simpa using ht
      have hs2 : 1 ≤ s ∧ s ≤ 1000000 := by unfold isScale at hs; simpa using hs
      obtain ⟨k, hk⟩ := lowest_f t s (by omega) (by omega) (by omega) (by omega)
      have HK := Aside0.mk hk
      clear hk ht2 hs2
      go_enter Try.func17, Try.ntmps17
      go_wp2_with fail
      refine (isTicks_n t _).mono ?_
      rintro e w2 ⟨rfl, rfl⟩
      rw [ht]
      go_wp2_with fail
      refine (isScale_n s _).mono ?_
      rintro e w2 ⟨rfl, rfl⟩
      rw [hs]
      go_wp2_with fail
      refine (exact_lowest.calls k t s _ _ _ HK.out).mono ?_
      rintro e w3 ⟨rfl, hb3⟩
      have hblk := blk_below (blk_new w _) hb3
      have hc0 : w3.cell? ⟨w.heap.size, 0, none⟩ = some (.int .i64 0) := (blk_cell hblk 0).trans rfl
      have hf0 := blk_frozen hblk 0
      have hc1 : w3.cell? ⟨w.heap.size, 1, none⟩ = some (.int .i64 0) := (blk_cell hblk 1).trans rfl
      have hf1 := blk_frozen hblk 1
      have HB3 := Aside0.mk ((hb1 _).trans (hb3.mono (hb1 _).size))
      have HBL := Aside0.mk hblk
      clear hblk hb3
      go_wp2_with fail
      refine bodyPost_ret (results_ct rfl _ _ w.heap.size 25 #[.int .i64 (lowN t s), .int .i64 (lowD t s)] (0, 0) _ rfl (blk_two HBL.out) Try.underlying25 rfl (by kernel_rfl)) rfl ?_
      exact ⟨rfl, (HB3.out.setCell (Nat.le_refl _) _).setCell (Nat.le_refl _) _⟩

def big (q : Int) : Bool := decide (1099511627776 < (q.natAbs : Int))
def vTicks (n d s h : Int) : Value := if valid n d then (if isScale s && isHow h then (if big (rnd h (n * s) d) then two (.int .i64 0) (er 2) else two (.int .i64 (rnd h (n * s) d)) (er 0)) else two (.int .i64 0) (er 1)) else two (.int .i64 0) (er 4)
set_option maxHeartbeats 8000000 in
set_option maxRecDepth 100000 in
theorem Ticks_n (n d s h : Int) (w : World) : Calls Try.prog 39 #[tm n d, .int .i64 s, .int .i64 h] w (ValP w (vTicks n d s h)) := by
  have hu := Try.underlying25
  have hb1 : Below w.heap.size w (w.alloc (.cells #[.int .i64 n, .int .i64 d] 25)) := below_alloc (Below.refl _ w) _
  have hbk := blk_new w (.cells #[.int .i64 n, .int .i64 d] 25)
  have s1 := hb1.size
  cases hv : valid n d with
  | false =>
    rw [show vTicks n d s h = .tuple #[.int .i64 0, .int .i64 4] by unfold vTicks; rw [hv]; rfl]
    unfold tm
    go_enter Try.func39, Try.ntmps39
    go_wp2_with fail
    refine (Valid_n n d _).mono ?_
    rintro e w2 ⟨rfl, hb2⟩
    rw [hv]
    go_wp2_with fail
    go_ret2
    exact ⟨rfl, hb1.trans (hb2.mono s1)⟩
  | true =>
    cases hs : isScale s with
    | false =>
      rw [show vTicks n d s h = .tuple #[.int .i64 0, .int .i64 1] by unfold vTicks; rw [hv, hs]; rfl]
      unfold tm
      go_enter Try.func39, Try.ntmps39
      go_wp2_with fail
      refine (Valid_n n d _).mono ?_
      rintro e w2 ⟨rfl, hb2⟩
      rw [hv]
      go_wp2_with fail
      refine (isScale_n s _).mono ?_
      rintro e w3 ⟨rfl, rfl⟩
      rw [hs]
      go_wp2_with fail
      go_ret2
      exact ⟨rfl, hb1.trans (hb2.mono s1)⟩
    | true =>
      cases hh : isHow h with
      | false =>
        rw [show vTicks n d s h = .tuple #[.int .i64 0, .int .i64 1] by unfold vTicks; rw [hv, hs, hh]; rfl]
        unfold tm
        go_enter Try.func39, Try.ntmps39
        go_wp2_with fail
        refine (Valid_n n d _).mono ?_
        rintro e w2 ⟨rfl, hb2⟩
        rw [hv]
        go_wp2_with fail
        refine (isScale_n s _).mono ?_
        rintro e w3 ⟨rfl, rfl⟩
        rw [hs]
        go_wp2_with fail
        refine (isHow_n h _).mono ?_
        rintro e w3 ⟨rfl, rfl⟩
        rw [hh]
        go_wp2_with fail
        go_ret2
        exact ⟨rfl, hb1.trans (hb2.mono s1)⟩
      | true =>
        have hv2 : ((1 ≤ d ∧ d ≤ 1152921504606846976) ∧ -1152921504606846976 ≤ n) ∧ n ≤ 1152921504606846976 := by unfold valid at hv; simpa using hv
        have hs2 : 1 ≤ s ∧ s ≤ 1000000 := by unfold isScale at hs; simpa using hs
        have hh2 : h = 0 ∨ h = 1 ∨ h = 2 := by unfold isHow at hh; simp at hh; omega
        obtain ⟨⟨⟨hd1, hd2⟩, hn1⟩, hn2⟩ := hv2
        have hV : vTicks n d s h = if big (rnd h (n * s) d) then .tuple #[.int .i64 0, .int .i64 2] else .tuple #[.int .i64 (rnd h (n * s) d), .int .i64 0] := by unfold vTicks; rw [hv, hs, hh]; rfl
        generalize vTicks n d s h = V at hV ⊢
        generalize hqq : rnd h (n * s) d = q at hV
        have HQ := Aside0.mk (And.intro hqq hV)
        clear hqq hV
        unfold tm
        go_enter Try.func39, Try.ntmps39
        go_wp2_with fail
        refine (Valid_n n d _).mono ?_
        rintro e w2 ⟨rfl, hb2⟩
        rw [hv]
        go_wp2_with fail
        refine (isScale_n s _).mono ?_
        rintro e w3 ⟨rfl, rfl⟩
        rw [hs]
        go_wp2_with fail
        refine (isHow_n h _).mono ?_
        rintro e w3 ⟨rfl, rfl⟩
        rw [hh]
        have hbk2 := blk_below hbk hb2
        have HB2 := Aside0.mk (hb1.trans (hb2.mono s1))
        clear hb2 hbk
        have hc0 : w2.cell? ⟨w.heap.size, 0, none⟩ = some (.int .i64 n) := (blk_cell hbk2 0).trans rfl
        have hc1 : w2.cell? ⟨w.heap.size, 1, none⟩ = some (.int .i64 d) := (blk_cell hbk2 1).trans rfl
        go_wp2_with fail
        refine start_ (n := 10) (S := fun w' => w'.cell? ⟨w.heap.size, 0, none⟩ = some (.int .i64 n) ∧ w'.cell? ⟨w.heap.size, 1, none⟩ = some (.int .i64 d)) (ds := []) (bs 10 0) (by kernel_rfl) rfl rfl ⟨hc0, hc1⟩ (fun hHeld => ?_)
        refine pure_ (i := 0) (N := some 20) (v := ?_) (a' := ?_) (bs 10 1) rfl rfl (by kernel_rfl) (fun _ _ _ h => h) (Or.inl ⟨by rfl, ?_⟩) ?_ ?_; rotate_left; (· intro w'; go_simp; first | done | with_reducible rfl); rotate_left; (· simp only [Act.put, List.setIfInBounds_toArray, List.set_cons_zero, List.set_cons_succ, i64_w, i32_w]; rfl)
        refine pure_ (i := 2) (N := some 22) (v := ?_) (a' := ?_) (bs 10 5) rfl rfl (by kernel_rfl) (fun _ _ _ h => h) (Or.inl ⟨by rfl, ?_⟩) ?_ ?_; rotate_left; (· intro w'; go_simp; first | done | with_reducible rfl); rotate_left; (· simp only [Act.put, List.setIfInBounds_toArray, List.set_cons_zero, List.set_cons_succ, i64_w, i32_w]; rfl)
        refine pure_ (i := 4) (N := some 24) (v := ?_) (a' := ?_) (bs 10 21) rfl rfl (by kernel_rfl) (fun _ _ _ h => h) (Or.inl ⟨by rfl, ?_⟩) ?_ ?_; rotate_left; (· intro w'; go_simp; first | done | with_reducible rfl); rotate_left; (· simp only [Act.put, List.setIfInBounds_toArray, List.set_cons_zero, List.set_cons_succ, i64_w, i32_w]; rfl)
        refine pure_ (i := 7) (N := some 27) (v := ?_) (a' := ?_) (bs 10 149) rfl rfl (by kernel_rfl) (fun _ _ _ h => h) (Or.inl ⟨by rfl, ?_⟩) ?_ ?_; rotate_left; (· intro w'; go_simp; first | done | with_reducible rfl); rotate_left; (· simp only [Act.put, List.setIfInBounds_toArray, List.set_cons_zero, List.set_cons_succ, i64_w, i32_w]; rfl)
        refine take_ (i := 1) (N := some 21) (v := ?_) (a' := ?_) (bs 10 151) rfl rfl (by kernel_rfl) (fun _ _ _ h => h) (Or.inl ⟨by rfl, ?_⟩) hHeld ?_ ?_; rotate_left; (· rintro w' ⟨s0, s1⟩; go_simp; first | done | with_reducible rfl); rotate_left; (· simp only [Act.put, List.setIfInBounds_toArray, List.set_cons_zero, List.set_cons_succ, i64_w, i32_w]; rfl)
        refine take_ (i := 5) (N := some 25) (v := ?_) (a' := ?_) (bs 10 183) rfl rfl (by kernel_rfl) (fun _ _ _ h => h) (Or.inl ⟨by rfl, ?_⟩) hHeld ?_ ?_; rotate_left; (· rintro w' ⟨s0, s1⟩; go_simp; first | done | with_reducible rfl); rotate_left; (· simp only [Act.put, List.setIfInBounds_toArray, List.set_cons_zero, List.set_cons_succ, i64_w, i32_w]; rfl)
        refine one_ (i := 3) (N := some 23) (bs 10 191) rfl rfl (by kernel_rfl) (by decide) (fun K hK => ?_)
        refine goes_ Try.func60 (by kernel_rfl) rfl #[.int .i64 n, .int .i64 s] (by rfl) rfl rfl (by simp only [List.map_toArray, List.map_cons, List.map_nil]; rfl) ?_
        with_reducible refine (product_n n s _ (by omega) (by omega) (by omega) (by omega)).mono ?_
        rintro e w4 ⟨g4, hg4, rfl, hb4, hN4⟩
        refine ⟨_, rfl, ?_⟩
        have hb4' := below_drew' hb4
        refine hK.out _ _ ⟨pw_cell_below hb4' hc0, pw_cell_below hb4' hc1⟩ (fun hHeld => ?_)
        clear hK K
        refine norm_ (a' := ?_) ?_ ?_; rotate_left; (· show Act.put _ (some 23) _ = _; simp only [Act.put, List.setIfInBounds_toArray, List.set_cons_zero, List.set_cons_succ, i64_w, i32_w]; rfl)
        refine one_ (i := 6) (N := some 26) (bs 10 255) rfl rfl (by kernel_rfl) (by decide) (fun K hK => ?_)
        refine goes_ Try.func69 (by kernel_rfl) rfl #[.int .i64 d] (by rfl) rfl rfl (by simp only [List.map_toArray, List.map_cons, List.map_nil]; rfl) ?_
        with_reducible refine (newInt_n d w4 (by omega) (by omega)).mono ?_
        rintro e w5 ⟨g5, hg5, rfl, hb5, hN5⟩
        refine ⟨_, rfl, ?_⟩
        have hb45 := hb4'.trans (hb5.mono hb4'.size)
        refine hK.out _ _ ⟨pw_cell_below hb45 hc0, pw_cell_below hb45 hc1⟩ (fun hHeld => ?_)
        clear hK K
        refine norm_ (a' := ?_) ?_ ?_; rotate_left; (· show Act.put _ (some 26) _ = _; simp only [Act.put, List.setIfInBounds_toArray, List.set_cons_zero, List.set_cons_succ, i64_w, i32_w]; rfl)
        refine one_ (i := 8) (N := some 28) (bs 10 511) rfl rfl (by kernel_rfl) (by decide) (fun K hK => ?_)
        refine goes_ Try.func68 (by kernel_rfl) rfl #[.pointer (some ⟨g4, 0, none⟩), .pointer (some ⟨g5, 0, none⟩), .int .i64 h] (by rfl) rfl rfl (by simp only [List.map_toArray, List.map_cons, List.map_nil]; rfl) ?_
        with_reducible refine (rounded_n g4 g5 4 2 (n * s) d h w5 (hN4.below hb5) hN5 (by omega) hh2 (by decide)).mono ?_
        rintro e w6 ⟨g6, hg6, rfl, hb6, hN6⟩
        refine ⟨_, rfl, ?_⟩
        have hb46 := hb45.trans (hb6.mono hb45.size)
        refine hK.out _ _ ⟨pw_cell_below hb46 hc0, pw_cell_below hb46 hc1⟩ (fun hHeld => ?_)
        clear hK K
        refine norm_ (a' := ?_) ?_ ?_; rotate_left; (· show Act.put _ (some 28) _ = _; simp only [Act.put, List.setIfInBounds_toArray, List.set_cons_zero, List.set_cons_succ, i64_w, i32_w]; rfl)
        refine pure_ (i := 9) (N := some 8) (v := ?_) (a' := ?_) (bs 10 1023) rfl rfl (by kernel_rfl) (fun _ _ _ h => h) (Or.inl ⟨by rfl, ?_⟩) ?_ ?_; rotate_left; (· intro w'; go_simp; first | done | with_reducible rfl); rotate_left; (· simp only [Act.put, List.setIfInBounds_toArray, List.set_cons_zero, List.set_cons_succ, i64_w, i32_w]; rfl)
        refine done_ (by kernel_rfl) ?_
        rw [HQ.out.1] at hN6
        have HB6 := Aside0.mk (HB2.out.trans (hb46.mono HB2.out.size))
        have H6 := Aside0.mk hN6
        clear hN6 hb46 hb45 hb4 hb4' hb5 hb6 hN4 hN5 hc0 hc1 hbk2 HB2 hHeld
        go_wp2_with fail
        refine (newInt_n 1099511627776 w6 (by decide) (by decide)).mono ?_
        rintro e w7 ⟨g7, hg7, rfl, hb7, hN7⟩
        have HB7 := Aside0.mk (HB6.out.trans (hb7.mono HB6.out.size))
        have H7 := Aside0.mk (And.intro (H6.out.below hb7) hN7)
        clear hb7 hN7 HB6 H6
        go_wp2_with fail
        refine (cmpAbs_n g6 0 g7 0 q 1099511627776 _ _ w7 H7.out.1 H7.out.2 (by decide)).mono ?_
        rintro e w8 ⟨rfl, hb8⟩
        have HB8 := Aside0.mk (HB7.out.trans (hb8.mono HB7.out.size))
        have H8 := Aside0.mk (H7.out.1.below hb8)
        clear hb8 HB7 H7
        by_cases hbig : 1099511627776 < (q.natAbs : Int)
        · have e1 : big q = true := decide_eq_true hbig
          have e2 : cmpI (q.natAbs : Int) ((1099511627776 : Int).natAbs : Int) = 1 := by unfold cmpI; rw [if_neg (by simp; omega), if_pos (by simpa using hbig)]
          have HV := Aside0.mk (show V = .tuple #[.int .i64 0, .int .i64 2] by rw [HQ.out.2, e1]; rfl)
          rw [e2]
          clear e1 e2
          go_wp2_with fail
          go_ret2
          exact ⟨by rw [HV.out]; rfl, HB8.out⟩
        · have e1 : big q = false := decide_eq_false hbig
          have e2 : ∃ c : Int, c ≤ 0 ∧ cmpI (q.natAbs : Int) ((1099511627776 : Int).natAbs : Int) = c := by
            refine ⟨_, ?_, rfl⟩
            unfold cmpI
            split
            · decide
            · rw [if_neg (by simpa using hbig)]; decide
          obtain ⟨c, hc, e2⟩ := e2
          have HV := Aside0.mk (show V = .tuple #[.int .i64 q, .int .i64 0] by rw [HQ.out.2, e1]; rfl)
          rw [e2]
          clear e1 e2
          go_wp2_with fail
          refine (int64_n g6 0 q _ w8 H8.out (by omega) (by omega) (by decide)).mono ?_
          rintro e w9 ⟨rfl, hb9⟩
          go_wp2_with fail
          go_ret2
          exact ⟨by rw [HV.out]; rfl, HB8.out.trans (hb9.mono HB8.out.size)⟩
end Go.Proofs.Ytdginjpppgfdaaa.Eb

/-
  ExactRescales: for every input the law returns true. ExactRescales: any ticks as a time, and in another scale, are as the reference says. The reference's From, as a value of whole numbers. The reference's Time: a rational number in lowest terms. The reference's From, Ticks, Whole, Rescale, as values of whole numbers. The reference's rounded: a rational number at a scale, rounded in some way. Words for the walks of the reference: Valid, signs, two times boxed. Plain laws of the comparison of fractions.
-/
import Derived.Test.YtdginjpppgfdaaaKd
import Derived.Test.YtdginjpppgfdaaaKf
import Derived.Deep.DeepCutAuto
import Derived.Test.YtdginjpppgfdaaaKc
import Derived.Test.YtdginjpppgfdaaaRows
import Derived.WalkKit
import Derived.ProofKit
import Derived.OpenShut
import Derived.ChangeOld
import Derived.Below
import Derived.SizedLaws
import Derived.Carry
namespace Go.Proofs.Ytdginjpppgfdaaa.Lc
open Go.RowKit Go Go.Proofs.Ytdginjpppgfdaaa.Nd Go.Proofs.Ytdginjpppgfdaaa.Ea Go.Proofs.Ytdginjpppgfdaaa.Eb Go.Proofs.Ytdginjpppgfdaaa.Ee Go.Proofs.Ytdginjpppgfdaaa.Ra Go.Proofs.Ytdginjpppgfdaaa.Rb Go.Proofs.Ytdginjpppgfdaaa.Rc Go.Proofs.Ytdginjpppgfdaaa.Rd Go.Proofs.Ytdginjpppgfdaaa.Lb
set_option linter.unusedVariables false
set_option linter.unusedSimpArgs false

theorem cmpI_3 (x y : Int) : cmpI x y = -1 ∧ x < y ∨ cmpI x y = 0 ∧ x = y ∨ cmpI x y = 1 ∧ y < x := by
  unfold cmpI
  rcases Int.lt_trichotomy x y with h | h | h
  · exact .inl ⟨by rw [if_pos h], h⟩
  · exact .inr (.inl ⟨by rw [if_neg (by omega), if_neg (by omega)], h⟩)
  · exact .inr (.inr ⟨by rw [if_neg (by omega), if_pos h], h⟩)
theorem cmpI_of {x y c : Int} : cmpI x y = c ↔ (c = -1 ∧ x < y ∨ c = 0 ∧ x = y ∨ c = 1 ∧ y < x) := by
  rcases cmpI_3 x y with ⟨h, k⟩ | ⟨h, k⟩ | ⟨h, k⟩ <;> rw [h] <;> omega
theorem cmpI_swap (x y : Int) : cmpI y x = -cmpI x y := by
  rw [cmpI_of]
  rcases cmpI_3 x y with ⟨h, k⟩ | ⟨h, k⟩ | ⟨h, k⟩ <;> rw [h] <;> omega
theorem cmpI_le {x y : Int} : cmpI x y ≤ 0 ↔ x ≤ y := by rcases cmpI_3 x y with ⟨h, k⟩ | ⟨h, k⟩ | ⟨h, k⟩ <;> rw [h] <;> omega
theorem cmpI_lt {x y : Int} : cmpI x y < 0 ↔ x < y := by rcases cmpI_3 x y with ⟨h, k⟩ | ⟨h, k⟩ | ⟨h, k⟩ <;> rw [h] <;> omega
theorem cmpI_eq {x y : Int} : cmpI x y = 0 ↔ x = y := by rcases cmpI_3 x y with ⟨h, k⟩ | ⟨h, k⟩ | ⟨h, k⟩ <;> rw [h] <;> omega
theorem cmpI_pos {x y : Int} : 0 < cmpI x y ↔ y < x := by rcases cmpI_3 x y with ⟨h, k⟩ | ⟨h, k⟩ | ⟨h, k⟩ <;> rw [h] <;> omega
theorem cmpI_scale {x y u v M K : Int} (hM : 0 < M) (hK : 0 < K) (h : (x - y) * M = (u - v) * K) : cmpI x y = cmpI u v := by
  rw [cmpI_of]
  rcases cmpI_3 u v with ⟨e, k⟩ | ⟨e, k⟩ | ⟨e, k⟩ <;> rw [e]
  · left
    refine ⟨rfl, Int.lt_of_sub_neg (Int.lt_of_not_ge fun h0 => ?_)⟩
    have h1 := Int.mul_nonneg h0 (Int.le_of_lt hM)
    have h2 : (u - v) * K < 0 := Int.mul_neg_of_neg_of_pos (by omega) hK
    omega
  · right
    left
    refine ⟨rfl, ?_⟩
    subst k
    rw [Int.sub_self, Int.zero_mul] at h
    rcases Int.mul_eq_zero.1 h with h | h <;> omega
  · right
    right
    refine ⟨rfl, Int.lt_of_sub_pos (Int.lt_of_not_ge fun h0 => ?_)⟩
    have h1 : (x - y) * M ≤ 0 := Int.mul_nonpos_of_nonpos_of_nonneg h0 (Int.le_of_lt hM)
    have h2 : 0 < (u - v) * K := Int.mul_pos (by omega) hK
    omega
theorem vCmp_val {na da nb db : Int} (ha : valid na da = true) (hb : valid nb db = true) : vCmp na da nb db = .tuple #[.int .i64 (cmpI (na * db) (nb * da)), .int .i64 0] := by unfold vCmp; rw [ha, hb]; rfl
theorem vCmp_bad {na da nb db : Int} (h : (valid na da && valid nb db) = false) : vCmp na da nb db = .tuple #[.int .i64 0, .int .i64 4] := by unfold vCmp; rw [h]; rfl
theorem cmp_trans {na da nb db nc dc : Int} (ha : 1 ≤ da) (hb : 1 ≤ db) (hc : 1 ≤ dc) : ¬ (cmpI (na * db) (nb * da) ≤ 0 ∧ cmpI (nb * dc) (nc * db) ≤ 0 ∧ (0 < cmpI (na * dc) (nc * da) ∨ cmpI (na * dc) (nc * da) = 0 ∧ (cmpI (na * db) (nb * da) < 0 ∨ cmpI (nb * dc) (nc * db) < 0))) := by
  rw [cmpI_le, cmpI_le, cmpI_pos, cmpI_eq, cmpI_lt, cmpI_lt]
  have e3 : (na * dc - nc * da) * db = (na * db - nb * da) * dc + (nb * dc - nc * db) * da := by grind
  generalize hu : na * db - nb * da = u at *
  generalize hv : nb * dc - nc * db = v at *
  generalize ht : na * dc - nc * da = t at *
  rintro ⟨h1, h2, h3⟩
  have u0 : u * dc ≤ 0 := Int.mul_nonpos_of_nonpos_of_nonneg (by omega) (by omega)
  have v0 : v * da ≤ 0 := Int.mul_nonpos_of_nonpos_of_nonneg (by omega) (by omega)
  rcases h3 with h3 | ⟨h3, h4⟩
  · have : 0 < t * db := Int.mul_pos (by omega) (by omega)
    omega
  · have e0 : t = 0 := by omega
    rw [e0, Int.zero_mul] at e3
    rcases h4 with h4 | h4
    · have : u * dc < 0 := Int.mul_neg_of_neg_of_pos (by omega) (by omega)
      omega
    · have : v * da < 0 := Int.mul_neg_of_neg_of_pos (by omega) (by omega)
      omega
theorem cmp_sums {na da nb db nc dc N D N' D' : Int} (h1 : rAdd na da nc dc = (N, D, 0)) (h2 : rAdd nb db nc dc = (N', D', 0)) : vCmp N D N' D' = .tuple #[.int .i64 (cmpI (na * db) (nb * da)), .int .i64 0] := by
  obtain ⟨va, vc, v, e, _⟩ := rAdd_ok h1
  obtain ⟨vb, _, v', e', _⟩ := rAdd_ok h2
  have qa := valid_bd va
  have qb := valid_bd vb
  have qc := valid_bd vc
  have q := valid_bd v
  have q' := valid_bd v'
  rw [vCmp_val v v', cmpI_scale (u := na * db) (v := nb * da) (M := da * dc * (db * dc)) (K := D * D' * (dc * dc)) (Int.mul_pos (Int.mul_pos (by omega) (by omega)) (Int.mul_pos (by omega) (by omega))) (Int.mul_pos (Int.mul_pos (by omega) (by omega)) (Int.mul_pos (by omega) (by omega)))]
  clear h1 h2 va vb vc v v'
  grind
/-- Two ints, as a call of Cmp or Ticks answers them. -/
def PvP (w : World) (N E : Int) (e : Ending) (w' : World) : Prop := e = .returned (.tuple #[.int .i64 N, .int .i64 E]) ∧ Below w.heap.size w w'
theorem PvP.of {w : World} {v : Value} {N E : Int} {e : Ending} {w' : World} (h : ValP w v e w') (hv : v = .tuple #[.int .i64 N, .int .i64 E]) : PvP w N E e w' := by
  subst hv
  exact h
theorem CmpT_n {n1 d1 n2 d2 N E : Int} (h : vCmp n1 d1 n2 d2 = .tuple #[.int .i64 N, .int .i64 E]) (w : World) : Calls Try.prog 37 #[.agg #[.int .i64 n1, .int .i64 d1], .agg #[.int .i64 n2, .int .i64 d2]] w (PvP w N E) := (Cmp_n n1 d1 n2 d2 w).mono fun e w' hp => PvP.of hp h
end Go.Proofs.Ytdginjpppgfdaaa.Lc

namespace Go.Proofs.Ytdginjpppgfdaaa.Fx
open Go.RowKit Go Go.Proofs.YtdginjpppgfdaaaW.PrintWords Go.Proofs.YtdginjpppgfdaaaW.PrintLast Go.Proofs.YtdginjpppgfdaaaW.PrintMore Go.Proofs.Ytdginjpppgfdaaa.Ml Go.Proofs.Ytdginjpppgfdaaa.Mn Go.Proofs.Ytdginjpppgfdaaa.Nd Go.Proofs.Ytdginjpppgfdaaa.P Go.Proofs.Ytdginjpppgfdaaa.Nc Go.Proofs.Ytdginjpppgfdaaa.Nb Go.Proofs.Ytdginjpppgfdaaa.Ea Go.Proofs.Ytdginjpppgfdaaa.Eb Go.Proofs.Ytdginjpppgfdaaa.Ee Go.Proofs.Ytdginjpppgfdaaa.Fa Go.Proofs.Ytdginjpppgfdaaa.Fb
set_option linter.unusedVariables false
set_option linter.unusedSimpArgs false

set_option maxHeartbeats 2000000 in
set_option maxRecDepth 100000 in
theorem rValid_n (n d : Int) (w : World) : Calls Try.prog 25 #[tm n d] w (fun e w' => e = .returned (.bool (valid n d)) ∧ Below w.heap.size w w') := by
  have hu := Try.underlying25
  unfold tm
  go_enter Try.func25, Try.ntmps25
  go_wp2
  all_goals
    go_ret
    refine ⟨ret_b ?_, below_alloc (Below.refl _ _) _⟩
    unfold valid
    first | (simp_all; done) | (simp_all; omega) | grind
theorem sg_abs' (x : Int) : sg (decide (x < 0)) (x.natAbs : Int) = x := by
  by_cases h : x < 0
  · rw [decide_eq_true h]; simp [sg]; omega
  · rw [decide_eq_false h]; simp [sg]; omega
theorem sg_mul' (b : Bool) (x y : Int) : sg b (x * y) = sg b x * y := by cases b <;> simp [sg, Int.neg_mul]
theorem sg_not (b : Bool) (x : Int) : sg (!b) x = -sg b x := by cases b <;> simp [sg]
/-- Two times boxed, and room for the answer. -/
structure Bt (w W : World) (n1 d1 n2 d2 : Int) : Prop where
  a : W.heap[w.heap.size]? = some (timeObj n1 d1)
  b : W.heap[w.heap.size + 1]? = some (timeObj n2 d2)
  r : W.heap[w.heap.size + 1 + 1]? = some (timeObj 0 0)
  below : Below w.heap.size w W
theorem Bt.start (w : World) (n1 d1 n2 d2 : Int) : Bt w (((w.alloc (timeObj n1 d1)).alloc (timeObj n2 d2)).alloc (timeObj 0 0)) n1 d1 n2 d2 := by
  have e1 : (w.alloc (timeObj n1 d1)).heap.size = w.heap.size + 1 := by simp
  have e2 : ((w.alloc (timeObj n1 d1)).alloc (timeObj n2 d2)).heap.size = w.heap.size + 1 + 1 := by simp
  have k4 := blk_new ((w.alloc (timeObj n1 d1)).alloc (timeObj n2 d2)) (timeObj 0 0)
  have k2 := blk_new (w.alloc (timeObj n1 d1)) (timeObj n2 d2)
  have k1 := blk_new w (timeObj n1 d1)
  rw [e2] at k4
  rw [e1] at k2
  exact ⟨blk_alloc (blk_alloc k1 _) _, blk_alloc k2 _, k4, below_alloc (below_alloc (below_alloc (Below.refl _ w) _) _) _⟩
theorem Bt.step {w W W2 : World} {n1 d1 n2 d2 : Int} (h : Bt w W n1 d1 n2 d2) (hb : Below W.heap.size W W2) : Bt w W2 n1 d1 n2 d2 :=
  ⟨blk_below h.a hb, blk_below h.b hb, blk_below h.r hb, h.below.trans (hb.mono h.below.size)⟩
theorem Bt.cells {w W : World} {n1 d1 n2 d2 : Int} (h : Bt w W n1 d1 n2 d2) : W.cell? ⟨w.heap.size, 0, none⟩ = some (.int .i64 n1) ∧ W.cell? ⟨w.heap.size, 1, none⟩ = some (.int .i64 d1) ∧ W.cell? ⟨w.heap.size + 1, 0, none⟩ = some (.int .i64 n2) ∧ W.cell? ⟨w.heap.size + 1, 1, none⟩ = some (.int .i64 d2) := by
  obtain ⟨a0, a1, _, _⟩ := time_cells h.a
  obtain ⟨b0, b1, _, _⟩ := time_cells h.b
  exact ⟨a0, a1, b0, b1⟩
theorem Bt.top {w W : World} {n1 d1 n2 d2 : Int} (h : Bt w W n1 d1 n2 d2) : w.heap.size + 1 + 1 < W.heap.size := lt_of_some h.r
theorem D4.of {w : World} {a1 a2 b1 b2 : Value} {a da b db : Int} {n m : Nat} (h1 : Dec w a1 a n) (h2 : Dec w a2 da n) (h3 : Dec w b1 b m) (h4 : Dec w b2 db m) : D4 w a1 a2 b1 b2 a da b db n m := ⟨h1, h2, h3, h4⟩
end Go.Proofs.Ytdginjpppgfdaaa.Fx

namespace Go.Proofs.Ytdginjpppgfdaaa.Fh
open Go.RowKit Go Go.Proofs.YtdginjpppgfdaaaW.PrintWords Go.Proofs.YtdginjpppgfdaaaW.PrintLast Go.Proofs.YtdginjpppgfdaaaW.PrintMore Go.Proofs.Ytdginjpppgfdaaa.Ml Go.Proofs.Ytdginjpppgfdaaa.Mn Go.Proofs.Ytdginjpppgfdaaa.Nd Go.Proofs.Ytdginjpppgfdaaa.P Go.Proofs.Ytdginjpppgfdaaa.Nc Go.Proofs.Ytdginjpppgfdaaa.Nb Go.Proofs.Ytdginjpppgfdaaa.Ea Go.Proofs.Ytdginjpppgfdaaa.Eb Go.Proofs.Ytdginjpppgfdaaa.Ee Go.Proofs.Ytdginjpppgfdaaa.Fa Go.Proofs.Ytdginjpppgfdaaa.Fb Go.Proofs.Ytdginjpppgfdaaa.Fx
set_option linter.unusedVariables false
set_option linter.unusedSimpArgs false

def vRnd (h N d : Int) : Value := .tuple #[.int .i64 (if big (rnd h N d) then 0 else rnd h N d), .int .i64 (if big (rnd h N d) then 2 else 0)]
theorem dv_uniq {a b q r : Int} (hb : 0 < b) (h : a = q * b + r) (h0 : 0 ≤ r) (h1 : r < b) : a / b = q := by
  rw [h, Int.add_comm, Int.add_mul_ediv_right _ _ (by omega), Int.ediv_eq_zero_of_lt h0 h1]
  omega
/-- A magnitude rounded up or not. -/
def RV (neg : Bool) (x y h : Int) : Int := sg neg (x / y + if x % y ≠ 0 ∧ (neg != decide (h = 1)) = true then 1 else 0)
theorem fl_neg {x y : Int} (hy : 0 < y) (hx : 0 ≤ x) : (-x) / y = -(x / y + if x % y ≠ 0 then 1 else 0) := by
  have h1 := Int.mul_ediv_add_emod x y
  have h2 := Int.emod_nonneg x (show y ≠ 0 by omega)
  have h3 := Int.emod_lt_of_pos x hy
  generalize x / y = q at *
  generalize x % y = r at *
  by_cases h : r = 0
  · rw [if_neg (by simpa using h)]
    exact dv_uniq (r := 0) hy (by rw [← h1, h]; grind) (by omega) (by omega)
  · rw [if_pos h]
    exact dv_uniq (r := y - r) hy (by rw [← h1]; grind) (by omega) (by omega)
theorem cl_pos {x y : Int} (hy : 0 < y) : (x + y - 1) / y = x / y + if x % y ≠ 0 then 1 else 0 := by
  have h1 := Int.mul_ediv_add_emod x y
  have h2 := Int.emod_nonneg x (show y ≠ 0 by omega)
  have h3 := Int.emod_lt_of_pos x hy
  generalize x / y = q at *
  generalize x % y = r at *
  by_cases h : r = 0
  · rw [if_neg (by simpa using h)]
    exact dv_uniq (r := y - 1) hy (by rw [← h1, h]; grind) (by omega) (by omega)
  · rw [if_pos h]
    exact dv_uniq (r := r - 1) hy (by rw [← h1]; grind) (by omega) (by omega)
theorem RV_fl {neg : Bool} {x y h : Int} (hy : 0 < y) (hx : 0 ≤ x) (hh : h ≠ 1) : sg neg x / y = RV neg x y h := by
  unfold RV
  rw [decide_eq_false hh]
  cases neg
  · simp [sg]
  · simp only [sg, if_true, Bool.bne_false, and_true]
    exact fl_neg hy hx
theorem RV_cl {neg : Bool} {x y : Int} (hy : 0 < y) (hx : 0 ≤ x) : (sg neg x + y - 1) / y = RV neg x y 1 := by
  unfold RV
  cases neg
  · simp only [sg, Bool.false_eq_true, if_false]
    rw [cl_pos hy]
    simp
  · simp only [sg, if_true]
    rw [cl_pos (x := -x) hy, fl_neg hy hx]
    have e : (-x) % y ≠ 0 ↔ x % y ≠ 0 := by
      rw [ne_eq, ne_eq, ← Int.dvd_iff_emod_eq_zero, ← Int.dvd_iff_emod_eq_zero, Int.dvd_neg]
    by_cases h : x % y = 0
    · rw [if_neg (by simpa using h), if_neg (by rw [e]; simpa using h)]
      simp [h]
    · rw [if_pos h, if_pos (e.2 h)]
      simp
      omega
theorem rnd_rv {neg : Bool} {x y h : Int} (hy : 0 < y) (hx : 0 ≤ x) (hh : h = 0 ∨ h = 1) : rnd h (sg neg x) y = RV neg x y h := by
  rcases hh with rfl | rfl
  · exact RV_fl hy hx (by decide)
  · exact RV_cl hy hx
theorem rnd_rv2 {neg : Bool} {x y Q d : Int} (hy : 0 < y) (hx : 0 ≤ x) (h1 : sg neg x = Q * 2 + d) (h2 : y = d * 2) : rnd 2 Q d = RV neg x y 2 := by
  rw [← RV_fl hy hx (by decide), h1, h2]
  rfl
theorem _root_.Go.Proofs.Ytdginjpppgfdaaa.Fa.Dec.fill1 {w : World} {v : Value} {z : Int} {n : Nat} (h : Dec w v z n) {g : Nat} {b : Bool} {A1 A2 : Option Addr} {k1 c1 k2 c2 : Nat} (hg : w.heap[g]? = some (ratObj b (.slice A1 k1 c1) (.slice A2 k2 c2))) (u : Value) : Dec (w.setCell ⟨g, 0, none⟩ u) v z n := by
  refine Dec.step h (fun a x hc => ?_)
  by_cases e : a.block = g
  · exfalso
    unfold World.cell? at hc
    rw [e, hg] at hc
    simp only [ratObj] at hc
    by_cases hsp : a.spot.isSome
    · simp [hsp] at hc
    · rw [if_neg hsp] at hc
      match h0 : a.off with
      | 0 => rw [h0] at hc; simp at hc
      | 1 => rw [h0] at hc; simp at hc
      | 2 => rw [h0] at hc; simp at hc
      | k + 3 => rw [h0] at hc; simp at hc
  · rw [World.cell?_of_block (w := w) (Below.heap_setCell _ _ _ _ e)]
    exact hc
theorem big_sg {neg : Bool} {q : Int} (hq : 0 ≤ q) : big (sg neg q) = decide (1099511627776 < q) := by
  unfold big
  have : ((sg neg q).natAbs : Int) = q := by cases neg <;> simp [sg] <;> omega
  rw [this]
/-- What is known where the two ways meet. -/
structure Md (w w' : World) (A1 A2 : Option Addr) (k1 c1 k2 c2 : Nat) (h R : Int) (v8 v9 : Value) : Prop where mk ::
  at_ : ∃ neg A k c A' k' c' x y, v8 = .slice A k c ∧ v9 = .slice A' k' c' ∧ Dec w' (.slice A k c) x 50 ∧ Dec w' (.slice A' k' c') y 50 ∧ 1 ≤ y ∧ w'.heap[w.heap.size]? = some (ratObj neg (.slice A1 k1 c1) (.slice A2 k2 c2)) ∧ R = RV neg x y h
  b : Below w.heap.size w w'
structure Me (w w' : World) (A1 A2 : Option Addr) (k1 c1 k2 c2 : Nat) (R : Int) (v11 : Value) : Prop where mk ::
  at_ : ∃ neg A k c q, v11 = .slice A k c ∧ Dec w' (.slice A k c) q 60 ∧ w'.heap[w.heap.size]? = some (ratObj neg (.slice A1 k1 c1) (.slice A2 k2 c2)) ∧ R = sg neg q
  b : Below w.heap.size w w'
set_option maxHeartbeats 16000000 in
set_option maxRecDepth 100000 in
theorem rounded_n (neg : Bool) (A1 A2 : Option Addr) (k1 c1 k2 c2 : Nat) (a d s h : Int) (w : World) (h1 : Dec w (.slice A1 k1 c1) a 3) (h2 : Dec w (.slice A2 k2 c2) d 3) (hd : 1 ≤ d) (s0 : 0 ≤ s) (s1 : s ≤ 1000000) (hh : h = 0 ∨ h = 1 ∨ h = 2) :
    Calls Try.prog 53 #[.agg #[.bool neg, .slice A1 k1 c1, .slice A2 k2 c2], .int .i64 s, .int .i64 h] w (ValP w (vRnd h (sg neg (a * s)) d)) := by
  have hu := Try.underlying60
  have hbw : Below w.heap.size w (w.alloc (ratObj neg (.slice A1 k1 c1) (.slice A2 k2 c2))) := below_alloc (Below.refl _ w) _
  have g1 := blk_new w (ratObj neg (.slice A1 k1 c1) (.slice A2 k2 c2))
  have ha0 := h1.nonneg
  generalize hW : w.alloc (ratObj neg (.slice A1 k1 c1) (.slice A2 k2 c2)) = W at *
  have HW := Aside0.mk (And.intro hbw (And.intro g1 (And.intro (h1.below hbw) (h2.below hbw))))
  have hV : vRnd h (sg neg (a * s)) d = .tuple #[.int .i64 (if big (rnd h (sg neg (a * s)) d) then 0 else rnd h (sg neg (a * s)) d), .int .i64 (if big (rnd h (sg neg (a * s)) d) then 2 else 0)] := rfl
  generalize vRnd h (sg neg (a * s)) d = VV at *
  generalize hR : rnd h (sg neg (a * s)) d = R at *
  have HV := Aside0.mk (And.intro hV hR)
  have hx0 : 0 ≤ a * s := Int.mul_nonneg ha0 s0
  have HA := Aside0.mk (And.intro hx0 hd)
  clear hbw h1 h2 hV hR ha0 hx0 hd
  obtain ⟨x0, x1, x2, _⟩ := rat_cells g1
  clear g1
  go_enter Try.func53, Try.ntmps53
  go_wp2_with fail
  rw [show w.alloc (.cells #[.bool neg, .slice A1 k1 c1, .slice A2 k2 c2] 60) = W from hW]
  refine start_ (n := 9) (S := fun w' => w'.cell? ⟨w.heap.size, 0, none⟩ = some (.bool neg) ∧ w'.cell? ⟨w.heap.size, 1, none⟩ = some (.slice A1 k1 c1) ∧ w'.cell? ⟨w.heap.size, 2, none⟩ = some (.slice A2 k2 c2)) (ds := []) (bs 9 0) (by kernel_rfl) rfl rfl ⟨x0, x1, x2⟩ (fun hHeld => ?_)
  refine pure_ (i := 0) (N := some 16) (v := ?_) (a' := ?_) (bs 9 1) rfl rfl (by kernel_rfl) (fun _ _ _ h => h) (Or.inl ⟨by rfl, ?_⟩) ?_ ?_; rotate_left; (· intro w'; go_simp; first | done | with_reducible rfl); rotate_left; (· simp only [Act.put, List.setIfInBounds_toArray, List.set_cons_zero, List.set_cons_succ, i64_w, i32_w]; rfl)
  refine pure_ (i := 2) (N := some 18) (v := ?_) (a' := ?_) (bs 9 5) rfl rfl (by kernel_rfl) (fun _ _ _ h => h) (Or.inl ⟨by rfl, ?_⟩) ?_ ?_; rotate_left; (· intro w'; go_simp; first | done | with_reducible rfl); rotate_left; (· simp only [Act.put, List.setIfInBounds_toArray, List.set_cons_zero, List.set_cons_succ, i64_w, i32_w]; rfl)
  refine pure_ (i := 5) (N := some 21) (v := ?_) (a' := ?_) (bs 9 37) rfl rfl (by kernel_rfl) (fun _ _ _ h => h) (Or.inl ⟨by rfl, ?_⟩) ?_ ?_; rotate_left; (· intro w'; go_simp; first | done | with_reducible rfl); rotate_left; (· simp only [Act.put, List.setIfInBounds_toArray, List.set_cons_zero, List.set_cons_succ, i64_w, i32_w]; rfl)
  refine take_ (i := 1) (N := some 17) (v := ?_) (a' := ?_) (bs 9 39) rfl rfl (by kernel_rfl) (fun _ _ _ h => h) (Or.inl ⟨by rfl, ?_⟩) hHeld ?_ ?_; rotate_left; (· rintro w' ⟨s0, s1, s2⟩; go_simp; first | done | with_reducible rfl); rotate_left; (· simp only [Act.put, List.setIfInBounds_toArray, List.set_cons_zero, List.set_cons_succ, i64_w, i32_w]; rfl)
  refine take_ (i := 6) (N := some 22) (v := ?_) (a' := ?_) (bs 9 103) rfl rfl (by kernel_rfl) (fun _ _ _ h => h) (Or.inl ⟨by rfl, ?_⟩) hHeld ?_ ?_; rotate_left; (· rintro w' ⟨s0, s1, s2⟩; go_simp; first | done | with_reducible rfl); rotate_left; (· simp only [Act.put, List.setIfInBounds_toArray, List.set_cons_zero, List.set_cons_succ, i64_w, i32_w]; rfl)
  refine one_ (i := 3) (N := some 19) (bs 9 111) rfl rfl (by kernel_rfl) (by decide) (fun K hK => ?_)
  refine goes_ Try.func55 (by kernel_rfl) rfl #[.int .i64 s] (by rfl) rfl rfl (by simp only [List.map_toArray, List.map_cons, List.map_nil]; rfl) ?_
  with_reducible refine (ofD_n s W.drew s0 (by omega)).mono ?_
  rintro e w3 ⟨A3, k3, c3, rfl, hD3, hb3⟩
  refine ⟨_, rfl, ?_⟩
  have hb3' := below_drew' hb3
  refine hK.out _ _ ⟨pw_cell_below hb3' x0, pw_cell_below hb3' x1, pw_cell_below hb3' x2⟩ (fun hHeld => ?_)
  clear hK K
  refine norm_ (a' := ?_) ?_ ?_; rotate_left; (· show Act.put _ (some 19) _ = _; simp only [Act.put, List.setIfInBounds_toArray, List.set_cons_zero, List.set_cons_succ, i64_w, i32_w]; rfl)
  refine one_ (i := 4) (N := some 20) (bs 9 127) rfl rfl (by kernel_rfl) (by decide) (fun K hK => ?_)
  refine goes_ Try.func75 (by kernel_rfl) rfl #[.slice A1 k1 c1, .slice A3 k3 c3] (by rfl) rfl rfl (by simp only [List.map_toArray, List.map_cons, List.map_nil]; rfl) ?_
  with_reducible refine (timesD_n w3 (HW.out.2.2.1.below hb3') hD3 (by decide)).mono ?_
  rintro e w4 ⟨A4, k4, c4, rfl, hD4, hb4⟩
  refine ⟨_, rfl, ?_⟩
  have hb34 := hb3'.trans (hb4.mono hb3'.size)
  refine hK.out _ _ ⟨pw_cell_below hb34 x0, pw_cell_below hb34 x1, pw_cell_below hb34 x2⟩ (fun hHeld => ?_)
  clear hK K
  refine norm_ (a' := ?_) ?_ ?_; rotate_left; (· show Act.put _ (some 20) _ = _; simp only [Act.put, List.setIfInBounds_toArray, List.set_cons_zero, List.set_cons_succ, i64_w, i32_w]; rfl)
  refine pure_ (i := 7) (N := some 8) (v := ?_) (a' := ?_) (bs 9 255) rfl rfl (by kernel_rfl) (fun _ _ _ h => h) (Or.inl ⟨by rfl, ?_⟩) ?_ ?_; rotate_left; (· intro w'; go_simp; first | done | with_reducible rfl); rotate_left; (· simp only [Act.put, List.setIfInBounds_toArray, List.set_cons_zero, List.set_cons_succ, i64_w, i32_w]; rfl)
  refine pure_ (i := 8) (N := some 9) (v := ?_) (a' := ?_) (bs 9 511) rfl rfl (by kernel_rfl) (fun _ _ _ h => h) (Or.inl ⟨by rfl, ?_⟩) ?_ ?_; rotate_left; (· intro w'; go_simp; first | done | with_reducible rfl); rotate_left; (· simp only [Act.put, List.setIfInBounds_toArray, List.set_cons_zero, List.set_cons_succ, i64_w, i32_w]; rfl)
  refine done_ (by kernel_rfl) ?_
  have HX := Aside0.mk (And.intro hD4 (And.intro (HW.out.2.2.2.below hb34) (And.intro (blk_below HW.out.2.1 hb34) (HW.out.1.trans (hb34.mono HW.out.1.size)))))
  clear hD3 hD4 hb3 hb3' hb4 hb34 x0 x1 x2 hHeld HW
  go_upto_if 24 with fail
  go_cut [8, 9] (fun v8 v9 w' => Aside0 (Md w w' A1 A2 k1 c1 k2 c2 h R v8 v9))
  case first =>
    by_cases h2 : h = 2
    · subst h2
      obtain ⟨x0, x1, x2, _⟩ := rat_cells HX.out.2.2.1
      have hN1 := HX.out.1.mono (show 6 ≤ 10 by decide)
      have hN2 := HX.out.2.1.mono (show 3 ≤ 10 by decide)
      have HN := Aside0.mk (And.intro hN1 hN2)
      clear hN1 hN2
      go_wp2_with fail
      refine start_ (n := 11) (S := fun w' => w'.cell? ⟨w.heap.size, 0, none⟩ = some (.bool neg)) (ds := [10]) (bs 11 0) (by kernel_rfl) rfl rfl x0 (fun hHeld => ?_)
      refine pure_ (i := 0) (N := some 25) (v := ?_) (a' := ?_) (bs 11 1) rfl rfl (by kernel_rfl) (fun _ _ _ h => h) (Or.inl ⟨by rfl, ?_⟩) ?_ ?_; rotate_left; (· intro w'; go_simp; first | done | with_reducible rfl); rotate_left; (· simp only [Act.put, List.setIfInBounds_toArray, List.set_cons_zero, List.set_cons_succ, i64_w, i32_w]; rfl)
      refine pure_ (i := 2) (N := some 27) (v := ?_) (a' := ?_) (bs 11 5) rfl rfl (by kernel_rfl) (fun _ _ _ h => h) (Or.inl ⟨by rfl, ?_⟩) ?_ ?_; rotate_left; (· intro w'; go_simp; first | done | with_reducible rfl); rotate_left; (· simp only [Act.put, List.setIfInBounds_toArray, List.set_cons_zero, List.set_cons_succ, i64_w, i32_w]; rfl)
      refine pure_ (i := 3) (N := some 28) (v := ?_) (a' := ?_) (bs 11 13) rfl rfl (by kernel_rfl) (fun _ _ _ h => h) (Or.inl ⟨by rfl, ?_⟩) ?_ ?_; rotate_left; (· intro w'; go_simp; first | done | with_reducible rfl); rotate_left; (· simp only [Act.put, List.setIfInBounds_toArray, List.set_cons_zero, List.set_cons_succ, i64_w, i32_w]; rfl)
      refine take_ (i := 1) (N := some 26) (v := ?_) (a' := ?_) (bs 11 15) rfl rfl (by kernel_rfl) (fun _ _ _ h => h) (Or.inl ⟨by rfl, ?_⟩) hHeld ?_ ?_; rotate_left; (· intro w' s0; go_simp; first | done | with_reducible rfl); rotate_left; (· simp only [Act.put, List.setIfInBounds_toArray, List.set_cons_zero, List.set_cons_succ, i64_w, i32_w]; rfl)
      refine pure_ (i := 4) (N := some 29) (v := ?_) (a' := ?_) (bs 11 31) rfl rfl (by kernel_rfl) (fun _ _ _ h => h) (Or.inl ⟨by rfl, ?_⟩) ?_ ?_; rotate_left; (· intro w'; go_simp; first | done | with_reducible rfl); rotate_left; (· simp only [Act.put, List.setIfInBounds_toArray, List.set_cons_zero, List.set_cons_succ, i64_w, i32_w]; rfl)
      refine join_ (σ := Option Addr × Nat × Nat × Option Addr × Nat × Nat × Bool × Option Addr × Nat × Nat × Option Addr × Nat × Nat × Int × Nat) 1 (bs 11 1023) (fun ⟨A5, k5, c5, A6, k6, c6, ng, A8, k8, c8, A9, k9, c9, x8, g9⟩ => [(30, .slice A5 k5 c5), (31, .slice A6 k6 c6), (32, .agg #[.bool false, .slice A5 k5 c5, .slice A6 k6 c6]), (33, .agg #[.bool ng, .slice A8 k8 c8, .slice A9 k9 c9]), (10, .pointer (some ⟨g9, 0, none⟩))]) (fun ⟨A5, k5, c5, A6, k6, c6, ng, A8, k8, c8, A9, k9, c9, x8, g9⟩ w' => Below w4.heap.size w4 w' ∧ (Dec w' (.slice A5 k5 c5) 1 3) ∧ (Dec w' (.slice A6 k6 c6) 2 3) ∧ (Dec w' (.slice A8 k8 c8) x8 27 ∧ Dec w' (.slice A9 k9 c9) (d * 2) 27 ∧ sg ng x8 = sg neg (a * s * 2) + sg false (1 * d)) ∧ (w4.heap.size ≤ g9 ∧ w'.heap[g9]? = some (.cells #[.bool false, .slice none 0 0, .slice none 0 0] 60))) ?_ (fun hq_5_6_7_8_9 => ?_)
      rotate_left
      ·
        refine join_ (σ := Option Addr × Nat × Nat × Option Addr × Nat × Nat × Bool × Option Addr × Nat × Nat × Option Addr × Nat × Nat × Int × Nat) 2 (bs 11 767) (fun ⟨A5, k5, c5, A6, k6, c6, _, _, _, _, _, _, _, _, g9⟩ => [(30, .slice A5 k5 c5), (31, .slice A6 k6 c6), (32, .agg #[.bool false, .slice A5 k5 c5, .slice A6 k6 c6]), (10, .pointer (some ⟨g9, 0, none⟩))]) (fun ⟨A5, k5, c5, A6, k6, c6, _, _, _, _, _, _, _, _, g9⟩ w' => Below w4.heap.size w4 w' ∧ (Dec w' (.slice A5 k5 c5) 1 3) ∧ (Dec w' (.slice A6 k6 c6) 2 3) ∧ (w4.heap.size ≤ g9 ∧ w'.heap[g9]? = some (.cells #[.bool false, .slice none 0 0, .slice none 0 0] 60))) ?_ (fun hq_5_6_7_9 => ?_)
        · rintro ⟨A5, k5, c5, A6, k6, c6, ng, A8, k8, c8, A9, k9, c9, x8, g9⟩ w' ⟨hB, f5, f6, f9⟩
          refine norm_ (a' := ?_) ?_ ?_; rotate_left; (· simp only [putAll, Act.put, List.setIfInBounds_toArray, List.set_cons_zero, List.set_cons_succ, i64_w, i32_w]; rfl)
          refine one_ (i := 8) (N := some 33) (bs 11 1023) rfl rfl (by kernel_rfl) (by decide) (fun K hK => ?_)
          ·
            refine goes_ Try.func58 (by kernel_rfl) rfl #[.agg #[.bool neg, .slice A4 k4 c4, .slice A2 k2 c2], .agg #[.bool false, .slice A5 k5 c5, .slice A6 k6 c6]] (by rfl) rfl rfl (by simp only [List.map_toArray, List.map_cons, List.map_nil]; rfl) ?_
            with_reducible refine (sumR_n neg false A4 A2 A5 A6 k4 c4 k2 c2 k5 c5 k6 c6 (a * s) d 1 2 10 3 w' (D4.of (HN.out.1.below hB) (HN.out.2.below hB) f5 f6) (by decide)).mono ?_
            rintro e w9 ⟨ng, A8, k8, c8, A9, k9, c9, x8, rfl, n8a, n8b, n8c, hb9⟩
            refine ⟨_, rfl, ?_⟩
            have hB9 := hB.trans (hb9.mono hB.size)
            refine hK.out _ _ (pw_cell_below hB9 x0) (fun hHeld => ?_)
            clear hK K
            refine norm_ ?_ (hq_5_6_7_8_9 ⟨A5, k5, c5, A6, k6, c6, ng, A8, k8, c8, A9, k9, c9, x8, g9⟩ _ ⟨hB9, f5.below hb9, f6.below hb9, ⟨n8a, n8b, n8c⟩, ⟨f9.1, blk_below f9.2 hb9⟩⟩); (· simp only [putAll, Act.put, List.setIfInBounds_toArray, List.set_cons_zero, List.set_cons_succ, i64_w, i32_w])
        refine join_ (σ := Option Addr × Nat × Nat × Option Addr × Nat × Nat × Bool × Option Addr × Nat × Nat × Option Addr × Nat × Nat × Int × Nat) 2 (bs 11 511) (fun ⟨A5, k5, c5, A6, k6, c6, ng, A8, k8, c8, A9, k9, c9, x8, _⟩ => [(30, .slice A5 k5 c5), (31, .slice A6 k6 c6), (32, .agg #[.bool false, .slice A5 k5 c5, .slice A6 k6 c6]), (33, .agg #[.bool ng, .slice A8 k8 c8, .slice A9 k9 c9])]) (fun ⟨A5, k5, c5, A6, k6, c6, ng, A8, k8, c8, A9, k9, c9, x8, _⟩ w' => Below w4.heap.size w4 w' ∧ (Dec w' (.slice A5 k5 c5) 1 3) ∧ (Dec w' (.slice A6 k6 c6) 2 3) ∧ (Dec w' (.slice A8 k8 c8) x8 27 ∧ Dec w' (.slice A9 k9 c9) (d * 2) 27 ∧ sg ng x8 = sg neg (a * s * 2) + sg false (1 * d))) ?_ (fun hq_5_6_7_8 => ?_)
        · rintro ⟨A5, k5, c5, A6, k6, c6, ng, A8, k8, c8, A9, k9, c9, x8, g9⟩ w' ⟨hB, f5, f6, f8⟩
          refine norm_ (a' := ?_) ?_ ?_; rotate_left; (· simp only [putAll, Act.put, List.setIfInBounds_toArray, List.set_cons_zero, List.set_cons_succ, i64_w, i32_w]; rfl)
          refine one_ (i := 9) (N := some 10) (bs 11 1023) rfl rfl (by kernel_rfl) (by decide) (fun K hK => ?_)
          ·
            refine value_ (v := .pointer (some ⟨w'.heap.size, 0, none⟩)) (w1 := w'.alloc (.cells #[.bool false, .slice none 0 0, .slice none 0 0] 60)) (by rfl) rfl ?_ ?_
            · go_simp
            have hb9 : Below w'.heap.size w' (w'.alloc (.cells #[.bool false, .slice none 0 0, .slice none 0 0] 60)) := below_alloc (Below.refl _ _) _
            have n9 := blk_new w' (.cells #[.bool false, .slice none 0 0, .slice none 0 0] 60)
            have hB9 := hB.trans (hb9.mono hB.size)
            refine hK.out _ _ (pw_cell_below hB9 x0) (fun hHeld => ?_)
            clear hK K
            refine norm_ ?_ (hq_5_6_7_8_9 ⟨A5, k5, c5, A6, k6, c6, ng, A8, k8, c8, A9, k9, c9, x8, w'.heap.size⟩ _ ⟨hB9, f5.below hb9, f6.below hb9, ⟨f8.1.below hb9, f8.2.1.below hb9, f8.2.2⟩, ⟨hB.size, n9⟩⟩); (· simp only [putAll, Act.put, List.setIfInBounds_toArray, List.set_cons_zero, List.set_cons_succ, i64_w, i32_w])
        refine join_ (σ := Option Addr × Nat × Nat × Option Addr × Nat × Nat × Bool × Option Addr × Nat × Nat × Option Addr × Nat × Nat × Int × Nat) 3 (bs 11 255) (fun ⟨A5, k5, c5, A6, k6, c6, _, _, _, _, _, _, _, _, _⟩ => [(30, .slice A5 k5 c5), (31, .slice A6 k6 c6), (32, .agg #[.bool false, .slice A5 k5 c5, .slice A6 k6 c6])]) (fun ⟨A5, k5, c5, A6, k6, c6, _, _, _, _, _, _, _, _, _⟩ w' => Below w4.heap.size w4 w' ∧ (Dec w' (.slice A5 k5 c5) 1 3) ∧ (Dec w' (.slice A6 k6 c6) 2 3)) ?_ (fun hq_5_6_7 => ?_)
        · rintro ⟨A5, k5, c5, A6, k6, c6, ng, A8, k8, c8, A9, k9, c9, x8, g9⟩ w' ⟨hB, f5, f6⟩
          refine norm_ (a' := ?_) ?_ ?_; rotate_left; (· simp only [putAll, Act.put, List.setIfInBounds_toArray, List.set_cons_zero, List.set_cons_succ, i64_w, i32_w]; rfl)
          refine two_ (i := 8) (j := 9) (Ni := some 33) (Nj := some 10) (bs 11 511) (bs 11 767) rfl rfl rfl rfl (by kernel_rfl) (by decide) (by decide) (fun K hK => ?_) (fun K hK => ?_)
          ·
            refine goes_ Try.func58 (by kernel_rfl) rfl #[.agg #[.bool neg, .slice A4 k4 c4, .slice A2 k2 c2], .agg #[.bool false, .slice A5 k5 c5, .slice A6 k6 c6]] (by rfl) rfl rfl (by simp only [List.map_toArray, List.map_cons, List.map_nil]; rfl) ?_
            with_reducible refine (sumR_n neg false A4 A2 A5 A6 k4 c4 k2 c2 k5 c5 k6 c6 (a * s) d 1 2 10 3 w' (D4.of (HN.out.1.below hB) (HN.out.2.below hB) f5 f6) (by decide)).mono ?_
            rintro e w9 ⟨ng, A8, k8, c8, A9, k9, c9, x8, rfl, n8a, n8b, n8c, hb9⟩
            refine ⟨_, rfl, ?_⟩
            have hB9 := hB.trans (hb9.mono hB.size)
            refine hK.out _ _ (pw_cell_below hB9 x0) (fun hHeld => ?_)
            clear hK K
            refine norm_ ?_ (hq_5_6_7_8 ⟨A5, k5, c5, A6, k6, c6, ng, A8, k8, c8, A9, k9, c9, x8, 0⟩ _ ⟨hB9, f5.below hb9, f6.below hb9, ⟨n8a, n8b, n8c⟩⟩); (· simp only [putAll, Act.put, List.setIfInBounds_toArray, List.set_cons_zero, List.set_cons_succ, i64_w, i32_w])
          ·
            refine value_ (v := .pointer (some ⟨w'.heap.size, 0, none⟩)) (w1 := w'.alloc (.cells #[.bool false, .slice none 0 0, .slice none 0 0] 60)) (by rfl) rfl ?_ ?_
            · go_simp
            have hb9 : Below w'.heap.size w' (w'.alloc (.cells #[.bool false, .slice none 0 0, .slice none 0 0] 60)) := below_alloc (Below.refl _ _) _
            have n9 := blk_new w' (.cells #[.bool false, .slice none 0 0, .slice none 0 0] 60)
            have hB9 := hB.trans (hb9.mono hB.size)
            refine hK.out _ _ (pw_cell_below hB9 x0) (fun hHeld => ?_)
            clear hK K
            refine norm_ ?_ (hq_5_6_7_9 ⟨A5, k5, c5, A6, k6, c6, false, none, 0, 0, none, 0, 0, 0, w'.heap.size⟩ _ ⟨hB9, f5.below hb9, f6.below hb9, ⟨hB.size, n9⟩⟩); (· simp only [putAll, Act.put, List.setIfInBounds_toArray, List.set_cons_zero, List.set_cons_succ, i64_w, i32_w])
        refine join_ (σ := Option Addr × Nat × Nat × Option Addr × Nat × Nat × Bool × Option Addr × Nat × Nat × Option Addr × Nat × Nat × Int × Nat) 4 (bs 11 575) (fun ⟨A5, k5, c5, _, _, _, _, _, _, _, _, _, _, _, g9⟩ => [(30, .slice A5 k5 c5), (10, .pointer (some ⟨g9, 0, none⟩))]) (fun ⟨A5, k5, c5, _, _, _, _, _, _, _, _, _, _, _, g9⟩ w' => Below w4.heap.size w4 w' ∧ (Dec w' (.slice A5 k5 c5) 1 3) ∧ (w4.heap.size ≤ g9 ∧ w'.heap[g9]? = some (.cells #[.bool false, .slice none 0 0, .slice none 0 0] 60))) ?_ (fun hq_5_9 => ?_)
        · rintro ⟨A5, k5, c5, A6, k6, c6, ng, A8, k8, c8, A9, k9, c9, x8, g9⟩ w' ⟨hB, f5, f9⟩
          refine norm_ (a' := ?_) ?_ ?_; rotate_left; (· simp only [putAll, Act.put, List.setIfInBounds_toArray, List.set_cons_zero, List.set_cons_succ, i64_w, i32_w]; rfl)
          refine one_ (i := 6) (N := some 31) (bs 11 639) rfl rfl (by kernel_rfl) (by decide) (fun K hK => ?_)
          ·
            refine goes_ Try.func55 (by kernel_rfl) rfl #[.int .i64 2] (by rfl) rfl rfl (by simp only [List.map_toArray, List.map_cons, List.map_nil]; rfl) ?_
            with_reducible refine (ofD_n 2 w' (by decide) (by decide)).mono ?_
            rintro e w9 ⟨A6, k6, c6, rfl, n6, hb9⟩
            refine ⟨_, rfl, ?_⟩
            have hB9 := hB.trans (hb9.mono hB.size)
            refine hK.out _ _ (pw_cell_below hB9 x0) (fun hHeld => ?_)
            clear hK K
            refine norm_ (a' := ?_) ?_ ?_; rotate_left; (· show Act.put _ (some 31) _ = _; simp only [putAll, Act.put, List.setIfInBounds_toArray, List.set_cons_zero, List.set_cons_succ, i64_w, i32_w]; rfl)
            refine pure_ (i := 7) (N := some 32) (v := ?_) (a' := ?_) (bs 11 767) rfl rfl (by kernel_rfl) (fun _ _ _ h => h) (Or.inl ⟨by rfl, ?_⟩) ?_ ?_; rotate_left; (· intro w'; go_simp; first | done | with_reducible rfl); rotate_left; (· simp only [Act.put, List.setIfInBounds_toArray, List.set_cons_zero, List.set_cons_succ, i64_w, i32_w]; rfl)
            refine norm_ ?_ (hq_5_6_7_9 ⟨A5, k5, c5, A6, k6, c6, false, none, 0, 0, none, 0, 0, 0, g9⟩ _ ⟨hB9, f5.below hb9, n6, ⟨f9.1, blk_below f9.2 hb9⟩⟩); (· simp only [putAll, Act.put, List.setIfInBounds_toArray, List.set_cons_zero, List.set_cons_succ, i64_w, i32_w])
        refine join_ (σ := Option Addr × Nat × Nat × Option Addr × Nat × Nat × Bool × Option Addr × Nat × Nat × Option Addr × Nat × Nat × Int × Nat) 5 (bs 11 63) (fun ⟨A5, k5, c5, _, _, _, _, _, _, _, _, _, _, _, _⟩ => [(30, .slice A5 k5 c5)]) (fun ⟨A5, k5, c5, _, _, _, _, _, _, _, _, _, _, _, _⟩ w' => Below w4.heap.size w4 w' ∧ (Dec w' (.slice A5 k5 c5) 1 3)) ?_ (fun hq_5 => ?_)
        · rintro ⟨A5, k5, c5, A6, k6, c6, ng, A8, k8, c8, A9, k9, c9, x8, g9⟩ w' ⟨hB, f5⟩
          refine norm_ (a' := ?_) ?_ ?_; rotate_left; (· simp only [putAll, Act.put, List.setIfInBounds_toArray, List.set_cons_zero, List.set_cons_succ, i64_w, i32_w]; rfl)
          refine two_ (i := 6) (j := 9) (Ni := some 31) (Nj := some 10) (bs 11 127) (bs 11 575) rfl rfl rfl rfl (by kernel_rfl) (by decide) (by decide) (fun K hK => ?_) (fun K hK => ?_)
          ·
            refine goes_ Try.func55 (by kernel_rfl) rfl #[.int .i64 2] (by rfl) rfl rfl (by simp only [List.map_toArray, List.map_cons, List.map_nil]; rfl) ?_
            with_reducible refine (ofD_n 2 w' (by decide) (by decide)).mono ?_
            rintro e w9 ⟨A6, k6, c6, rfl, n6, hb9⟩
            refine ⟨_, rfl, ?_⟩
            have hB9 := hB.trans (hb9.mono hB.size)
            refine hK.out _ _ (pw_cell_below hB9 x0) (fun hHeld => ?_)
            clear hK K
            refine norm_ (a' := ?_) ?_ ?_; rotate_left; (· show Act.put _ (some 31) _ = _; simp only [putAll, Act.put, List.setIfInBounds_toArray, List.set_cons_zero, List.set_cons_succ, i64_w, i32_w]; rfl)
            refine pure_ (i := 7) (N := some 32) (v := ?_) (a' := ?_) (bs 11 255) rfl rfl (by kernel_rfl) (fun _ _ _ h => h) (Or.inl ⟨by rfl, ?_⟩) ?_ ?_; rotate_left; (· intro w'; go_simp; first | done | with_reducible rfl); rotate_left; (· simp only [Act.put, List.setIfInBounds_toArray, List.set_cons_zero, List.set_cons_succ, i64_w, i32_w]; rfl)
            refine norm_ ?_ (hq_5_6_7 ⟨A5, k5, c5, A6, k6, c6, false, none, 0, 0, none, 0, 0, 0, 0⟩ _ ⟨hB9, f5.below hb9, n6⟩); (· simp only [putAll, Act.put, List.setIfInBounds_toArray, List.set_cons_zero, List.set_cons_succ, i64_w, i32_w])
          ·
            refine value_ (v := .pointer (some ⟨w'.heap.size, 0, none⟩)) (w1 := w'.alloc (.cells #[.bool false, .slice none 0 0, .slice none 0 0] 60)) (by rfl) rfl ?_ ?_
            · go_simp
            have hb9 : Below w'.heap.size w' (w'.alloc (.cells #[.bool false, .slice none 0 0, .slice none 0 0] 60)) := below_alloc (Below.refl _ _) _
            have n9 := blk_new w' (.cells #[.bool false, .slice none 0 0, .slice none 0 0] 60)
            have hB9 := hB.trans (hb9.mono hB.size)
            refine hK.out _ _ (pw_cell_below hB9 x0) (fun hHeld => ?_)
            clear hK K
            refine norm_ ?_ (hq_5_9 ⟨A5, k5, c5, none, 0, 0, false, none, 0, 0, none, 0, 0, 0, w'.heap.size⟩ _ ⟨hB9, f5.below hb9, ⟨hB.size, n9⟩⟩); (· simp only [putAll, Act.put, List.setIfInBounds_toArray, List.set_cons_zero, List.set_cons_succ, i64_w, i32_w])
        refine join_ (σ := Option Addr × Nat × Nat × Option Addr × Nat × Nat × Bool × Option Addr × Nat × Nat × Option Addr × Nat × Nat × Int × Nat) 5 (bs 11 543) (fun ⟨_, _, _, _, _, _, _, _, _, _, _, _, _, _, g9⟩ => [(10, .pointer (some ⟨g9, 0, none⟩))]) (fun ⟨_, _, _, _, _, _, _, _, _, _, _, _, _, _, g9⟩ w' => Below w4.heap.size w4 w' ∧ (w4.heap.size ≤ g9 ∧ w'.heap[g9]? = some (.cells #[.bool false, .slice none 0 0, .slice none 0 0] 60))) ?_ (fun hq_9 => ?_)
        · rintro ⟨A5, k5, c5, A6, k6, c6, ng, A8, k8, c8, A9, k9, c9, x8, g9⟩ w' ⟨hB, f9⟩
          refine norm_ (a' := ?_) ?_ ?_; rotate_left; (· simp only [putAll, Act.put, List.setIfInBounds_toArray, List.set_cons_zero, List.set_cons_succ, i64_w, i32_w]; rfl)
          refine one_ (i := 5) (N := some 30) (bs 11 575) rfl rfl (by kernel_rfl) (by decide) (fun K hK => ?_)
          ·
            refine goes_ Try.func55 (by kernel_rfl) rfl #[.int .i64 1] (by rfl) rfl rfl (by simp only [List.map_toArray, List.map_cons, List.map_nil]; rfl) ?_
            with_reducible refine (ofD_n 1 w' (by decide) (by decide)).mono ?_
            rintro e w9 ⟨A5, k5, c5, rfl, n5, hb9⟩
            refine ⟨_, rfl, ?_⟩
            have hB9 := hB.trans (hb9.mono hB.size)
            refine hK.out _ _ (pw_cell_below hB9 x0) (fun hHeld => ?_)
            clear hK K
            refine norm_ ?_ (hq_5_9 ⟨A5, k5, c5, none, 0, 0, false, none, 0, 0, none, 0, 0, 0, g9⟩ _ ⟨hB9, n5, ⟨f9.1, blk_below f9.2 hb9⟩⟩); (· simp only [putAll, Act.put, List.setIfInBounds_toArray, List.set_cons_zero, List.set_cons_succ, i64_w, i32_w])
        have hB := below_drew' (Below.refl _ w4.drew)
        refine two_ (i := 5) (j := 9) (Ni := some 30) (Nj := some 10) (bs 11 63) (bs 11 543) rfl rfl rfl rfl (by kernel_rfl) (by decide) (by decide) (fun K hK => ?_) (fun K hK => ?_)
        ·
          refine goes_ Try.func55 (by kernel_rfl) rfl #[.int .i64 1] (by rfl) rfl rfl (by simp only [List.map_toArray, List.map_cons, List.map_nil]; rfl) ?_
          with_reducible refine (ofD_n 1 w4.drew (by decide) (by decide)).mono ?_
          rintro e w9 ⟨A5, k5, c5, rfl, n5, hb9⟩
          refine ⟨_, rfl, ?_⟩
          have hB9 := hB.trans (hb9.mono hB.size)
          refine hK.out _ _ (pw_cell_below hB9 x0) (fun hHeld => ?_)
          clear hK K
          refine norm_ ?_ (hq_5 ⟨A5, k5, c5, none, 0, 0, false, none, 0, 0, none, 0, 0, 0, 0⟩ _ ⟨hB9, n5⟩); (· simp only [putAll, Act.put, List.setIfInBounds_toArray, List.set_cons_zero, List.set_cons_succ, i64_w, i32_w])
        ·
          refine value_ (v := .pointer (some ⟨w4.drew.heap.size, 0, none⟩)) (w1 := w4.drew.alloc (.cells #[.bool false, .slice none 0 0, .slice none 0 0] 60)) (by rfl) rfl ?_ ?_
          · go_simp
          have hb9 : Below w4.drew.heap.size w4.drew (w4.drew.alloc (.cells #[.bool false, .slice none 0 0, .slice none 0 0] 60)) := below_alloc (Below.refl _ _) _
          have n9 := blk_new w4.drew (.cells #[.bool false, .slice none 0 0, .slice none 0 0] 60)
          have hB9 := hB.trans (hb9.mono hB.size)
          refine hK.out _ _ (pw_cell_below hB9 x0) (fun hHeld => ?_)
          clear hK K
          refine norm_ ?_ (hq_9 ⟨none, 0, 0, none, 0, 0, false, none, 0, 0, none, 0, 0, 0, w4.drew.heap.size⟩ _ ⟨hB9, ⟨hB.size, n9⟩⟩); (· simp only [putAll, Act.put, List.setIfInBounds_toArray, List.set_cons_zero, List.set_cons_succ, i64_w, i32_w])
      rintro ⟨A5, k5, c5, A6, k6, c6, ng, A8, k8, c8, A9, k9, c9, x8, g9⟩ w' ⟨hB, f5, f6, f8, f9⟩
      refine norm_ (a' := ?_) ?_ ?_; rotate_left; (· simp only [putAll, Act.put, List.setIfInBounds_toArray, List.set_cons_zero, List.set_cons_succ, i64_w, i32_w]; rfl)
      have hHeld : w'.cell? ⟨w.heap.size, 0, none⟩ = some (.bool neg) := (pw_cell_below hB x0)
      refine last_ (i := 10) (N := none) (bs 11 2047) rfl rfl (by kernel_rfl) (by decide) (fun K hK => ?_)
      obtain ⟨r0, r1, r2, r3, r4, r5⟩ := rat_cells f9.2
      refine skip_ (w1 := ?_) (by rfl) rfl ?_ ?_
      rotate_left
      · (go_simp; with_reducible rfl)
      refine hK.out _ _ ?_
      clear hK K
      refine done_ (by kernel_rfl) ?_
      have hne : g9 ≠ w.heap.size := by have := lt_of_some HX.out.2.2.1; have := f9.1; omega
      have hfw := blk_three (x := .bool ng) (y := .slice A8 k8 c8) (z := .slice A9 k9 c9) f9.2
      have hbF : Below w4.heap.size w4 (fill3 w' g9 ng (.slice A8 k8 c8) (.slice A9 k9 c9)) := fill3_below hB f9.1 _ _ _
      have hd8 := f8.1.fill f9.2 ng (.slice A8 k8 c8) (.slice A9 k9 c9)
      have hd9 := f8.2.1.fill f9.2 ng (.slice A8 k8 c8) (.slice A9 k9 c9)
      generalize hFW : fill3 w' g9 ng (.slice A8 k8 c8) (.slice A9 k9 c9) = FW at *
      unfold fill3 at hFW
      rw [hFW]
      rw [show ((w'.setCell ⟨g9, 0, none⟩ (.bool ng)).setCell ⟨g9, 1, none⟩ (.slice A8 k8 c8)).setCell ⟨g9, 2, none⟩ (.slice A9 k9 c9) = FW from hFW] at hfw
      have hq := blk_below HX.out.2.2.1 hbF
      have HF := Aside0.mk (And.intro (And.intro hfw hq) (And.intro (And.intro hd8 hd9) (And.intro (HX.out.2.2.2.trans (hbF.mono HX.out.2.2.2.size)) f8.2.2)))
      clear hFW hbF hd8 hd9 hB f5 f6 f8 f9 x0 x1 x2 hHeld HN
      obtain ⟨y0, y1, y2, y3, y4, y5⟩ := rat_cells hfw
      obtain ⟨x0, x1, x2, x3, x4, x5⟩ := rat_cells hq
      clear hfw hq
      go_wp2_with fail
      refine start_ (n := 10) (S := fun w' => w'.cell? ⟨g9, 0, none⟩ = some (.bool ng) ∧ w'.cell? ⟨g9, 1, none⟩ = some (.slice A8 k8 c8) ∧ w'.cell? ⟨g9, 2, none⟩ = some (.slice A9 k9 c9)) (ds := []) (bs 10 0) (by kernel_rfl) rfl rfl ⟨y0, y1, y2⟩ (fun hHeld => ?_)
      refine pure_ (i := 0) (N := some 34) (v := ?_) (a' := ?_) (bs 10 1) rfl rfl (by kernel_rfl) (fun _ _ _ h => h) (Or.inl ⟨by rfl, ?_⟩) ?_ ?_; rotate_left; (· intro w'; go_simp; first | done | with_reducible rfl); rotate_left; (· simp only [Act.put, List.setIfInBounds_toArray, List.set_cons_zero, List.set_cons_succ, i64_w, i32_w]; rfl)
      refine pure_ (i := 2) (N := some 36) (v := ?_) (a' := ?_) (bs 10 5) rfl rfl (by kernel_rfl) (fun _ _ _ h => h) (Or.inl ⟨by rfl, ?_⟩) ?_ ?_; rotate_left; (· intro w'; go_simp; first | done | with_reducible rfl); rotate_left; (· simp only [Act.put, List.setIfInBounds_toArray, List.set_cons_zero, List.set_cons_succ, i64_w, i32_w]; rfl)
      refine pure_ (i := 4) (N := some 38) (v := ?_) (a' := ?_) (bs 10 21) rfl rfl (by kernel_rfl) (fun _ _ _ h => h) (Or.inl ⟨by rfl, ?_⟩) ?_ ?_; rotate_left; (· intro w'; go_simp; first | done | with_reducible rfl); rotate_left; (· simp only [Act.put, List.setIfInBounds_toArray, List.set_cons_zero, List.set_cons_succ, i64_w, i32_w]; rfl)
      refine take_ (i := 1) (N := some 35) (v := ?_) (a' := ?_) (bs 10 23) rfl rfl (by kernel_rfl) (fun _ _ _ h => h) (Or.inl ⟨by rfl, ?_⟩) hHeld ?_ ?_; rotate_left; (· rintro w' ⟨s0, s1, s2⟩; go_simp; first | done | with_reducible rfl); rotate_left; (· simp only [Act.put, List.setIfInBounds_toArray, List.set_cons_zero, List.set_cons_succ, i64_w, i32_w]; rfl)
      refine pure_ (i := 6) (N := some 40) (v := ?_) (a' := ?_) (bs 10 87) rfl rfl (by kernel_rfl) (fun _ _ _ h => h) (Or.inl ⟨by rfl, ?_⟩) ?_ ?_; rotate_left; (· intro w'; go_simp; first | done | with_reducible rfl); rotate_left; (· simp only [Act.put, List.setIfInBounds_toArray, List.set_cons_zero, List.set_cons_succ, i64_w, i32_w]; rfl)
      refine take_ (i := 3) (N := some 37) (v := ?_) (a' := ?_) (bs 10 95) rfl rfl (by kernel_rfl) (fun _ _ _ h => h) (Or.inl ⟨by rfl, ?_⟩) hHeld ?_ ?_; rotate_left; (· rintro w' ⟨s0, s1, s2⟩; go_simp; first | done | with_reducible rfl); rotate_left; (· simp only [Act.put, List.setIfInBounds_toArray, List.set_cons_zero, List.set_cons_succ, i64_w, i32_w]; rfl)
      refine take_ (i := 5) (N := some 39) (v := ?_) (a' := ?_) (bs 10 127) rfl rfl (by kernel_rfl) (fun _ _ _ h => h) (Or.inl ⟨by rfl, ?_⟩) hHeld ?_ ?_; rotate_left; (· rintro w' ⟨s0, s1, s2⟩; go_simp; first | done | with_reducible rfl); rotate_left; (· simp only [Act.put, List.setIfInBounds_toArray, List.set_cons_zero, List.set_cons_succ, i64_w, i32_w]; rfl)
      refine one_ (i := 7) (N := none) (bs 10 255) rfl rfl (by kernel_rfl) (by decide) (fun K hK => ?_)
      have z0 : FW.drew.cell? ⟨w.heap.size, 0, none⟩ = some (.bool neg) := x0
      have z1 : FW.drew.frozen? ⟨w.heap.size, 0, none⟩ = false := x3
      refine skip_ (w1 := FW.drew.setCell ⟨w.heap.size, 0, none⟩ (.bool ng)) (by rfl) rfl ?_ ?_
      · (go_simp; first | done | with_reducible rfl)
      refine hK.out _ _ ⟨(World.cell?_of_block (w := FW.drew) (Below.heap_setCell _ _ _ _ hne)).trans y0, (World.cell?_of_block (w := FW.drew) (Below.heap_setCell _ _ _ _ hne)).trans y1, (World.cell?_of_block (w := FW.drew) (Below.heap_setCell _ _ _ _ hne)).trans y2⟩ (fun hHeld => ?_)
      clear hK K
      refine pure_ (i := 8) (N := some 8) (v := ?_) (a' := ?_) (bs 10 511) rfl rfl (by kernel_rfl) (fun _ _ _ h => h) (Or.inl ⟨by rfl, ?_⟩) ?_ ?_; rotate_left; (· intro w'; go_simp; first | done | with_reducible rfl); rotate_left; (· simp only [Act.put, List.setIfInBounds_toArray, List.set_cons_zero, List.set_cons_succ, i64_w, i32_w]; rfl)
      refine pure_ (i := 9) (N := some 9) (v := ?_) (a' := ?_) (bs 10 1023) rfl rfl (by kernel_rfl) (fun _ _ _ h => h) (Or.inl ⟨by rfl, ?_⟩) ?_ ?_; rotate_left; (· intro w'; go_simp; first | done | with_reducible rfl); rotate_left; (· simp only [Act.put, List.setIfInBounds_toArray, List.set_cons_zero, List.set_cons_succ, i64_w, i32_w]; rfl)
      refine done_ (by kernel_rfl) ?_
      have hb0 : Below FW.heap.size FW FW.drew := below_drew' (Below.refl _ _)
      have k0 := blk_below HF.out.1.2 hb0
      have k1' := (HF.out.2.1.1.below hb0).fill1 k0 (.bool ng)
      have k2' := (HF.out.2.1.2.below hb0).fill1 k0 (.bool ng)
      have HM := Aside0.mk (show Md w (FW.drew.setCell ⟨w.heap.size, 0, none⟩ (.bool ng)) A1 A2 k1 c1 k2 c2 2 R (.slice A8 k8 c8) (.slice A9 k9 c9) from
        ⟨⟨ng, A8, k8, c8, A9, k9, c9, x8, d * 2, rfl, rfl, k1'.mono (by decide), k2'.mono (by decide), by have := HA.out.2; omega, blk_put (cs := #[.bool neg, .slice A1 k1 c1, .slice A2 k2 c2]) k0 0 (.bool ng) rfl, by
          rw [← HV.out.2]
          refine rnd_rv2 (by have := HA.out.2; omega) k1'.nonneg ?_ rfl
          rw [HF.out.2.2.2, sg_mul']
          simp [sg]⟩, (HF.out.2.2.1.trans (hb0.mono HF.out.2.2.1.size)).setCell (Nat.le_refl _) _⟩)
      clear hb0 k0 k1' k2'
      go_wp2
      go_meet
      exact HM
    · have hb2 : (h == 2) = false := by simpa using h2
      have HM := Aside0.mk (show Md w w4 A1 A2 k1 c1 k2 c2 h R (.slice A4 k4 c4) (.slice A2 k2 c2) from
        ⟨⟨neg, A4, k4, c4, A2, k2, c2, a * s, d, rfl, rfl, HX.out.1.mono (by decide), HX.out.2.1.mono (by decide), HA.out.2, HX.out.2.2.1, by
          rw [← HV.out.2]
          exact rnd_rv (by have := HA.out.2; omega) HA.out.1 (by omega)⟩, HX.out.2.2.2⟩)
      clear h2
      go_wp2_with fail
      go_meet
      exact HM
  case rest =>
    obtain ⟨⟨neg2, A, k, c, A', k', c', x, y, rfl, rfl, hDx, hDy, hy, hq, hRR⟩, hbc⟩ := hcut.out
    have HR := Aside0.mk hRR
    have HD := Aside0.mk (And.intro hDx (And.intro hDy (And.intro hy (And.intro hq hbc))))
    clear hRR hDx hDy hy hq hbc hcut HX
    go_wp2_with fail
    refine (overD_n wc HD.out.1 HD.out.2.1 (by have := HD.out.2.2.1; omega) (by decide)).mono ?_
    rintro e w5 ⟨A5, k5, c5, A6, k6, c6, rfl, hD5, hD6, hb5⟩
    have hk6 := hD6.len0
    have hq5 := blk_below HD.out.2.2.2.1 hb5
    have HX := Aside0.mk (And.intro hD5 (And.intro hq5 (HD.out.2.2.2.2.trans (hb5.mono HD.out.2.2.2.2.size))))
    obtain ⟨x0, x1, x2, _⟩ := rat_cells hq5
    clear hD5 hD6 hb5 hq5
    go_upto_region 6 with fail
    go_cut [13] (fun v w' => ∃ u : Bool, v = .bool u ∧ Aside0 (u = (decide (x % y ≠ 0) && (neg2 != decide (h = 1)))) ∧ w5 = w')
    case first =>
      by_cases hr : x % y = 0
      · have hk0 := hk6.2 hr
        subst hk0
        have HU := Aside0.mk hr
        clear hr hk6
        go_wp2_with fail
        go_meet
        exact ⟨false, rfl, ⟨by simp [HU.out]⟩, rfl⟩
      · have hkp : 0 < k6 := by
          have : k6 ≠ 0 := fun e => hr (hk6.1 e)
          omega
        have HU := Aside0.mk hr
        clear hr hk6
        by_cases e1 : h = 1
        · subst e1
          cases neg2 with
          | true =>
            go_wp2_with fail
            go_meet
            exact ⟨false, rfl, ⟨by simp⟩, rfl⟩
          | false =>
            go_wp2_with fail
            go_meet
            exact ⟨true, rfl, ⟨by simp [HU.out]⟩, rfl⟩
        · have hb1 : (h == 1) = false := by simpa using e1
          have HE := Aside0.mk e1
          clear e1
          cases neg2 with
          | true =>
            go_wp2_with fail
            go_meet
            exact ⟨true, rfl, ⟨by simp [HU.out, HE.out]⟩, rfl⟩
          | false =>
            go_wp2_with fail
            go_meet
            exact ⟨false, rfl, ⟨by simp [HE.out]⟩, rfl⟩
    case rest =>
      obtain ⟨u, rfl, HU, rfl⟩ := hcut
      have hR2 : R = sg neg2 (x / y + if u = true then 1 else 0) := by
        rw [HR.out, HU.out]
        unfold RV
        congr 2
        simp only [Bool.and_eq_true, decide_eq_true_eq]
      have HR2 := Aside0.mk hR2
      clear hR2 x0 x1 x2 hk6
      go_upto_if 57 with fail
      go_cut [11] (fun v w' => Aside0 (Me w w' A1 A2 k1 c1 k2 c2 R v))
      case first =>
        cases u with
        | true =>
          go_wp2_with fail
          refine (ofD_n 1 w5 (by decide) (by decide)).mono ?_
          rintro e w6 ⟨A7, k7, c7, rfl, hD7, hb7⟩
          have HY := Aside0.mk (And.intro hD7 hb7)
          clear hD7 hb7
          go_wp2_with fail
          refine (plusD_n w6 (HX.out.1.below HY.out.2) HY.out.1 (by decide)).mono ?_
          rintro e w7 ⟨A8, k8, c8, rfl, hD8, hb8⟩
          have hb58 := HY.out.2.trans (hb8.mono HY.out.2.size)
          have HM := Aside0.mk (show Me w w7 A1 A2 k1 c1 k2 c2 R (.slice A8 k8 c8) from ⟨⟨neg2, A8, k8, c8, _, rfl, hD8.mono (by decide), blk_below HX.out.2.1 hb58, by rw [HR2.out]; rfl⟩, HX.out.2.2.trans (hb58.mono HX.out.2.2.size)⟩)
          clear hD8 hb8 hb58
          go_wp2_with fail
          go_meet
          exact HM
        | false =>
          have HM := Aside0.mk (show Me w w5 A1 A2 k1 c1 k2 c2 R (.slice A5 k5 c5) from ⟨⟨neg2, A5, k5, c5, _, rfl, HX.out.1.mono (by decide), HX.out.2.1, by rw [HR2.out]; simp⟩, HX.out.2.2⟩)
          go_wp2_with fail
          go_meet
          exact HM
      case rest =>
        obtain ⟨⟨neg3, A9, k9, c9, q, rfl, hDq, hq, hRq⟩, hbc⟩ := hcut.out
        have hq0 := hDq.nonneg
        have HY := Aside0.mk (And.intro hDq (And.intro hq hbc))
        have hbig := big_sg (neg := neg3) hq0
        have hVV : VV = .tuple #[.int .i64 (if 1099511627776 < q then 0 else sg neg3 q), .int .i64 (if 1099511627776 < q then 2 else 0)] := by
          rw [HV.out.1, hRq, hbig]
          simp only [decide_eq_true_eq]
        have HVV := Aside0.mk hVV
        clear hDq hq hRq hbc hbig hVV hcut HX HR HR2 HD HV HU
        go_wp2_with fail
        refine (smallD_n wc HY.out.1 (by decide) (by decide) (by decide)).mono ?_
        rintro e w9 ⟨rfl, hb9⟩
        have HB9 := Aside0.mk (HY.out.2.2.trans (hb9.mono HY.out.2.2.size))
        obtain ⟨x0, x1, x2, _⟩ := rat_cells (blk_below HY.out.2.1 hb9)
        clear hb9
        by_cases hb : 1099511627776 < q
        · have HF := Aside0.mk (show VV = .tuple #[.int .i64 0, .int .i64 2] by rw [HVV.out, if_pos hb, if_pos hb])
          rw [decide_eq_true hb, if_pos hb]
          clear hb
          go_wp2_with fail
          go_ret2
          exact ⟨by rw [HF.out]; rfl, HB9.out⟩
        · have HF := Aside0.mk (show VV = .tuple #[.int .i64 (sg neg3 q), .int .i64 0] by rw [HVV.out, if_neg hb, if_neg hb])
          rw [decide_eq_false hb, if_neg hb]
          cases neg3 with
          | true =>
            go_wp2_with fail
            go_ret2
            exact ⟨by rw [HF.out]; rfl, HB9.out⟩
          | false =>
            go_wp2_with fail
            go_ret2
            exact ⟨by rw [HF.out]; rfl, HB9.out⟩
end Go.Proofs.Ytdginjpppgfdaaa.Fh

namespace Go.Proofs.Ytdginjpppgfdaaa.Fj
open Go.RowKit Go Go.Proofs.YtdginjpppgfdaaaW.PrintWords Go.Proofs.YtdginjpppgfdaaaW.PrintLast Go.Proofs.YtdginjpppgfdaaaW.PrintMore Go.Proofs.Ytdginjpppgfdaaa.Ml Go.Proofs.Ytdginjpppgfdaaa.Mn Go.Proofs.Ytdginjpppgfdaaa.Nd Go.Proofs.Ytdginjpppgfdaaa.P Go.Proofs.Ytdginjpppgfdaaa.Nc Go.Proofs.Ytdginjpppgfdaaa.Nb Go.Proofs.Ytdginjpppgfdaaa.Ea Go.Proofs.Ytdginjpppgfdaaa.Eb Go.Proofs.Ytdginjpppgfdaaa.Ec Go.Proofs.Ytdginjpppgfdaaa.Ee Go.Proofs.Ytdginjpppgfdaaa.La Go.Proofs.Ytdginjpppgfdaaa.Rb Go.Proofs.Ytdginjpppgfdaaa.Rc Go.Proofs.Ytdginjpppgfdaaa.Rd Go.Proofs.Ytdginjpppgfdaaa.Lb Go.Proofs.Ytdginjpppgfdaaa.Fa Go.Proofs.Ytdginjpppgfdaaa.Fb Go.Proofs.Ytdginjpppgfdaaa.Fx Go.Proofs.Ytdginjpppgfdaaa.Fh
set_option linter.unusedVariables false
set_option linter.unusedSimpArgs false

set_option maxHeartbeats 1000000 in
theorem risScale_n (s : Int) (w : World) : Calls Try.prog 50 #[.int .i64 s] w (fun e w' => e = .returned (.bool (isScale s)) ∧ w = w') := by
  go_enter Try.func50, Try.ntmps50
  go_wp2
  all_goals
    go_ret
    refine ⟨ret_b ?_, rfl⟩
    unfold isScale
    first | (simp_all; done) | (simp_all; omega) | grind
set_option maxHeartbeats 1000000 in
theorem risTick_n (s : Int) (w : World) : Calls Try.prog 49 #[.int .i64 s] w (fun e w' => e = .returned (.bool (isTicks s)) ∧ w = w') := by
  go_enter Try.func49, Try.ntmps49
  go_wp2
  all_goals
    go_ret
    refine ⟨ret_b ?_, rfl⟩
    unfold isTicks
    first | (simp_all; done) | (simp_all; omega) | grind
theorem isScale_bd {s : Int} (h : isScale s = true) : 1 ≤ s ∧ s ≤ 1000000 := by unfold isScale at h; simpa using h
theorem isTicks_bd {t : Int} (h : isTicks t = true) : -1099511627776 ≤ t ∧ t ≤ 1099511627776 := by unfold isTicks at h; simpa using h
theorem isHow_bd {h : Int} : isHow h = true ↔ (0 ≤ h ∧ h ≤ 2) := by unfold isHow; simp; omega
theorem ticks_v {n d s h : Int} (hv : valid n d = true) (hs : isScale s = true) (hh : isHow h = true) : vTicks n d s h = vRnd h (n * s) d := by
  unfold vTicks vRnd
  rw [hv, hs, hh]
  simp only [if_true]
  cases big (rnd h (n * s) d) <;> rfl
theorem vRnd_form (h N d : Int) : ∃ q e, vRnd h N d = .tuple #[.int .i64 q, .int .i64 e] := ⟨_, _, rfl⟩
theorem sg_nat (n s : Int) : sg (decide (n < 0)) ((n.natAbs : Int) * s) = n * s := by rw [sg_mul', sg_abs']
/-- The value does not hang on the terms of the fraction. -/
theorem rnd_low {t f s h : Int} (hf : 1 ≤ f) (hh : isHow h = true) : rnd h (lowN t f * s) (lowD t f) = rnd h (t * s) f := by
  obtain ⟨g, hg, e1, e2, e3⟩ := low_spec t f hf
  generalize lowN t f = N at *
  generalize lowD t f = D at *
  have e4 : t * s = N * s * g := by rw [e1]; grind
  have hb := isHow_bd.1 hh
  rw [e4, e2]
  have key : N * s * g / (D * g) = N * s / D := Int.mul_ediv_mul_of_pos_left _ _ (by omega)
  have key2 : N * s * g % (D * g) = N * s % D * g := by rw [Int.mul_comm (N * s) g, Int.mul_comm D g, Int.mul_emod_mul_of_pos _ _ (by omega), Int.mul_comm]
  rcases (show h = 0 ∨ h = 1 ∨ h = 2 by omega) with rfl | rfl | rfl
  · exact key.symm
  · show (N * s + D - 1) / D = (N * s * g + D * g - 1) / (D * g)
    rw [cl_pos (by omega), cl_pos (Int.mul_pos (by omega) (by omega)), key, key2]
    congr 1
    by_cases h0 : N * s % D = 0
    · rw [h0]; simp
    · rw [if_pos h0, if_pos (Int.mul_ne_zero h0 (by omega))]
  · show (N * s * 2 + D) / (D * 2) = (N * s * g * 2 + D * g) / (D * g * 2)
    rw [show N * s * g * 2 + D * g = (N * s * 2 + D) * g by grind, show D * g * 2 = (D * 2) * g by grind, Int.mul_ediv_mul_of_pos_left _ _ (by omega)]
theorem rescale_v {t f s h : Int} (ht : isTicks t = true) (hf : isScale f = true) (hs : isScale s = true) (hh : isHow h = true) : vRescale t f s h = vRnd h (t * s) f := by
  have q := isScale_bd hf
  have q2 := isTicks_bd ht
  unfold vRescale
  rw [ht, hf]
  simp only [Bool.and_self, if_true]
  rw [ticks_v (low_valid q.1 (by omega) (by omega) (by omega)) hs hh]
  unfold vRnd
  rw [rnd_low q.1 hh]
theorem roundedV_n (Q E N : Int) (neg : Bool) (A1 A2 : Option Addr) (k1 c1 k2 c2 : Nat) (a d s h : Int) (w : World) (hV : vRnd h N d = .tuple #[.int .i64 Q, .int .i64 E]) (h1 : Dec w (.slice A1 k1 c1) a 3) (h2 : Dec w (.slice A2 k2 c2) d 3) (hN : sg neg (a * s) = N) (hd : 1 ≤ d) (s0 : 0 ≤ s) (s1 : s ≤ 1000000) (hh : isHow h = true) :
    Calls Try.prog 53 #[.agg #[.bool neg, .slice A1 k1 c1, .slice A2 k2 c2], .int .i64 s, .int .i64 h] w (ValP w (.tuple #[.int .i64 Q, .int .i64 E])) := by
  have hb := isHow_bd.1 hh
  rw [← hV, ← hN]
  exact rounded_n neg A1 A2 k1 c1 k2 c2 a d s h w h1 h2 hd s0 s1 (by omega)
theorem isHow_no {h : Int} (hh : isHow h = false) : h < 0 ∨ 2 < h := by
  rcases Int.lt_or_le h 0 with a | a
  · exact .inl a
  · right
    refine Int.lt_of_not_ge fun b => ?_
    rw [isHow_bd.2 ⟨a, b⟩] at hh
    cases hh
set_option maxHeartbeats 8000000 in
set_option maxRecDepth 100000 in
theorem rTicks_n (n d s h : Int) (w : World) : Calls Try.prog 40 #[tm n d, .int .i64 s, .int .i64 h] w (ValP w (vTicks n d s h)) := by
  have hu := Try.underlying25
  have hb1 : Below w.heap.size w (w.alloc (.cells #[.int .i64 n, .int .i64 d] 25)) := below_alloc (Below.refl _ w) _
  have hbk := blk_new w (timeObj n d)
  have s1 := hb1.size
  cases hv : valid n d with
  | false =>
    rw [show vTicks n d s h = .tuple #[.int .i64 0, .int .i64 4] by unfold vTicks; rw [hv]; rfl]
    unfold tm
    go_enter Try.func40, Try.ntmps40
    go_wp2_with fail
    refine (rValid_n n d _).mono ?_
    rintro e w2 ⟨rfl, hb2⟩
    rw [hv]
    go_wp2_with fail
    go_ret2
    exact ⟨rfl, hb1.trans (hb2.mono s1)⟩
  | true =>
    cases hs : isScale s with
    | false =>
      rw [show vTicks n d s h = .tuple #[.int .i64 0, .int .i64 1] by unfold vTicks; rw [hv, hs]; rfl]
      unfold tm
      go_enter Try.func40, Try.ntmps40
      go_wp2_with fail
      refine (rValid_n n d _).mono ?_
      rintro e w2 ⟨rfl, hb2⟩
      rw [hv]
      go_wp2_with fail
      refine (risScale_n s _).mono ?_
      rintro e w3 ⟨rfl, rfl⟩
      rw [hs]
      go_wp2_with fail
      go_ret2
      exact ⟨rfl, hb1.trans (hb2.mono s1)⟩
    | true =>
      cases hh : isHow h with
      | false =>
        rw [show vTicks n d s h = .tuple #[.int .i64 0, .int .i64 1] by unfold vTicks; rw [hv, hs, hh]; rfl]
        have hno := isHow_no hh
        unfold tm
        rcases hno with hno | hno
        · go_enter Try.func40, Try.ntmps40
          go_wp2_with fail
          refine (rValid_n n d _).mono ?_
          rintro e w2 ⟨rfl, hb2⟩
          rw [hv]
          go_wp2_with fail
          refine (risScale_n s _).mono ?_
          rintro e w3 ⟨rfl, rfl⟩
          rw [hs]
          go_wp2_with fail
          go_ret2
          exact ⟨rfl, hb1.trans (hb2.mono s1)⟩
        · have hge : ¬ h < 0 := by omega
          go_enter Try.func40, Try.ntmps40
          go_wp2_with fail
          refine (rValid_n n d _).mono ?_
          rintro e w2 ⟨rfl, hb2⟩
          rw [hv]
          go_wp2_with fail
          refine (risScale_n s _).mono ?_
          rintro e w3 ⟨rfl, rfl⟩
          rw [hs]
          go_wp2_with fail
          go_ret2
          exact ⟨rfl, hb1.trans (hb2.mono s1)⟩
      | true =>
        have hbd := isHow_bd.1 hh
        have q := valid_bd hv
        have qs := isScale_bd hs
        obtain ⟨Q, E, hV⟩ := vRnd_form h (n * s) d
        rw [ticks_v hv hs hh, hV]
        have HV := Aside0.mk hV
        clear hV
        have n0 : ¬ h < 0 := by omega
        have n2 : ¬ 2 < h := by omega
        unfold tm
        go_enter Try.func40, Try.ntmps40
        go_wp2_with fail
        refine (rValid_n n d _).mono ?_
        rintro e w2 ⟨rfl, hb2⟩
        rw [hv]
        have HB2 := Aside0.mk (And.intro (hb1.trans (hb2.mono s1)) (blk_below hbk hb2))
        clear hb2 hbk
        obtain ⟨a0, a1, _, _⟩ := time_cells HB2.out.2
        go_wp2_with fail
        refine (risScale_n s _).mono ?_
        rintro e w3 ⟨rfl, rfl⟩
        rw [hs]
        go_wp2_with fail
        refine (ratOf_n n d w2 (by omega) (by omega) (by omega) (by omega)).mono ?_
        rintro e w4 ⟨A4, k4, c4, A5, k5, c5, rfl, hD4, hD5, hb4⟩
        have HX := Aside0.mk (And.intro hD4 (And.intro hD5 (HB2.out.1.trans (hb4.mono HB2.out.1.size))))
        clear hD4 hD5 hb4 a0 a1 HB2
        go_wp2_with fail
        refine (roundedV_n Q E _ _ A4 A5 k4 c4 k5 c5 _ d s h w4 HV.out HX.out.1 HX.out.2.1 (sg_nat n s) q.1 (by omega) (by omega) hh).mono ?_
        rintro e w5 ⟨rfl, hb5⟩
        go_wp2_with fail
        go_ret2
        exact ⟨rfl, HX.out.2.2.trans (hb5.mono HX.out.2.2.size)⟩
theorem rescale_bad1 {t f s h : Int} (hb : (isTicks t && isScale f) = false) : vRescale t f s h = .tuple #[.int .i64 0, .int .i64 1] := by unfold vRescale; rw [hb]; rfl
theorem rescale_bad2 {t f s h : Int} (ht : isTicks t = true) (hf : isScale f = true) (hb : (isScale s && isHow h) = false) : vRescale t f s h = .tuple #[.int .i64 0, .int .i64 1] := by
  have q := isScale_bd hf
  have q2 := isTicks_bd ht
  unfold vRescale vTicks
  rw [ht, hf, low_valid q.1 (by omega) (by omega) (by omega)]
  cases hs : isScale s with
  | false => rfl
  | true =>
    rw [hs] at hb
    rw [show isHow h = false by simpa using hb]
    rfl
set_option maxHeartbeats 8000000 in
set_option maxRecDepth 100000 in
theorem rRescale_n (t f s h : Int) (w : World) : Calls Try.prog 20 #[.int .i64 t, .int .i64 f, .int .i64 s, .int .i64 h] w (ValP w (vRescale t f s h)) := by
  cases ht : isTicks t with
  | false =>
    rw [rescale_bad1 (by rw [ht]; rfl)]
    go_enter Try.func20, Try.ntmps20
    go_wp2_with fail
    refine (risTick_n t _).mono ?_
    rintro e wx ⟨rfl, rfl⟩
    rw [ht]
    go_wp2_with fail
    go_ret2
    exact ⟨rfl, Below.refl _ _⟩
  | true =>
    cases hf : isScale f with
    | false =>
      rw [rescale_bad1 (by rw [ht, hf]; rfl)]
      go_enter Try.func20, Try.ntmps20
      go_wp2_with fail
      refine (risTick_n t _).mono ?_
      rintro e wx ⟨rfl, rfl⟩
      rw [ht]
      go_wp2_with fail
      refine (risScale_n f _).mono ?_
      rintro e wx ⟨rfl, rfl⟩
      rw [hf]
      go_wp2_with fail
      go_ret2
      exact ⟨rfl, Below.refl _ _⟩
    | true =>
      cases hs : isScale s with
      | false =>
        rw [rescale_bad2 ht hf (by rw [hs]; rfl)]
        go_enter Try.func20, Try.ntmps20
        go_wp2_with fail
        refine (risTick_n t _).mono ?_
        rintro e wx ⟨rfl, rfl⟩
        rw [ht]
        go_wp2_with fail
        refine (risScale_n f _).mono ?_
        rintro e wx ⟨rfl, rfl⟩
        rw [hf]
        go_wp2_with fail
        refine (risScale_n s _).mono ?_
        rintro e wx ⟨rfl, rfl⟩
        rw [hs]
        go_wp2_with fail
        go_ret2
        exact ⟨rfl, Below.refl _ _⟩
      | true =>
        cases hh : isHow h with
        | false =>
          rw [rescale_bad2 ht hf (by rw [hs, hh]; rfl)]
          have hno := isHow_no hh
          rcases hno with hno | hno
          · go_enter Try.func20, Try.ntmps20
            go_wp2_with fail
            refine (risTick_n t _).mono ?_
            rintro e wx ⟨rfl, rfl⟩
            rw [ht]
            go_wp2_with fail
            refine (risScale_n f _).mono ?_
            rintro e wx ⟨rfl, rfl⟩
            rw [hf]
            go_wp2_with fail
            refine (risScale_n s _).mono ?_
            rintro e wx ⟨rfl, rfl⟩
            rw [hs]
            go_wp2_with fail
            go_ret2
            exact ⟨rfl, Below.refl _ _⟩
          · have hge : ¬ h < 0 := by omega
            go_enter Try.func20, Try.ntmps20
            go_wp2_with fail
            refine (risTick_n t _).mono ?_
            rintro e wx ⟨rfl, rfl⟩
            rw [ht]
            go_wp2_with fail
            refine (risScale_n f _).mono ?_
            rintro e wx ⟨rfl, rfl⟩
            rw [hf]
            go_wp2_with fail
            refine (risScale_n s _).mono ?_
            rintro e wx ⟨rfl, rfl⟩
            rw [hs]
            go_wp2_with fail
            go_ret2
            exact ⟨rfl, Below.refl _ _⟩
        | true =>
          have hbd := isHow_bd.1 hh
          have qf := isScale_bd hf
          have qs := isScale_bd hs
          have qt := isTicks_bd ht
          obtain ⟨Q, E, hV⟩ := vRnd_form h (t * s) f
          rw [rescale_v ht hf hs hh, hV]
          have HV := Aside0.mk hV
          clear hV
          have n0 : ¬ h < 0 := by omega
          have n2 : ¬ 2 < h := by omega
          go_enter Try.func20, Try.ntmps20
          go_wp2_with fail
          refine (risTick_n t _).mono ?_
          rintro e wx ⟨rfl, rfl⟩
          rw [ht]
          go_wp2_with fail
          refine (risScale_n f _).mono ?_
          rintro e wx ⟨rfl, rfl⟩
          rw [hf]
          go_wp2_with fail
          refine (risScale_n s _).mono ?_
          rintro e wx ⟨rfl, rfl⟩
          rw [hs]
          go_wp2_with fail
          refine (sizeD_n t w (by omega) (by omega)).mono ?_
          rintro e w2 ⟨A4, k4, c4, rfl, hD4, hb4⟩
          have H4 := Aside0.mk (And.intro hD4 hb4)
          clear hD4 hb4
          go_wp2_with fail
          refine (ofD_n f w2 (by omega) (by omega)).mono ?_
          rintro e w3 ⟨A5, k5, c5, rfl, hD5, hb5⟩
          have H5 := Aside0.mk (And.intro hD5 (And.intro (H4.out.1.below hb5) (H4.out.2.trans (hb5.mono H4.out.2.size))))
          clear hD5 hb5
          go_wp2_with fail
          refine (roundedV_n Q E _ _ A4 A5 k4 c4 k5 c5 _ f s h w3 HV.out H5.out.2.1 H5.out.1 (sg_nat t s) qf.1 (by omega) (by omega) hh).mono ?_
          rintro e w5 ⟨rfl, hb5⟩
          go_wp2_with fail
          go_ret2
          exact ⟨rfl, H5.out.2.2.trans (hb5.mono H5.out.2.2.size)⟩
end Go.Proofs.Ytdginjpppgfdaaa.Fj

namespace Go.Proofs.Ytdginjpppgfdaaa.Fc
open Go.RowKit Go Go.Proofs.YtdginjpppgfdaaaW.PrintWords Go.Proofs.YtdginjpppgfdaaaW.PrintLast Go.Proofs.YtdginjpppgfdaaaW.PrintMore Go.Proofs.Ytdginjpppgfdaaa.Ml Go.Proofs.Ytdginjpppgfdaaa.Mn Go.Proofs.Ytdginjpppgfdaaa.Nd Go.Proofs.Ytdginjpppgfdaaa.P Go.Proofs.Ytdginjpppgfdaaa.Nc Go.Proofs.Ytdginjpppgfdaaa.Nb Go.Proofs.Ytdginjpppgfdaaa.Ea Go.Proofs.Ytdginjpppgfdaaa.Eb Go.Proofs.Ytdginjpppgfdaaa.Ee Go.Proofs.Ytdginjpppgfdaaa.Ra Go.Proofs.Ytdginjpppgfdaaa.Rb Go.Proofs.Ytdginjpppgfdaaa.Rd Go.Proofs.Ytdginjpppgfdaaa.Lb Go.Proofs.Ytdginjpppgfdaaa.Fa Go.Proofs.Ytdginjpppgfdaaa.Fb
set_option linter.unusedVariables false
set_option linter.unusedSimpArgs false

/-- Where the search for the greatest common divisor stands. -/
structure GdI (w0 w : World) (a d : Int) (n : Nat) (vx vy : Value) (q : Nat) : Prop where mk ::
  at_ : ∃ A k c A' k' c' x y, vx = .slice A k c ∧ vy = .slice A' k' c' ∧ Dec w (.slice A k c) x n ∧ Dec w (.slice A' k' c') y n ∧ Int.gcd x y = Int.gcd a d ∧ y ≤ (q : Int)
  b : Below w0.heap.size w0 w
theorem gcd_mod (x y : Int) : Int.gcd y (x % y) = Int.gcd x y := by
  have := Int.mul_ediv_add_emod x y
  exact gcd_step (q := x / y) (by rw [Int.mul_comm]; exact this.symm)
theorem sg_gcd (neg : Bool) (a d : Int) : Int.gcd (sg neg a) d = Int.gcd a d := by cases neg <;> simp [sg, Int.neg_gcd]
theorem sg_div (neg : Bool) (a d : Int) : lowN (sg neg a) d = sg neg (a / (Int.gcd a d : Int)) := by
  unfold lowN
  rw [sg_gcd]
  cases neg
  · rfl
  · simp only [sg, if_true]
    exact Int.neg_ediv_of_dvd (Int.gcd_dvd_left _ _)
theorem sg_low (neg : Bool) (a d : Int) : lowD (sg neg a) d = d / (Int.gcd a d : Int) := by
  unfold lowD
  rw [sg_gcd]
theorem vLow_pos {n d : Int} (hd : 1 ≤ d) : vLow n d = if valid (lowN n d) (lowD n d) then two (tm (lowN n d) (lowD n d)) (er 0) else two (tm 0 0) (er 2) := by
  unfold vLow
  rw [(ratN_pos (n := n) (d := d) (by omega)).1, (ratN_pos (n := n) (d := d) (by omega)).2]
theorem vLow_zero {d : Int} (hd : 1 ≤ d) : vLow 0 d = .tuple #[.agg #[.int .i64 0, .int .i64 1], .int .i64 0] := by
  have h1 : lowN 0 d = 0 := by unfold lowN; simp
  have h2 : lowD 0 d = 1 := by
    unfold lowD
    rw [Int.gcd_zero_left, show ((d.natAbs : Nat) : Int) = d by omega]
    exact Int.ediv_self (by omega)
  rw [vLow_pos hd, h1, h2]
  rfl
theorem valid_sg {neg : Bool} {x d : Int} (hx : 0 ≤ x) (hd : 1 ≤ d) : valid (sg neg x) d = (!decide (1152921504606846976 < x) && !decide (1152921504606846976 < d)) := by
  rw [Bool.eq_iff_iff]
  unfold valid
  cases neg <;> simp [sg] <;> omega
set_option maxHeartbeats 16000000 in
set_option maxRecDepth 100000 in
theorem timeR_n (neg : Bool) (A1 A2 : Option Addr) (k1 c1 k2 c2 : Nat) (a d : Int) (n : Nat) (w : World) (h1 : Dec w (.slice A1 k1 c1) a n) (h2 : Dec w (.slice A2 k2 c2) d n) (hd : 1 ≤ d) (hl : n ≤ 400) :
    Calls Try.prog 51 #[.agg #[.bool neg, .slice A1 k1 c1, .slice A2 k2 c2]] w (ValP w (vLow (sg neg a) d)) := by
  have hu := Try.underlying60
  have hu2 := Try.underlying25
  have e1 : (w.alloc (ratObj neg (.slice A1 k1 c1) (.slice A2 k2 c2))).heap.size = w.heap.size + 1 := by simp
  have g2 := blk_new (w.alloc (ratObj neg (.slice A1 k1 c1) (.slice A2 k2 c2))) (timeObj 0 0)
  rw [e1] at g2
  have hbw : Below w.heap.size w ((w.alloc (ratObj neg (.slice A1 k1 c1) (.slice A2 k2 c2))).alloc (timeObj 0 0)) := below_alloc (below_alloc (Below.refl _ w) _) _
  have g1 := blk_alloc (blk_new w (ratObj neg (.slice A1 k1 c1) (.slice A2 k2 c2))) (timeObj 0 0)
  have ha0 := h1.nonneg
  have hk := h1.len0
  generalize hW : (w.alloc (ratObj neg (.slice A1 k1 c1) (.slice A2 k2 c2))).alloc (timeObj 0 0) = W at *
  have HW := Aside0.mk (And.intro hbw (And.intro g1 g2))
  have HD := Aside0.mk (And.intro (h1.below hbw) (h2.below hbw))
  clear hbw g1 g2 h1 h2
  obtain ⟨x0, x1, x2, _⟩ := rat_cells HW.out.2.1
  by_cases hz : a = 0
  · have hkz := hk.2 hz
    subst hkz
    have HV := Aside0.mk (show vLow (sg neg a) d = .tuple #[.agg #[.int .i64 0, .int .i64 1], .int .i64 0] by
      rw [hz, show sg neg 0 = 0 by cases neg <;> rfl]
      exact vLow_zero hd)
    generalize vLow (sg neg a) d = VV at *
    obtain ⟨r0, r1, r2, r3⟩ := time_cells HW.out.2.2
    clear hk hz ha0
    go_enter Try.func51, Try.ntmps51
    go_wp2_with fail
    have gq := blk_new (w.alloc (ratObj neg (.slice A1 0 c1) (.slice A2 k2 c2))) (timeObj 0 1)
    rw [e1] at gq
    refine bodyPost_ret (results_ct rfl _ _ (w.heap.size + 1) 25 #[.int .i64 0, .int .i64 1] (0, 0) _ rfl gq Try.underlying25 rfl (by kernel_rfl)) rfl ?_
    exact ⟨by rw [HV.out]; rfl, below_alloc (below_alloc (Below.refl _ w) _) _⟩
  · have hkb : ((k1 : Int) == 0) = false := by
      have : k1 ≠ 0 := fun h => hz (hk.1 h)
      simp
      omega
    have HZ := Aside0.mk hz
    clear hk hz
    have hG : 0 < (Int.gcd a d : Int) := by
      have := Int.gcd_pos_of_ne_zero_right a (show d ≠ 0 by omega)
      omega
    have HV := Aside0.mk (vLow_pos (n := sg neg a) hd)
    rw [sg_div, sg_low] at HV
    generalize hV : vLow (sg neg a) d = VV at *
    have HG := Aside0.mk (And.intro hG (And.intro (Int.gcd_dvd_left a d) (Int.gcd_dvd_right a d)))
    have HA := Aside0.mk (And.intro ha0 hd)
    have hda : 0 ≤ a / (Int.gcd a d : Int) := Int.ediv_nonneg ha0 (by omega)
    have hdd : 1 ≤ d / (Int.gcd a d : Int) := by
      have e2 : d = d / (Int.gcd a d : Int) * (Int.gcd a d : Int) := (Int.ediv_mul_cancel (Int.gcd_dvd_right a d)).symm
      refine Int.le_of_not_gt fun h0 => ?_
      have : d / (Int.gcd a d : Int) * (Int.gcd a d : Int) ≤ 0 * (Int.gcd a d : Int) := Int.mul_le_mul_of_nonneg_right (by omega) (by omega)
      omega
    have HQ := Aside0.mk (And.intro hda hdd)
    have HI := Aside0.mk (show GdI w W a d n (.slice A1 k1 c1) (.slice A2 k2 c2) d.toNat from ⟨⟨A1, k1, c1, A2, k2, c2, a, d, rfl, rfl, HD.out.1, HD.out.2, rfl, by omega⟩, HW.out.1⟩)
    clear hV hG ha0 hd hda hdd
    go_enter Try.func51, Try.ntmps51
    go_wp2_with fail
    rw [show (w.alloc (.cells #[.bool neg, .slice A1 k1 c1, .slice A2 k2 c2] 60)).alloc (.cells #[.int .i64 0, .int .i64 0] 25) = W from hW]
    refine start_ (n := 6) (S := fun w' => w'.cell? ⟨w.heap.size, 1, none⟩ = some (.slice A1 k1 c1) ∧ w'.cell? ⟨w.heap.size, 2, none⟩ = some (.slice A2 k2 c2)) (ds := []) (bs 6 0) (by kernel_rfl) rfl rfl ⟨x1, x2⟩ (fun hHeld => ?_)
    refine pure_ (i := 0) (N := some 21) (v := ?_) (a' := ?_) (bs 6 1) rfl rfl (by kernel_rfl) (fun _ _ _ h => h) (Or.inl ⟨by rfl, ?_⟩) ?_ ?_; rotate_left; (· intro w'; go_simp; first | done | with_reducible rfl); rotate_left; (· simp only [Act.put, List.setIfInBounds_toArray, List.set_cons_zero, List.set_cons_succ, i64_w, i32_w]; rfl)
    refine pure_ (i := 2) (N := some 23) (v := ?_) (a' := ?_) (bs 6 5) rfl rfl (by kernel_rfl) (fun _ _ _ h => h) (Or.inl ⟨by rfl, ?_⟩) ?_ ?_; rotate_left; (· intro w'; go_simp; first | done | with_reducible rfl); rotate_left; (· simp only [Act.put, List.setIfInBounds_toArray, List.set_cons_zero, List.set_cons_succ, i64_w, i32_w]; rfl)
    refine take_ (i := 1) (N := some 22) (v := ?_) (a' := ?_) (bs 6 7) rfl rfl (by kernel_rfl) (fun _ _ _ h => h) (Or.inl ⟨by rfl, ?_⟩) hHeld ?_ ?_; rotate_left; (· rintro w' ⟨s0, s1⟩; go_simp; first | done | with_reducible rfl); rotate_left; (· simp only [Act.put, List.setIfInBounds_toArray, List.set_cons_zero, List.set_cons_succ, i64_w, i32_w]; rfl)
    refine pure_ (i := 4) (N := some 4) (v := ?_) (a' := ?_) (bs 6 23) rfl rfl (by kernel_rfl) (fun _ _ _ h => h) (Or.inl ⟨by rfl, ?_⟩) ?_ ?_; rotate_left; (· intro w'; go_simp; first | done | with_reducible rfl); rotate_left; (· simp only [Act.put, List.setIfInBounds_toArray, List.set_cons_zero, List.set_cons_succ, i64_w, i32_w]; rfl)
    refine take_ (i := 3) (N := some 24) (v := ?_) (a' := ?_) (bs 6 31) rfl rfl (by kernel_rfl) (fun _ _ _ h => h) (Or.inl ⟨by rfl, ?_⟩) hHeld ?_ ?_; rotate_left; (· rintro w' ⟨s0, s1⟩; go_simp; first | done | with_reducible rfl); rotate_left; (· simp only [Act.put, List.setIfInBounds_toArray, List.set_cons_zero, List.set_cons_succ, i64_w, i32_w]; rfl)
    refine pure_ (i := 5) (N := some 5) (v := ?_) (a' := ?_) (bs 6 63) rfl rfl (by kernel_rfl) (fun _ _ _ h => h) (Or.inl ⟨by rfl, ?_⟩) ?_ ?_; rotate_left; (· intro w'; go_simp; first | done | with_reducible rfl); rotate_left; (· simp only [Act.put, List.setIfInBounds_toArray, List.set_cons_zero, List.set_cons_succ, i64_w, i32_w]; rfl)
    refine done_ (by kernel_rfl) ?_
    have HI2 := Aside0.mk (show GdI w W.drew a d n (.slice A1 k1 c1) (.slice A2 k2 c2) d.toNat from ⟨by
      obtain ⟨A, k, c, A', k', c', x, y, h1, h2, h3, h4, h5⟩ := HI.out.at_
      exact ⟨A, k, c, A', k', c', x, y, h1, h2, h3.below (below_drew' (Below.refl _ _)), h4.below (below_drew' (Below.refl _ _)), h5⟩, HI.out.b.trans ((below_drew' (Below.refl _ _)).mono HI.out.b.size)⟩)
    have HB3 := Aside0.mk (show Below W.heap.size W W.drew from below_drew' (Below.refl _ _))
    clear HI x0 x1 x2
    go_wp2_with fail
    go_loopg [4, 5] d.toNat (fun kq v4 v5 w' => Aside0 (GdI w w' a d n v4 v5 kq) ∧ Aside0 (Below W.heap.size W w'))
    case atStart => exact ⟨HI2, HB3⟩
    case round =>
      clear HI2 HB3
      obtain ⟨⟨⟨Ax, kx, cx, Ay, ky, cy, x, y, rfl, rfl, hDx, hDy, hgc, hyk⟩, hbw⟩, ⟨hbW⟩⟩ := hrel
      have hy0 := hDy.nonneg
      have hky := hDy.len0
      by_cases hy : y = 0
      · have hk0 := hky.2 hy
        subst hk0
        have hxG : x = (Int.gcd a d : Int) := by
          have := hDx.nonneg
          rw [← hgc, hy, Int.gcd_zero]
          omega
        have q1 := blk_below HW.out.2.1 hbW
        obtain ⟨x0, x1, x2, _⟩ := rat_cells q1
        have HX := Aside0.mk (And.intro hDx (And.intro hxG (And.intro hbw (And.intro q1 (And.intro (blk_below HW.out.2.2 hbW) (And.intro (HD.out.1.below hbW) (HD.out.2.below hbW)))))))
        clear hDx hDy hgc hyk hbw hbW hy0 hky hy hxG q1
        go_wp2_with fail
        refine (overD_n wr HX.out.2.2.2.2.2.1 HX.out.1 (by rw [HX.out.2.1]; exact HG.out.1) (by omega)).mono ?_
        rintro e w3 ⟨A5, k5, c5, _, _, _, rfl, hD5, _, hb5⟩
        rw [HX.out.2.1] at hD5
        have q1 := blk_below HX.out.2.2.2.1 hb5
        have HY := Aside0.mk (And.intro hD5 (And.intro (HX.out.1.below hb5) (And.intro (HX.out.2.2.1.trans (hb5.mono HX.out.2.2.1.size)) (And.intro q1 (And.intro (blk_below HX.out.2.2.2.2.1 hb5) (HX.out.2.2.2.2.2.2.below hb5))))))
        have HE := Aside0.mk HX.out.2.1
        clear hD5 hb5 x0 x1 x2 HX
        obtain ⟨x0, x1, x2, _⟩ := rat_cells q1
        clear q1
        go_wp2_with fail
        refine (overD_n w3 HY.out.2.2.2.2.2 HY.out.2.1 (by rw [HE.out]; exact HG.out.1) (by omega)).mono ?_
        rintro e w4 ⟨A6, k6, c6, _, _, _, rfl, hD6, _, hb6⟩
        rw [HE.out] at hD6
        have HX := Aside0.mk (And.intro (HY.out.1.below hb6) (And.intro hD6 (And.intro (HY.out.2.2.1.trans (hb6.mono HY.out.2.2.1.size)) (And.intro (blk_below HY.out.2.2.2.1 hb6) (blk_below HY.out.2.2.2.2.1 hb6)))))
        clear hD6 hb6 x0 x1 x2 HY HE
        generalize a / (Int.gcd a d : Int) = p at *
        generalize d / (Int.gcd a d : Int) = s at *
        go_wp2_with fail
        refine (smallD_n w4 HX.out.1 (by decide) (by decide) (by omega)).mono ?_
        rintro e w5 ⟨rfl, hb5⟩
        have HY := Aside0.mk (And.intro (HX.out.2.1.below hb5) (And.intro (HX.out.2.2.1.trans (hb5.mono HX.out.2.2.1.size)) (And.intro (blk_below HX.out.2.2.2.1 hb5) (blk_below HX.out.2.2.2.2 hb5))))
        clear hb5 HX
        have hq := HQ.out
        have hv := valid_sg (neg := neg) hq.1 hq.2
        by_cases b1 : 1152921504606846976 < p
        · have HV2 := Aside0.mk (show VV = .tuple #[.agg #[.int .i64 0, .int .i64 0], .int .i64 2] by rw [HV.out, hv, decide_eq_true b1]; rfl)
          rw [decide_eq_true b1, if_pos b1]
          clear b1 hq hv
          go_wp2_with fail
          refine (smallD_n w5 HY.out.1 (by decide) (by decide) (by omega)).mono ?_
          rintro e w6 ⟨rfl, hb6⟩
          have HX := Aside0.mk (And.intro (HY.out.2.1.trans (hb6.mono HY.out.2.1.size)) (And.intro (blk_below HY.out.2.2.1 hb6) (blk_below HY.out.2.2.2 hb6)))
          obtain ⟨x0, x1, x2, _⟩ := rat_cells HX.out.2.1
          obtain ⟨r0, r1, r2, r3⟩ := time_cells HX.out.2.2
          clear hb6 HY
          by_cases b2 : 1152921504606846976 < s
          · rw [decide_eq_true b2, if_pos b2]
            clear b2
            go_wp2_with fail
            refine bodyPost_ret (results_ct rfl _ _ (w.heap.size + 1) 25 #[.int .i64 0, .int .i64 0] (0, 0) _ rfl (blk_two HX.out.2.2) Try.underlying25 rfl (by kernel_rfl)) rfl ?_
            exact ⟨by rw [HV2.out]; rfl, (HX.out.1.setCell (by simp) _).setCell (by simp) _⟩
          · rw [decide_eq_false b2, if_neg b2]
            clear b2
            go_wp2_with fail
            refine bodyPost_ret (results_ct rfl _ _ (w.heap.size + 1) 25 #[.int .i64 0, .int .i64 0] (0, 0) _ rfl (blk_two HX.out.2.2) Try.underlying25 rfl (by kernel_rfl)) rfl ?_
            exact ⟨by rw [HV2.out]; rfl, (HX.out.1.setCell (by simp) _).setCell (by simp) _⟩
        · rw [decide_eq_false b1, if_neg b1]
          have HV1 := Aside0.mk (And.intro b1 hv)
          clear hv
          go_wp2_with fail
          refine (smallD_n w5 HY.out.1 (by decide) (by decide) (by omega)).mono ?_
          rintro e w6 ⟨rfl, hb6⟩
          have HX := Aside0.mk (And.intro (HY.out.2.1.trans (hb6.mono HY.out.2.1.size)) (And.intro (blk_below HY.out.2.2.1 hb6) (blk_below HY.out.2.2.2 hb6)))
          obtain ⟨x0, x1, x2, _⟩ := rat_cells HX.out.2.1
          obtain ⟨r0, r1, r2, r3⟩ := time_cells HX.out.2.2
          clear hb6 HY
          by_cases b2 : 1152921504606846976 < s
          · have HV2 := Aside0.mk (show VV = .tuple #[.agg #[.int .i64 0, .int .i64 0], .int .i64 2] by rw [HV.out, HV1.out.2, decide_eq_false (show ¬ 1152921504606846976 < p by omega), decide_eq_true b2]; rfl)
            rw [decide_eq_true b2, if_pos b2]
            clear b1 b2 hq
            go_wp2_with fail
            refine bodyPost_ret (results_ct rfl _ _ (w.heap.size + 1) 25 #[.int .i64 0, .int .i64 0] (0, 0) _ rfl (blk_two HX.out.2.2) Try.underlying25 rfl (by kernel_rfl)) rfl ?_
            exact ⟨by rw [HV2.out]; rfl, (HX.out.1.setCell (by simp) _).setCell (by simp) _⟩
          · rw [decide_eq_false b2, if_neg b2]
            have HV2 := Aside0.mk (show VV = .tuple #[.agg #[.int .i64 (sg neg p), .int .i64 s], .int .i64 0] by rw [HV.out, HV1.out.2, decide_eq_false (show ¬ 1152921504606846976 < p by omega), decide_eq_false b2]; rfl)
            cases neg with
            | true =>
              go_wp2_with fail
              refine bodyPost_ret (results_ct rfl _ _ (w.heap.size + 1) 25 #[.int .i64 (-p), .int .i64 s] (0, 0) _ rfl (blk_two HX.out.2.2) Try.underlying25 rfl (by kernel_rfl)) rfl ?_
              exact ⟨by rw [HV2.out]; rfl, (HX.out.1.setCell (by simp) _).setCell (by simp) _⟩
            | false =>
              go_wp2_with fail
              refine bodyPost_ret (results_ct rfl _ _ (w.heap.size + 1) 25 #[.int .i64 p, .int .i64 s] (0, 0) _ rfl (blk_two HX.out.2.2) Try.underlying25 rfl (by kernel_rfl)) rfl ?_
              exact ⟨by rw [HV2.out]; rfl, (HX.out.1.setCell (by simp) _).setCell (by simp) _⟩
      · cases gk with
        | zero => exfalso; omega
        | succ q1 =>
          have hkp : 0 < ky := by
            have : ky ≠ 0 := fun h => hy (hky.1 h)
            omega
          have HX := Aside0.mk (And.intro (And.intro hDx hDy) (And.intro hgc (And.intro hyk (And.intro hbw hbW))))
          have HP := Aside0.mk (show 0 < y by omega)
          clear hDx hDy hgc hyk hbw hbW hy0 hky hy
          go_wp2_with fail
          refine (overD_n wr HX.out.1.1 HX.out.1.2 HP.out (by omega)).mono ?_
          rintro e w3 ⟨_, _, _, A5, k5, c5, rfl, _, hD5, hb5⟩
          have HN := Aside0.mk (show GdI w w3 a d n (.slice Ay ky cy) (.slice A5 k5 c5) q1 from
            ⟨⟨Ay, ky, cy, A5, k5, c5, y, x % y, rfl, rfl, HX.out.1.2.below hb5, hD5, (gcd_mod x y).trans HX.out.2.1, by have := HX.out.2.2.1; have := Int.emod_lt_of_pos x HP.out; omega⟩, HX.out.2.2.2.1.trans (hb5.mono HX.out.2.2.2.1.size)⟩)
          have HB := Aside0.mk (HX.out.2.2.2.2.trans (hb5.mono HX.out.2.2.2.2.size))
          clear hD5 hb5
          go_wp2_with fail
          go_roundg q1
          case measure => omega
          case rel => exact ⟨HN, HB⟩
theorem timeV_n (N D E x : Int) (neg : Bool) (A1 A2 : Option Addr) (k1 c1 k2 c2 : Nat) (a d : Int) (n : Nat) (w : World) (hV : vLow x d = .tuple #[.agg #[.int .i64 N, .int .i64 D], .int .i64 E]) (h1 : Dec w (.slice A1 k1 c1) a n) (h2 : Dec w (.slice A2 k2 c2) d n) (hx : sg neg a = x) (hd : 1 ≤ d) (hl : n ≤ 400) :
    Calls Try.prog 51 #[.agg #[.bool neg, .slice A1 k1 c1, .slice A2 k2 c2]] w (ValP w (.tuple #[.agg #[.int .i64 N, .int .i64 D], .int .i64 E])) := by
  rw [← hV, ← hx]
  exact timeR_n neg A1 A2 k1 c1 k2 c2 a d n w h1 h2 hd hl
end Go.Proofs.Ytdginjpppgfdaaa.Fc

namespace Go.Proofs.Ytdginjpppgfdaaa.Fk
open Go.RowKit Go Go.Proofs.YtdginjpppgfdaaaW.PrintWords Go.Proofs.YtdginjpppgfdaaaW.PrintLast Go.Proofs.YtdginjpppgfdaaaW.PrintMore Go.Proofs.Ytdginjpppgfdaaa.Ml Go.Proofs.Ytdginjpppgfdaaa.Mn Go.Proofs.Ytdginjpppgfdaaa.Nd Go.Proofs.Ytdginjpppgfdaaa.P Go.Proofs.Ytdginjpppgfdaaa.Nc Go.Proofs.Ytdginjpppgfdaaa.Nb Go.Proofs.Ytdginjpppgfdaaa.Ea Go.Proofs.Ytdginjpppgfdaaa.Eb Go.Proofs.Ytdginjpppgfdaaa.Ec Go.Proofs.Ytdginjpppgfdaaa.Ee Go.Proofs.Ytdginjpppgfdaaa.La Go.Proofs.Ytdginjpppgfdaaa.Rb Go.Proofs.Ytdginjpppgfdaaa.Fa Go.Proofs.Ytdginjpppgfdaaa.Fb Go.Proofs.Ytdginjpppgfdaaa.Fx Go.Proofs.Ytdginjpppgfdaaa.Fc Go.Proofs.Ytdginjpppgfdaaa.Fj
set_option linter.unusedVariables false
set_option linter.unusedSimpArgs false

set_option maxHeartbeats 8000000 in
set_option maxRecDepth 100000 in
theorem rFrom_n (t s : Int) (w : World) : Calls Try.prog 18 #[.int .i64 t, .int .i64 s] w (ValP w (vFrom t s)) := by
  have hu := Try.underlying25
  have hb1 : Below w.heap.size w (w.alloc (timeObj 0 0)) := below_alloc (Below.refl _ w) _
  have hbk := blk_new w (timeObj 0 0)
  cases ht : isTicks t with
  | false =>
    rw [show vFrom t s = .tuple #[.agg #[.int .i64 0, .int .i64 0], .int .i64 1] by unfold vFrom; rw [ht]; rfl]
    go_enter Try.func18, Try.ntmps18
    go_wp2_with fail
    refine (risTick_n t _).mono ?_
    rintro e wx ⟨rfl, rfl⟩
    rw [ht]
    go_wp2_with fail
    refine bodyPost_ret (results_ct rfl _ _ w.heap.size 25 #[.int .i64 0, .int .i64 0] (0, 0) _ rfl (blk_new w _) Try.underlying25 rfl (by kernel_rfl)) rfl ?_
    exact ⟨rfl, below_alloc (Below.refl _ _) _⟩
  | true =>
    cases hs : isScale s with
    | false =>
      rw [show vFrom t s = .tuple #[.agg #[.int .i64 0, .int .i64 0], .int .i64 1] by unfold vFrom; rw [ht, hs]; rfl]
      go_enter Try.func18, Try.ntmps18
      go_wp2_with fail
      refine (risTick_n t _).mono ?_
      rintro e wx ⟨rfl, rfl⟩
      rw [ht]
      go_wp2_with fail
      refine (risScale_n s _).mono ?_
      rintro e wx ⟨rfl, rfl⟩
      rw [hs]
      go_wp2_with fail
      refine bodyPost_ret (results_ct rfl _ _ w.heap.size 25 #[.int .i64 0, .int .i64 0] (0, 0) _ rfl (blk_new w _) Try.underlying25 rfl (by kernel_rfl)) rfl ?_
      exact ⟨rfl, below_alloc (Below.refl _ _) _⟩
    | true =>
      have qs := isScale_bd hs
      have qt := isTicks_bd ht
      have hV : vLow t s = .tuple #[.agg #[.int .i64 (lowN t s), .int .i64 (lowD t s)], .int .i64 0] := by
        rw [vLow_pos qs.1, low_valid qs.1 (by omega) (by omega) (by omega)]
        rfl
      rw [show vFrom t s = .tuple #[.agg #[.int .i64 (lowN t s), .int .i64 (lowD t s)], .int .i64 0] by unfold vFrom; rw [ht, hs]; rfl]
      have HV := Aside0.mk hV
      clear hV
      generalize lowN t s = N at *
      generalize lowD t s = D at *
      go_enter Try.func18, Try.ntmps18
      go_wp2_with fail
      refine (risTick_n t _).mono ?_
      rintro e wx ⟨rfl, rfl⟩
      rw [ht]
      go_wp2_with fail
      refine (risScale_n s _).mono ?_
      rintro e wx ⟨rfl, rfl⟩
      rw [hs]
      go_wp2_with fail
      generalize hW : World.alloc w _ = W
      rw [show w.alloc (timeObj 0 0) = W from hW] at hb1 hbk
      refine (ratOf_n t s W (by omega) (by omega) (by omega) (by omega)).mono ?_
      rintro e w4 ⟨A4, k4, c4, A5, k5, c5, rfl, hD4, hD5, hb4⟩
      have HX := Aside0.mk (And.intro (And.intro hD4 hD5) (And.intro (hb1.trans (hb4.mono hb1.size)) (blk_below hbk hb4)))
      clear hD4 hD5 hb4 hb1 hbk hW
      go_wp2_with fail
      refine (timeV_n N D 0 t _ A4 A5 k4 c4 k5 c5 _ s 3 w4 HV.out HX.out.1.1 HX.out.1.2 (sg_abs' t) qs.1 (by decide)).mono ?_
      rintro e w5 ⟨rfl, hb5⟩
      have HY := Aside0.mk (And.intro (HX.out.2.1.trans (hb5.mono HX.out.2.1.size)) (blk_below HX.out.2.2 hb5))
      obtain ⟨r0, r1, r2, r3⟩ := time_cells HY.out.2
      clear hb5 HX
      go_wp2_with fail
      refine bodyPost_ret (results_ct rfl _ _ w.heap.size 25 #[.int .i64 N, .int .i64 D] (0, 0) _ rfl (blk_two HY.out.2) Try.underlying25 rfl (by kernel_rfl)) rfl ?_
      exact ⟨rfl, (HY.out.1.setCell (Nat.le_refl _) _).setCell (Nat.le_refl _) _⟩
end Go.Proofs.Ytdginjpppgfdaaa.Fk

namespace Go.Proofs.Ytdginjpppgfdaaa.Re
open Go.RowKit Go Go.Proofs.YtdginjpppgfdaaaW.PrintWords Go.Proofs.YtdginjpppgfdaaaW.PrintLast Go.Proofs.YtdginjpppgfdaaaW.PrintMore Go.Proofs.Ytdginjpppgfdaaa.Mn Go.Proofs.Ytdginjpppgfdaaa.Nd Go.Proofs.Ytdginjpppgfdaaa.Ea Go.Proofs.Ytdginjpppgfdaaa.Eb Go.Proofs.Ytdginjpppgfdaaa.Ec Go.Proofs.Ytdginjpppgfdaaa.Ee Go.Proofs.Ytdginjpppgfdaaa.Ra Go.Proofs.Ytdginjpppgfdaaa.Rb Go.Proofs.Ytdginjpppgfdaaa.Rc Go.Proofs.Ytdginjpppgfdaaa.Rd Go.Proofs.Ytdginjpppgfdaaa.Lb Go.Proofs.Ytdginjpppgfdaaa.Lw Go.Proofs.Ytdginjpppgfdaaa.Lc Go.Proofs.Ytdginjpppgfdaaa.Fj Go.Proofs.Ytdginjpppgfdaaa.Fk
set_option linter.unusedVariables false
set_option linter.unusedSimpArgs false

theorem FrT_n {t s N D E : Int} (hv : vFrom t s = tv (N, D, E)) (w : World) : Calls Try.prog 17 #[.int .i64 t, .int .i64 s] w (TvP w N D E) := (From_n t s w).mono fun e w' hp => TvP.of hp hv
theorem FFrT_n {t s N D E : Int} (hv : vFrom t s = tv (N, D, E)) (w : World) : Calls Try.prog 18 #[.int .i64 t, .int .i64 s] w (TvP w N D E) := (rFrom_n t s w).mono fun e w' hp => TvP.of hp hv
theorem RsT_n {t f s h N E : Int} (hv : vRescale t f s h = .tuple #[.int .i64 N, .int .i64 E]) (w : World) : Calls Try.prog 19 #[.int .i64 t, .int .i64 f, .int .i64 s, .int .i64 h] w (PvP w N E) := (Rescale_n t f s h w).mono fun e w' hp => PvP.of hp hv
theorem FRsT_n {t f s h N E : Int} (hv : vRescale t f s h = .tuple #[.int .i64 N, .int .i64 E]) (w : World) : Calls Try.prog 20 #[.int .i64 t, .int .i64 f, .int .i64 s, .int .i64 h] w (PvP w N E) := (rRescale_n t f s h w).mono fun e w' hp => PvP.of hp hv
theorem vFrom_form (t s : Int) : ∃ N D E, vFrom t s = tv (N, D, E) := by
  unfold vFrom
  split
  · exact ⟨_, _, _, rfl⟩
  · exact ⟨0, 0, 1, rfl⟩
theorem vRescale_form (t f s h : Int) : ∃ q e, vRescale t f s h = .tuple #[.int .i64 q, .int .i64 e] := by
  unfold vRescale
  split
  · exact vTicks_form _ _ _ _
  · exact ⟨_, _, rfl⟩
theorem five {w : World} {g : Nat} {a b c d e : Value} {t : TypeId} (h : w.heap[g]? = some (.cells #[a, b, c, d, e] t (0, 0))) : w.cell? ⟨g, 0, none⟩ = some a ∧ w.cell? ⟨g, 1, none⟩ = some b ∧ w.cell? ⟨g, 2, none⟩ = some c ∧ w.cell? ⟨g, 3, none⟩ = some d ∧ w.cell? ⟨g, 4, none⟩ = some e :=
  ⟨(blk_cell h 0).trans rfl, (blk_cell h 1).trans rfl, (blk_cell h 2).trans rfl, (blk_cell h 3).trans rfl, (blk_cell h 4).trans rfl⟩
set_option maxHeartbeats 32000000 in
set_option maxRecDepth 100000 in
theorem walk (t f k h b : Int) (w : World) (_ : (Lit.int .i64 t).wf = true) (_ : (Lit.int .i64 f).wf = true) (_ : (Lit.int .i64 k).wf = true) (_ : (Lit.int .i64 h).wf = true) (_ : (Lit.int .i64 b).wf = true) :
    Calls Try.prog 3 #[.agg #[.int .i64 t, .int .i64 f, .int .i64 k, .int .i64 h, .int .i64 b]] w (fun e w' => e = .returned (.bool true) ∧ Below w.heap.size w w') := by
  have hu := Try.underlying23
  have hu2 := Try.underlying25
  obtain ⟨N1, D1, E1, h1⟩ := vFrom_form t f
  obtain ⟨c2, e2, h2⟩ := vRescale_form t f k h
  have HC := Aside0.mk (And.intro (And.intro (FrT_n h1) (FFrT_n h1)) (And.intro (RsT_n h2) (FRsT_n h2)))
  clear h1 h2
  have hk0 := blk_new w (.cells #[.int .i64 t, .int .i64 f, .int .i64 k, .int .i64 h, .int .i64 b] 23)
  have S0 := Aside0.mk (show St w (w.alloc (.cells #[.int .i64 t, .int .i64 f, .int .i64 k, .int .i64 h, .int .i64 b] 23)) [] from ⟨below_alloc (Below.refl _ _) _, by simp⟩)
  go_enter Try.func3, Try.ntmps3
  go_wp2_with fail
  refine (HC.out.1.1 _).mono ?_
  rintro e w1 ⟨rfl, hb⟩
  have HS1 := Aside0.mk (St.call S0.out hb)
  have HK1 := Aside0.mk (blk_below hk0 hb)
  obtain ⟨a0, a1, a2, a3, a4⟩ := five HK1.out
  have l1 : w.heap.size < w1.heap.size := lt_of_some HK1.out
  clear hb hk0 S0
  go_wp2_with fail
  refine (HC.out.1.2 _).mono ?_
  rintro e w2 ⟨rfl, hb⟩
  have HS2 := Aside0.mk (St.call (HS1.out.box N1 D1 (g := w1.heap.size) rfl) hb)
  have HK2 := Aside0.mk (blk_below (blk_alloc HK1.out _) hb)
  clear hb a0 a1 a2 a3 a4 l1
  obtain ⟨a0, a1, a2, a3, a4⟩ := five HK2.out
  have l1 : w.heap.size < w2.heap.size := lt_of_some HK2.out
  have l2 := HS2.out.lt (g := w1.heap.size) (n := N1) (d := D1) (by simp)
  go_wp2_with fail
  refine (HC.out.2.1 _).mono ?_
  rintro e w3 ⟨rfl, hb⟩
  have HS3 := Aside0.mk (St.call (HS2.out.box N1 D1 (g := w2.heap.size) rfl) hb)
  have HK3 := Aside0.mk (blk_below (blk_alloc HK2.out _) hb)
  clear hb a0 a1 a2 a3 a4 l1 l2
  obtain ⟨a0, a1, a2, a3, a4⟩ := five HK3.out
  go_wp2_with fail
  refine (HC.out.2.2 _).mono ?_
  rintro e w4 ⟨rfl, hb⟩
  have HS4 := Aside0.mk (St.call HS3.out hb)
  clear hb a0 a1 a2 a3 a4
  obtain ⟨p0, p1⟩ := HS4.out.get (g := w1.heap.size) (n := N1) (d := D1) (by simp)
  obtain ⟨q0, q1⟩ := HS4.out.get (g := w2.heap.size) (n := N1) (d := D1) (by simp)
  go_wp2_with fail
  refine (awake_n _).mono ?_
  rintro e wz ⟨rfl, hb⟩
  go_wp2_with fail
  go_ret
  exact ⟨rfl, (St.call HS4.out hb).b⟩
end Go.Proofs.Ytdginjpppgfdaaa.Re

namespace Go.Proofs.Ytdginjpppgfdaaa.exactRescalesRow
open Go.ChangeShapes Go.WideShapes Go.ChangeAt Go.RowKit Go.Proofs.Ytdginjpppgfdaaa.O5
set_option linter.unusedVariables false
set_option maxRecDepth 100000 in
theorem lifted (os : Os) (started : os.Started) (H : Type) (enc : TypeId × Value → H) :
    ReturnsInHanded {} Try.checked os 3 .any (Rows.exactRescalesSpec.pre6 enc Try.prog Try.f3 Rows.exactRescalesRow.domain false) (Rows.exactRescalesSpec.post enc Try.prog Try.f3 false true false false) := by
  refine returnsInHanded_of_change_sized (C := Try.checked) own started (by kernel_rfl) Try.func3
    (ChangeSpec.witness6 (enc := enc) (C := Try.checked) false ⟨#[], #[.agg #[.int .i64 0, .int .i64 0, .int .i64 0, .int .i64 0, .int .i64 0]], []⟩ 8 (by kernel_rfl) (by kernel_rfl) (by kernel_rfl) (by kernel_rfl)) ?_
  intro W base args ds gs before hval0 hW hcnd hsz0 _
  have hval : ∀ (j : Nat) t v, Try.f3.params[j]? = some t → args[j]? = some v → Value.okWide Try.prog W .any base t v := hval0
  have hW' := hW
  obtain ⟨p, q, hA0, hV, rfl, hfz, hnd⟩ := hW
  have hA : DataW.TrodAll enc Try.prog W 0 (fun _ => true) true Try.f3.params.toList args.toList ds p := hA0
  rw [Try.params3] at hA hval
  obtain ⟨v0, vs0, d0, ds0, p0, q0, hargs, rfl, rfl, h0, r0⟩ := trodAll_cons hA
  obtain ⟨rfl, rfl, rfl⟩ := trodAll_nil r0
  obtain rfl : args = #[v0] := by cases args; simp_all
  obtain ⟨rfl, rfl⟩ := trodVars_none hV
  have k0 := h0
  have lt0 : ∀ x ∈ p0, x.block < W.heap.size := by obtain ⟨m, hm⟩ := k0; exact DataW.trod_lt m _ _ _ hm
  obtain ⟨a0_0, a0_1, a0_2, a0_3, a0_4, rfl, w0_0, w0_1, w0_2, w0_3, w0_4⟩ := open_ways (hval 0 23 v0 rfl rfl) h0
  clear hA0 hval0 hsz0
  refine (Re.walk a0_0 a0_1 a0_2 a0_3 a0_4 W w0_0 w0_1 w0_2 w0_3 w0_4).mono fun e W' ⟨he, bel⟩ => ?_
  subst he
  exact ⟨_, rfl, _, _, _, [], _, [], hW', trodAll_mk1 (shut_bool Try.underlying4 _), (trodAll_cons_mk (Below.trod laidOut (by kernel_rfl) (of_decide_eq_true (by kernel_rfl)) k0 bel lt0) trodAll_mk0), rfl, bel.frame _, fun h => by cases h⟩
theorem over : Rows.exactRescalesRow.holds Try.pinned (OpenSpec.ofChange Rows.exactRescalesSpec) :=
  OpenClaim.holds_of_wide 3 Try.f3 rfl rfl rfl rfl rfl rfl rfl ⟨rfl, rfl, rfl, rfl, rfl⟩ rfl rfl rfl rfl rfl (by kernel_rfl) Try.func3 (by kernel_rfl)
    (of_decide_eq_true (by kernel_rfl)) (by unfold Func.isWrapper; first | (rw [if_pos (by decide +kernel)]; kernel_rfl) | (rw [if_neg (by decide +kernel)]; exact ⟨rfl, rfl⟩))
    (fun os started H enc _ => lifted os started H enc)
end Go.Proofs.Ytdginjpppgfdaaa.exactRescalesRow
namespace Go.Proofs.Ytdginjpppgfdaaa
/-- The row, under a short name, for the claim. -/
theorem exactRescales_holds : Rows.ExactRescalesSaid := exactRescalesRow.over
#print axioms exactRescales_holds
end Go.Proofs.Ytdginjpppgfdaaa

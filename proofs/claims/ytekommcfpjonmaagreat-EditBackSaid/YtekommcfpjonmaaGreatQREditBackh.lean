/-
  valid and little: two times are looked at by a function. exact's valid and little; add and Add of little times; the law's awake. exact's ratio, cmp, add, Mul, Div, Sub, Lowest as values of whole numbers. exact's cmp and Cmp, add by numbers of any size, Add, Sub, Mul, Div, Lowest as values of whole numbers. exact's add by numbers of any size, Add, Sub, Mul, Div, Lowest as values of whole numbers. Spans looked at by a function: which are spans, which have a time. touching and join: neighbours put together. The draws of a run are never told back: whatever step of the machine counts on. A comparison whose contract tells only what lies below serves the shelf's sort. A block that holds spans: opened, written, sorted. The shelf's sort at this program: the table of numbers, and that its bodies are the shelf's (plain words, printed by the shelf's tool). Spans sorted: the comparison, and slices.SortFunc at it. join at touching: neighbours of a sorted list put together. exact.clean: filter, lowest terms, sort, join. exact.Clean.
-/
import Derived.Test.YtekommcfpjonmaaGreatQREditBackg
import Derived.Test.YtekommcfpjonmaaGreatQREditBackc
import Derived.Outline
import Derived.Calls
import GoSem.Step
import Derived.Below
import Derived.Shelf.SlSortCmp.InsertionK
import Derived.Shelf.SlSortCmp.WholeK
import Derived.Test.YtekommcfpjonmaaGreatProg
set_option linter.unusedVariables false
set_option linter.unusedSimpArgs false
set_option maxHeartbeats 8000000
set_option maxRecDepth 100000
namespace Go.Proofs.YtekommcfpjonmaaGreat.Ed
open RowKit Go YtekommcfpjonmaaGreatW.PrintWords YtekommcfpjonmaaGreatW.PrintLast YtekommcfpjonmaaGreatW.PrintMore Ml Mn Nd Z P Nc Nb Qa Qb Ea Eb Ec E
def Pair (w : World) (g : Nat) (n1 d1 n2 d2 : Int) : Prop := w.heap[g]? = some (.cells #[.int .i64 n1, .int .i64 d1, .int .i64 n2, .int .i64 d2] 24 (0, 0))
theorem index2_n (F : Nat) (p : Int → Int → Bool) (g : Nat) (n1 d1 n2 d2 : Int) (w : World) (hp : Pair w g n1 d1 n2 d2) (hE : ∀ args w, Sem.run Tryz.prog (callFunc F args) w = .ok (.enter F args) w)
  (hF : ∀ n d w, Calls Tryz.prog F #[tm n d] w (fun e w' => e = .returned (.bool (p n d)) ∧ Below w.heap.size w w')) :
  Calls Tryz.prog 148 #[.slice (some ⟨g, 0, none⟩) 2 2, .func (.func F) #[] #[]] w (fun e w' => ∃ i : Int, e = .returned (.int .i64 i) ∧ decide (0 ≤ i) = (p n1 d1 || p n2 d2) ∧ Below w.heap.size w w') := by
 have hu := Tryz.underlying24
 go_enter Tryz.func148, Tryz.ntmps148
 go_wp2_with fail
 go_loopg [8] 2 (fun kq v8 w' => ∃ i : Nat, v8 = .int .i64 (i : Int) ∧ Aside0 (i + kq = 2) ∧ Aside0 (Below w.heap.size w w') ∧ Aside0 (i = 0 ∨ p n1 d1 = false) ∧ Aside0 (i ≤ 1 ∨ p n2 d2 = false))
 case atStart => exact ⟨0, rfl, ⟨rfl⟩, ⟨Below.refl _ _⟩, ⟨.inl rfl⟩, ⟨.inl (by decide)⟩⟩
 case round =>
  obtain ⟨i, rfl, HK, HB, H1, H2⟩ := hrel
  cases gk with
  | zero =>
   obtain rfl : i = 2 := HK.out
   have q1 : p n1 d1 = false := by have := H1.out; simpa using this
   have q2 : p n2 d2 = false := by have := H2.out; simpa using this
   go_wp2_with fail
   go_ret
   exact ⟨_, rfl, by first | decide | (simp [q1, q2]; done) | simp [*], HB.out⟩
  | succ k1 =>
   have hi : i = 0 ∨ i = 1 := by have := HK.out; omega
   have hbk := blk_below hp HB.out
   rcases hi with rfl | rfl
   ·have hc0 : wr.cell? ⟨g, 0, none⟩ = some (.int .i64 n1) := (blk_cell hbk 0).trans rfl
    have hc1 : wr.cell? ⟨g, 1, none⟩ = some (.int .i64 d1) := (blk_cell hbk 1).trans rfl
    go_wp2_with fail
    refine (hF n1 d1 _).mono ?_
    rintro e w2 ⟨rfl, hb2⟩
    have HB2 := aS (HB.out.trans (hb2.mono HB.out.size))
    cases hq : p n1 d1 with
    | true =>
     go_wp2_with fail
     go_ret
     exact ⟨_, rfl, by first | decide | (simp [hq]; done) | simp [*], HB2.out⟩
    | false =>
     go_wp2_with fail
     go_roundg k1
     case measure => omega
     case rel => exact ⟨1, rfl, ⟨by have := HK.out; omega⟩, HB2, ⟨.inr hq⟩, ⟨.inl (Nat.le_refl _)⟩⟩
   have hc0 : wr.cell? ⟨g, 2, none⟩ = some (.int .i64 n2) := (blk_cell hbk 2).trans rfl
   have hc1 : wr.cell? ⟨g, 3, none⟩ = some (.int .i64 d2) := (blk_cell hbk 3).trans rfl
   have q1 : p n1 d1 = false := by have := H1.out; simpa using this
   go_wp2_with fail
   refine (hF n2 d2 _).mono ?_
   rintro e w2 ⟨rfl, hb2⟩
   have HB2 := aS (HB.out.trans (hb2.mono HB.out.size))
   cases hq : p n2 d2 with
   | true =>
    go_wp2_with fail
    go_ret
    exact ⟨_, rfl, by first | decide | (simp [hq, q1]; done) | simp [*], HB2.out⟩
   | false =>
    go_wp2_with fail
    go_roundg k1
    case measure => omega
    case rel => exact ⟨2, rfl, ⟨by have := HK.out; omega⟩, HB2, ⟨.inr q1⟩, ⟨.inr hq⟩⟩
theorem has2_n (F : Nat) (p : Int → Int → Bool) (g : Nat) (n1 d1 n2 d2 : Int) (w : World) (hp : Pair w g n1 d1 n2 d2) (hE : ∀ args w, Sem.run Tryz.prog (callFunc F args) w = .ok (.enter F args) w)
  (hF : ∀ n d w, Calls Tryz.prog F #[tm n d] w (fun e w' => e = .returned (.bool (p n d)) ∧ Below w.heap.size w w')) :
  Calls Tryz.prog 104 #[.slice (some ⟨g, 0, none⟩) 2 2, .func (.func F) #[] #[]] w (ValP w (.bool (p n1 d1 || p n2 d2))) := by
 go_enter Tryz.func104, Tryz.ntmps104
 go_wp2_with fail
 refine (index2_n F p g n1 d1 n2 d2 w hp hE hF).mono ?_
 rintro e w2 ⟨i, rfl, hi, hb2⟩
 go_wp2_with fail
 go_ret
 exact ⟨ret_b (by first | exact hi | rfl), hb2⟩
theorem notValid_n (n d : Int) (w : World) : Calls Tryz.prog 105 #[tm n d] w (fun e w' => e = .returned (.bool (!valid n d)) ∧ Below w.heap.size w w') := by
 have hu := Tryz.underlying24
 unfold tm
 go_enter Tryz.func105, Tryz.ntmps105
 go_wp2_with fail
 refine (Ea.Valid_n n d _).mono ?_
 rintro e w2 ⟨rfl, hb2⟩
 go_wp2_with fail
 go_ret
 exact ⟨rfl, (below_alloc (Below.refl _ w) _).trans (hb2.mono (by simp))⟩
def small (n d : Int) : Bool := decide (n < 1073741824) && decide (-1073741824 < n) && decide (d < 1073741824)
theorem large_n (n d : Int) (w : World) : Calls Tryz.prog 133 #[tm n d] w (fun e w' => e = .returned (.bool (!small n d)) ∧ Below w.heap.size w w') := by
 have hu := Tryz.underlying24
 unfold tm
 go_enter Tryz.func133, Tryz.ntmps133
 go_wp2
 all_goals
  go_ret
  refine ⟨ret_b ?_, below_alloc (Below.refl _ _) _⟩
  unfold small
  first | (simp_all; done) | (simp_all; omega) | grind
end Go.Proofs.YtekommcfpjonmaaGreat.Ed
namespace Go.Proofs.YtekommcfpjonmaaGreat.Ee
open RowKit Go YtekommcfpjonmaaGreatW.PrintWords YtekommcfpjonmaaGreatW.PrintLast YtekommcfpjonmaaGreatW.PrintMore Ml Mn Nd Z P Nc Nb Qa Qb Ea Eb Ec Ed E
theorem valid2_n (g : Nat) (n1 d1 n2 d2 : Int) (w : World) (hp : Pair w g n1 d1 n2 d2) :
  Calls Tryz.prog 56 #[.slice (some ⟨g, 0, none⟩) 2 2] w (ValP w (.bool (valid n1 d1 && valid n2 d2))) := by
 go_enter Tryz.func56, Tryz.ntmps56
 go_wp2_with fail
 refine (has2_n 105 (fun n d => !valid n d) g n1 d1 n2 d2 w hp (fun _ _ => by go_simp) notValid_n).mono ?_
 rintro e w2 ⟨rfl, hb2⟩
 go_wp2_with fail
 go_ret
 exact ⟨ret_b (by cases valid n1 d1 <;> cases valid n2 d2 <;> rfl), hb2⟩
theorem little2_n (g : Nat) (n1 d1 n2 d2 : Int) (w : World) (hp : Pair w g n1 d1 n2 d2) :
  Calls Tryz.prog 87 #[.slice (some ⟨g, 0, none⟩) 2 2] w (ValP w (.bool (small n1 d1 && small n2 d2))) := by
 go_enter Tryz.func87, Tryz.ntmps87
 go_wp2_with fail
 refine (has2_n 133 (fun n d => !small n d) g n1 d1 n2 d2 w hp (fun _ _ => by go_simp) large_n).mono ?_
 rintro e w2 ⟨rfl, hb2⟩
 go_wp2_with fail
 go_ret
 exact ⟨ret_b (by cases small n1 d1 <;> cases small n2 d2 <;> rfl), hb2⟩
theorem mul_bd {a b : Int} (a0 : -1073741824 < a) (a1 : a < 1073741824) (b0 : 1 ≤ b) (b1 : b < 1073741824) : -1152921504606846976 < a * b ∧ a * b < 1152921504606846976 := by
 have h1 : a * b ≤ 1073741823 * b := Int.mul_le_mul_of_nonneg_right (by omega) (by omega)
 have h2 : -1073741823 * b ≤ a * b := Int.mul_le_mul_of_nonneg_right (by omega) (by omega)
 omega
def timeObj (n d : Int) : Obj := .cells #[.int .i64 n, .int .i64 d] 24 (0, 0)
theorem time_cells {w : World} {g : Nat} {n d : Int} (h : w.heap[g]? = some (timeObj n d)) : w.cell? ⟨g, 0, none⟩ = some (.int .i64 n) ∧ w.cell? ⟨g, 1, none⟩ = some (.int .i64 d) ∧ w.frozen? ⟨g, 0, none⟩ = false ∧ w.frozen? ⟨g, 1, none⟩ = false :=
 ⟨(blk_cell h 0).trans rfl, (blk_cell h 1).trans rfl, blk_frozen h 0, blk_frozen h 1⟩
end Go.Proofs.YtekommcfpjonmaaGreat.Ee
namespace Go.Proofs.YtekommcfpjonmaaGreat.Rb
open RowKit Go YtekommcfpjonmaaGreatW.PrintWords YtekommcfpjonmaaGreatW.PrintLast YtekommcfpjonmaaGreatW.PrintMore Ml Mn Nd Z P Nc Nb Qa Qb Ea Eb Ec Ed Ee Ra
end Go.Proofs.YtekommcfpjonmaaGreat.Rb
namespace Go.Proofs.YtekommcfpjonmaaGreat.Rc
open RowKit Go YtekommcfpjonmaaGreatW.PrintWords YtekommcfpjonmaaGreatW.PrintLast YtekommcfpjonmaaGreatW.PrintMore Ml Mn Nd Z P Nc Nb Qa Qb Ea Eb Ec Ed Ee Ra Rb
structure Boxed2 (w W : World) (n1 d1 n2 d2 : Int) : Prop where
 a : W.heap[w.heap.size]? = some (timeObj n1 d1)
 b : W.heap[w.heap.size + 1]? = some (timeObj n2 d2)
 s : Pair W (w.heap.size + 1 + 1) n1 d1 n2 d2
 below : Below w.heap.size w W
theorem Boxed2.start (w : World) (n1 d1 n2 d2 : Int) : Boxed2 w (((w.alloc (timeObj n1 d1)).alloc (timeObj n2 d2)).alloc (.cells #[.int .i64 n1, .int .i64 d1, .int .i64 n2, .int .i64 d2] 24)) n1 d1 n2 d2 := by
 have e1 : (w.alloc (timeObj n1 d1)).heap.size = w.heap.size + 1 := by simp
 have e2 : ((w.alloc (timeObj n1 d1)).alloc (timeObj n2 d2)).heap.size = w.heap.size + 1 + 1 := by simp
 have k4 := blk_new ((w.alloc (timeObj n1 d1)).alloc (timeObj n2 d2)) (.cells #[.int .i64 n1, .int .i64 d1, .int .i64 n2, .int .i64 d2] 24)
 have k2 := blk_new (w.alloc (timeObj n1 d1)) (timeObj n2 d2)
 have k1 := blk_new w (timeObj n1 d1)
 rw [e2] at k4
 rw [e1] at k2
 refine ⟨blk_alloc (blk_alloc k1 _) _, blk_alloc k2 _, k4, below_alloc (below_alloc (below_alloc (Below.refl _ w) _) _) _⟩
theorem Boxed2.step {w W W2 : World} {n1 d1 n2 d2 : Int} (h : Boxed2 w W n1 d1 n2 d2) (hb : Below W.heap.size W W2) : Boxed2 w W2 n1 d1 n2 d2 :=
 ⟨blk_below h.a hb, blk_below h.b hb, blk_below (o := .cells _ _ _) h.s hb, h.below.trans (hb.mono h.below.size)⟩
theorem valid_bd {n d : Int} (h : valid n d = true) : 1 ≤ d ∧ d ≤ 1152921504606846976 ∧ -1152921504606846976 ≤ n ∧ n ≤ 1152921504606846976 := by
 unfold valid at h
 simp at h
 omega
theorem xcmpS_n (n1 d1 n2 d2 : Int) (w : World) (h1 : small n1 d1 = true) (h2 : small n2 d2 = true) (p1 : 1 ≤ d1) (p2 : 1 ≤ d2) :
  Calls Tryz.prog 50 #[tm n1 d1, tm n2 d2] w (ValP w (.int .i64 (cmpI (n1 * d2) (n2 * d1)))) := by
 have hu := Tryz.underlying24
 have hB := aS (Boxed2.start w n1 d1 n2 d2)
 have hs1 : (n1 < 1073741824 ∧ -1073741824 < n1) ∧ d1 < 1073741824 := by unfold small at h1; simpa using h1
 have hs2 : (n2 < 1073741824 ∧ -1073741824 < n2) ∧ d2 < 1073741824 := by unfold small at h2; simpa using h2
 obtain ⟨x1, x2⟩ := mul_bd hs1.1.2 hs1.1.1 p2 hs2.2
 obtain ⟨y1, y2⟩ := mul_bd hs2.1.2 hs2.1.1 p1 hs1.2
 have e1 : wrap64 (n1 * d2) = n1 * d2 := w64 (by omega) (by omega)
 have e2 : wrap64 (n2 * d1) = n2 * d1 := w64 (by omega) (by omega)
 generalize hX : n1 * d2 = X at *
 generalize hY : n2 * d1 = Y at *
 have E := aS (And.intro e1 e2)
 clear hs1 hs2 e1 e2
 unfold tm
 go_enter Tryz.func50, Tryz.ntmps50
 go_wp2_with fail
 generalize hW : World.alloc (World.alloc _ _) _ = W
 have HB := aS (show Boxed2 w W n1 d1 n2 d2 by rw [← hW]; exact hB.out)
 clear hW hB
 refine (little2_n _ n1 d1 n2 d2 W HB.out.s).mono ?_
 rintro e w2 ⟨rfl, hb2⟩
 rw [h1, h2]
 have HB2 := aS (HB.out.step hb2)
 clear hb2 HB
 obtain ⟨a0, a1, _, _⟩ := time_cells HB2.out.a
 obtain ⟨b0, b1, _, _⟩ := time_cells HB2.out.b
 have E1 : wrap64 (n1 * d2) = X := by rw [hX]; exact E.out.1
 have E2 : wrap64 (n2 * d1) = Y := by rw [hY]; exact E.out.2
 clear hX hY
 go_wp2_with fail
 refine start_ (n := 12) (S := fun w' => w'.cell? ⟨w.heap.size, 0, none⟩ = some (.int .i64 n1) ∧ w'.cell? ⟨w.heap.size, 1, none⟩ = some (.int .i64 d1) ∧ w'.cell? ⟨w.heap.size + 1, 0, none⟩ = some (.int .i64 n2) ∧ w'.cell? ⟨w.heap.size + 1, 1, none⟩ = some (.int .i64 d2)) (ds := []) (bs 12 0) (by kernel_rfl) rfl rfl ⟨a0, a1, b0, b1⟩ (fun hHeld => ?_)
 refine zP 0 11 12 1 ?_
 refine zP 2 13 12 5 ?_
 refine zP 5 16 12 37 ?_
 refine zP 7 18 12 165 ?_
 refine zT 1 12 12 167 hHeld ?_
 refine zT 3 14 12 175 hHeld ?_
 refine zP 4 15 12 191 ?_
 refine zP 10 5 12 1215 ?_
 refine zT 6 17 12 1279 hHeld ?_
 refine zT 8 19 12 1535 hHeld ?_
 refine zP 9 20 12 2047 ?_
 refine zP 11 6 12 4095 ?_
 refine done_ (by kernel_rfl) ?_
 have hbd : Below w.heap.size w w2.drew := HB2.out.below.trans ((below_drew' (Below.refl _ _)).mono HB2.out.below.size)
 have HBD := aS hbd
 clear hbd
 rcases Int.lt_trichotomy X Y with h | h | h
 ·have hc : cmpI X Y = -1 := by unfold cmpI; rw [if_pos h]
  have HC := aS hc
  clear hc
  go_wp2
  go_ret
  exact ⟨ret_i HC.out.symm, HBD.out⟩
 ·subst h
  have hc : cmpI X X = 0 := by unfold cmpI; rw [if_neg (by omega), if_neg (by omega)]
  have HC := aS hc
  clear hc
  go_wp2
  go_ret
  exact ⟨ret_i HC.out.symm, HBD.out⟩
 have hc : cmpI X Y = 1 := by unfold cmpI; rw [if_neg (by omega), if_pos h]
 have HC := aS hc
 clear hc
 go_wp2
 go_ret
 exact ⟨ret_i HC.out.symm, HBD.out⟩
theorem xcmpL_n (n1 d1 n2 d2 : Int) (w : World) (hl : (small n1 d1 && small n2 d2) = false) (v1 : valid n1 d1 = true) (v2 : valid n2 d2 = true) :
  Calls Tryz.prog 50 #[tm n1 d1, tm n2 d2] w (ValP w (.int .i64 (cmpI (n1 * d2) (n2 * d1)))) := by
 have hu := Tryz.underlying24
 have hB := aS (Boxed2.start w n1 d1 n2 d2)
 have q1 := valid_bd v1
 have q2 := valid_bd v2
 unfold tm
 go_enter Tryz.func50, Tryz.ntmps50
 go_wp2_with fail
 generalize hW : World.alloc (World.alloc _ _) _ = W
 have HB := aS (show Boxed2 w W n1 d1 n2 d2 by rw [← hW]; exact hB.out)
 clear hW hB
 refine (little2_n _ n1 d1 n2 d2 W HB.out.s).mono ?_
 rintro e w2 ⟨rfl, hb2⟩
 rw [hl]
 have HB2 := aS (HB.out.step hb2)
 clear hb2 HB
 obtain ⟨a0, a1, _, _⟩ := time_cells HB2.out.a
 obtain ⟨b0, b1, _, _⟩ := time_cells HB2.out.b
 go_wp2_with fail
 refine start_ (n := 12) (S := fun w' => w'.cell? ⟨w.heap.size, 0, none⟩ = some (.int .i64 n1) ∧ w'.cell? ⟨w.heap.size, 1, none⟩ = some (.int .i64 d1) ∧ w'.cell? ⟨w.heap.size + 1, 0, none⟩ = some (.int .i64 n2) ∧ w'.cell? ⟨w.heap.size + 1, 1, none⟩ = some (.int .i64 d2)) (ds := []) (bs 12 0) (by kernel_rfl) rfl rfl ⟨a0, a1, b0, b1⟩ (fun hHeld => ?_)
 refine zP 0 29 12 1 ?_
 refine zP 2 31 12 5 ?_
 refine zP 5 34 12 37 ?_
 refine zP 7 36 12 165 ?_
 refine zT 1 30 12 167 hHeld ?_
 refine zT 3 32 12 175 hHeld ?_
 refine zT 6 35 12 239 hHeld ?_
 refine zT 8 37 12 495 hHeld ?_
 refine zN 4 (some 33) 12 511 (fun K hK => ?_)
 refine zG Tryz.func81 #[.int .i64 n1, .int .i64 d2] ?_
 with_reducible refine (product_n n1 d2 _ (by omega) (by omega) (by omega) (by omega)).mono ?_
 rintro e w4 ⟨g4, hg4, rfl, hb4, hN4⟩
 refine ⟨_, rfl, ?_⟩
 have hb4' := below_drew' hb4
 refine hK.out _ _ ⟨pw_cell_below hb4' a0, pw_cell_below hb4' a1, pw_cell_below hb4' b0, pw_cell_below hb4' b1⟩ (fun hHeld => ?_)
 clear hK K
 refine zM 33 ?_
 refine zN 9 (some 38) 12 1023 (fun K hK => ?_)
 refine zG Tryz.func81 #[.int .i64 n2, .int .i64 d1] ?_
 with_reducible refine (product_n n2 d1 w4 (by omega) (by omega) (by omega) (by omega)).mono ?_
 rintro e w5 ⟨g5, hg5, rfl, hb5, hN5⟩
 refine ⟨_, rfl, ?_⟩
 have hb45 := hb4'.trans (hb5.mono hb4'.size)
 refine hK.out _ _ ⟨pw_cell_below hb45 a0, pw_cell_below hb45 a1, pw_cell_below hb45 b0, pw_cell_below hb45 b1⟩ (fun hHeld => ?_)
 clear hK K
 refine zM 38 ?_
 refine zN 10 (some 39) 12 2047 (fun K hK => ?_)
 refine zG Tryz.func100 #[.pointer (some ⟨g4, 0, none⟩), .pointer (some ⟨g5, 0, none⟩)] ?_
 with_reducible refine (cmp_n g4 0 g5 0 (n1 * d2) (n2 * d1) 4 4 w5 (hN4.below hb5) hN5 (by decide)).mono ?_
 rintro e w6 ⟨rfl, hb6⟩
 refine ⟨_, rfl, ?_⟩
 have hb46 := hb45.trans (hb6.mono hb45.size)
 refine hK.out _ _ ⟨pw_cell_below hb46 a0, pw_cell_below hb46 a1, pw_cell_below hb46 b0, pw_cell_below hb46 b1⟩ (fun hHeld => ?_)
 clear hK K
 refine zM 39 ?_
 refine zP 11 4 12 4095 ?_
 refine done_ (by kernel_rfl) ?_
 have HB6 := aS (HB2.out.below.trans (hb46.mono HB2.out.below.size))
 clear hb46 hb45 hb4 hb4' hb5 hb6 hN4 hN5 a0 a1 b0 b1 HB2 hHeld
 go_wp2
 go_ret
 exact ⟨rfl, HB6.out⟩
theorem xcmp_n (n1 d1 n2 d2 : Int) (w : World) (v1 : valid n1 d1 = true) (v2 : valid n2 d2 = true) :
  Calls Tryz.prog 50 #[tm n1 d1, tm n2 d2] w (ValP w (.int .i64 (cmpI (n1 * d2) (n2 * d1)))) := by
 cases h : (small n1 d1 && small n2 d2) with
 | true =>
  simp only [Bool.and_eq_true] at h
  exact xcmpS_n n1 d1 n2 d2 w h.1 h.2 (valid_bd v1).1 (valid_bd v2).1
 | false => exact xcmpL_n n1 d1 n2 d2 w h v1 v2
end Go.Proofs.YtekommcfpjonmaaGreat.Rc
namespace Go.Proofs.YtekommcfpjonmaaGreat.Rd
open RowKit Go YtekommcfpjonmaaGreatW.PrintWords YtekommcfpjonmaaGreatW.PrintLast YtekommcfpjonmaaGreatW.PrintMore Ml Mn Nd Z P Nc Nb Qa Qb Ea Eb Ec Ed Ee Ra Rb Rc E
end Go.Proofs.YtekommcfpjonmaaGreat.Rd
namespace Go.Proofs.YtekommcfpjonmaaGreat.Xv
open RowKit Go YtekommcfpjonmaaGreatW.PrintWords YtekommcfpjonmaaGreatW.PrintLast YtekommcfpjonmaaGreatW.PrintMore Ml Mn Nd Z Ea Eb Ed Ee Rf Rc Rd E Sg Sx Sy
theorem q_lt {a b c d : Int} (hb : 0 < b) (hd : 0 < d) : qq a b < qq c d ↔ a * d < c * b := by
 obtain ⟨g, hg, e1, e2⟩ := parts (a := a) hb
 obtain ⟨h, hh, e3, e4⟩ := parts (a := c) hd
 rw [Rat.lt_iff]
 generalize (qq a b).num = N1 at *
 generalize ((qq a b).den : Int) = D1 at *
 generalize (qq c d).num = N2 at *
 generalize ((qq c d).den : Int) = D2 at *
 subst e1 e2 e3 e4
 have k1 : N1 * g * (D2 * h) = N1 * D2 * (g * h) := by grind
 have k2 : N2 * h * (D1 * g) = N2 * D1 * (g * h) := by grind
 rw [k1, k2]
 exact (Int.mul_lt_mul_right (Int.mul_pos hg hh)).symm
theorem cmp_qT {a b : Tm} (ha : vT a = true) (hb : vT b = true) : cmpI (a.f0 * b.f1) (b.f0 * a.f1) = cmpQ (qT a) (qT b) := by
 have h1 := (vT_is ha).2.1
 have h2 := (vT_is hb).2.1
 unfold cmpI cmpQ qT
 simp only [q_lt (a := a.f0) (c := b.f0) (show 0 < a.f1 by omega) (show 0 < b.f1 by omega), q_lt (a := b.f0) (c := a.f0) (show 0 < b.f1 by omega) (show 0 < a.f1 by omega)]
theorem cmpT_n {a b : Tm} (ha : vT a = true) (hb : vT b = true) (w : World) : Calls Tryz.prog 50 #[.agg #[.int .i64 a.f0, .int .i64 a.f1], .agg #[.int .i64 b.f0, .int .i64 b.f1]] w (ValP w (.int .i64 (cmpQ (qT a) (qT b)))) := by
 have h := xcmp_n a.f0 a.f1 b.f0 b.f1 w ha hb
 rw [cmp_qT ha hb] at h
 exact h
theorem cq_lt {p q : Rat} (h : p < q) : cmpQ p q = -1 := if_pos h
theorem cq_ge {p q : Rat} (h : ¬ p < q) : ∃ c : Int, 0 ≤ c ∧ cmpQ p q = c := ⟨_, by unfold cmpQ; rw [if_neg h]; split <;> decide, rfl⟩
theorem cq_gt {p q : Rat} (h : q < p) : cmpQ p q = 1 := by unfold cmpQ; rw [if_neg (by grind), if_pos h]
theorem cq_le {p q : Rat} (h : ¬ q < p) : ∃ c : Int, c ≤ 0 ∧ cmpQ p q = c := ⟨_, by unfold cmpQ; rw [if_neg h]; split <;> decide, rfl⟩
theorem sn_cells {w : World} {g : Nat} {t : TypeId} {a b c d : Value} (h : w.heap[g]? = some (.cells #[a, b, c, d] t (0, 0))) : w.cell? ⟨g, 0, none⟩ = some a ∧ w.cell? ⟨g, 1, none⟩ = some b ∧ w.cell? ⟨g, 2, none⟩ = some c ∧ w.cell? ⟨g, 3, none⟩ = some d :=
 ⟨(blk_cell h 0).trans rfl, (blk_cell h 1).trans rfl, (blk_cell h 2).trans rfl, (blk_cell h 3).trans rfl⟩
theorem any_drop (p : Sn → Bool) (l : List Sn) {i : Int} (h0 : 0 ≤ i) (h1 : i < (l.length : Int)) : (l.drop i.toNat).any p = (p (rd_T53 l i) || (l.drop (i + 1).toNat).any p) ∧ rd_T53 l i ∈ l := by
 have hn : i.toNat < l.length := by omega
 have hi : (i + 1).toNat = i.toNat + 1 := by omega
 have hg : rd_T53 l i = l[i.toNat] := by
  unfold rd_T53
  rw [List.getD_eq_getElem?_getD, List.getElem?_eq_getElem hn]
  rfl
 rw [hi, hg, List.drop_eq_getElem_cons hn]
 exact ⟨rfl, List.getElem_mem hn⟩
theorem index0_n (F : Nat) (p : Sn → Bool) (A : Option Addr) (c : Nat) (l : List Sn) (w : World) (hr : Kd.C k53 w A l.length l) (hl : l.length ≤ 1000000) (hE : ∀ args w, Sem.run Tryz.prog (callFunc F args) w = .ok (.enter F args) w)
  (hF : ∀ x ∈ l, ∀ W, Below w.heap.size w W → Calls Tryz.prog F #[.agg #[.int .i64 x.f0.f0, .int .i64 x.f0.f1, .int .i64 x.f1.f0, .int .i64 x.f1.f1]] W (ValP W (.bool (p x)))) :
  Calls Tryz.prog 99 #[.slice A l.length c, .func (.func F) #[] #[]] w (fun e w' => ∃ i : Int, e = .returned (.int .i64 i) ∧ decide (0 ≤ i) = l.any p ∧ Below w.heap.size w w') := by
 have hu := Tryz.underlying53
 have HR := aS (And.intro hr hF)
 have HL := aS hl
 clear hr hF hl
 go_enter Tryz.func99, Tryz.ntmps99
 go_wp2_with fail
 go_loopg [8] l.length (fun kq v8 w' => ∃ i : Int, v8 = .int .i64 i ∧ Aside0 (0 ≤ i ∧ i + kq = l.length ∧ l.any p = (l.drop i.toNat).any p) ∧ Aside0 (Below w.heap.size w w'))
 case atStart => exact ⟨0, rfl, ⟨by simp, by simp, by simp⟩, ⟨Below.refl _ _⟩⟩
 case round =>
  obtain ⟨i, rfl, hi, HB⟩ := hrel
  by_cases hlt : i < (l.length : Int)
  ·have hlb : decide (i < (l.length : Int)) = true := decide_eq_true hlt
   have p0 := hi.out.1
   obtain ⟨ad, hA, q0, q1, q2, q3⟩ := at_T53 (Kd.C_below HR.out.1 HB.out) i p0 hlt
   have HD := aS (any_drop p l p0 hlt)
   obtain ⟨k1, rfl⟩ : ∃ k, gk = k + 1 := ⟨gk - 1, by have := hi.out; omega⟩
   have HW := aS (And.intro (show wrap64 (i + 1) = i + 1 by have := HL.out; exact w64 (by omega) (by omega)) (show 0 ≤ i + 1 ∧ i + 1 + (k1 : Int) = l.length by have := hi.out.2.1; omega))
   have HF := aS (HR.out.2 _ HD.out.2 wr HB.out)
   have HI := aS hi.out
   subst hA
   generalize rd_T53 l i = X at *
   have hp0 := p0
   replace p0 := eq_true p0
   replace hlt := eq_true hlt
   clear hi
   go_wp2_with fail
   refine HF.out.mono ?_
   rintro e w2 ⟨rfl, hb2⟩
   have HB2 := aS (HB.out.trans (hb2.mono HB.out.size))
   clear hb2 HF q0 q1 q2 q3
   obtain ⟨b, hb⟩ : ∃ b : Bool, b = p X := ⟨_, rfl⟩
   rw [← hb]
   cases b with
   | true =>
    have Hb := aS hb
    clear hb
    go_wp2_with fail
    go_ret
    exact ⟨_, rfl, by rw [HI.out.2.2, HD.out.1, ← Hb.out, Bool.true_or]; exact decide_eq_true hp0, HB2.out⟩
   | false =>
    have Hb := aS hb
    clear hb
    go_wp2_with fail
    go_roundg k1
    case measure => omega
    case rel => exact ⟨i + 1, by rw [HW.out.1], ⟨HW.out.2.1, HW.out.2.2, by rw [HI.out.2.2, HD.out.1, ← Hb.out, Bool.false_or]⟩, ⟨HB2.out⟩⟩
  have hlb : decide (i < (l.length : Int)) = false := decide_eq_false hlt
  have HV := aS (show l.any p = false by rw [hi.out.2.2, List.drop_of_length_le (by have := hi.out; omega)]; rfl)
  replace hlt := eq_false hlt
  clear hi
  go_wp2_with fail
  go_ret
  exact ⟨-1, rfl, by rw [HV.out]; rfl, HB.out⟩
theorem has0_n (F : Nat) (p : Sn → Bool) (A : Option Addr) (c : Nat) (l : List Sn) (w : World) (hr : Kd.C k53 w A l.length l) (hl : l.length ≤ 1000000) (hE : ∀ args w, Sem.run Tryz.prog (callFunc F args) w = .ok (.enter F args) w)
  (hF : ∀ x ∈ l, ∀ W, Below w.heap.size w W → Calls Tryz.prog F #[.agg #[.int .i64 x.f0.f0, .int .i64 x.f0.f1, .int .i64 x.f1.f0, .int .i64 x.f1.f1]] W (ValP W (.bool (p x)))) :
  Calls Tryz.prog 48 #[.slice A l.length c, .func (.func F) #[] #[]] w (ValP w (.bool (l.any p))) := by
 have HX := aS (index0_n F p A c l w hr hl hE hF)
 clear hr hF hl
 go_enter Tryz.func48, Tryz.ntmps48
 go_wp2_with fail
 refine HX.out.mono ?_
 rintro e w2 ⟨i, rfl, hi, hb2⟩
 have HI := aS hi
 clear hi
 go_wp2_with fail
 go_ret
 exact ⟨ret_b (by rw [← HI.out]), hb2⟩
structure Bs (w W : World) (s : Sn) : Prop where
 c : W.heap[w.heap.size]? = some (.cells #[.int .i64 s.f0.f0, .int .i64 s.f0.f1, .int .i64 s.f1.f0, .int .i64 s.f1.f1] 53 (0, 0))
 below : Below w.heap.size w W
theorem Bs.start (w : World) (s : Sn) : Bs w (w.alloc (.cells #[.int .i64 s.f0.f0, .int .i64 s.f0.f1, .int .i64 s.f1.f0, .int .i64 s.f1.f1] 53 (0, 0))) s := ⟨blk_new w _, below_alloc (Below.refl _ w) _⟩
theorem Bs.step {w W W2 : World} {s : Sn} (h : Bs w W s) (hb : Below W.heap.size W W2) : Bs w W2 s := ⟨blk_below h.c hb, h.below.trans (hb.mono h.below.size)⟩
theorem bad_n (s : Sn) (w : World) : Calls Tryz.prog 86 #[.agg #[.int .i64 s.f0.f0, .int .i64 s.f0.f1, .int .i64 s.f1.f0, .int .i64 s.f1.f1]] w (ValP w (.bool (!vS s))) := by
 have hu := Tryz.underlying53
 have hu2 := Tryz.underlying24
 have hB := aS (Bs.start w s)
 go_enter Tryz.func86, Tryz.ntmps86
 go_upto_region 1 with fail
 generalize World.alloc w _ = W at *
 obtain ⟨q0, q1, q2, q3⟩ := sn_cells hB.out.c
 have hp := aS (show Pair (W.alloc (.cells #[.int .i64 s.f0.f0, .int .i64 s.f0.f1, .int .i64 s.f1.f0, .int .i64 s.f1.f1] 24 (0, 0))) W.heap.size s.f0.f0 s.f0.f1 s.f1.f0 s.f1.f1 from blk_new W _)
 have hB2 := aS (hB.out.step (below_alloc (Below.refl W.heap.size W) (.cells #[.int .i64 s.f0.f0, .int .i64 s.f0.f1, .int .i64 s.f1.f0, .int .i64 s.f1.f1] 24 (0, 0))))
 go_wp2_with fail
 generalize World.alloc W _ = W2 at *
 refine (valid2_n W.heap.size s.f0.f0 s.f0.f1 s.f1.f0 s.f1.f1 W2 hp.out).mono ?_
 rintro e w3 ⟨rfl, hb3⟩
 have hB3 := aS (hB2.out.step hb3)
 clear hb3 hB2 hB hp q0 q1 q2 q3
 obtain ⟨q0, q1, q2, q3⟩ := sn_cells hB3.out.c
 obtain ⟨b, hb⟩ : ∃ b : Bool, b = (valid s.f0.f0 s.f0.f1 && valid s.f1.f0 s.f1.f1) := ⟨_, rfl⟩
 rw [← hb]
 cases b with
 | false =>
  have HV := aS (show (!vS s) = true by
   unfold vS vT
   rw [← Bool.and_assoc, ← hb]
   rfl)
  clear hb
  go_wp2_with fail
  go_ret
  exact ⟨ret_b HV.out.symm, hB3.out.below⟩
 | true =>
  have h2 : vT s.f0 = true ∧ vT s.f1 = true := by
   have := hb.symm
   simp only [Bool.and_eq_true] at this
   exact this
  have HV := aS (show (!vS s) = decide (qT s.f1 < qT s.f0) by
   unfold vS
   rw [h2.1, h2.2]
   simp)
  have HT := aS h2
  clear hb h2
  go_wp2_with fail
  refine (cmpT_n HT.out.2 HT.out.1 w3).mono ?_
  rintro e w4 ⟨rfl, hb4⟩
  have hB4 := aS (hB3.out.step hb4)
  clear hb4 q0 q1 q2 q3 hB3
  by_cases hc : qT s.f1 < qT s.f0
  ·rw [cq_lt hc]
   rw [decide_eq_true hc] at HV
   clear hc
   go_wp2_with fail
   go_ret
   exact ⟨ret_b HV.out.symm, hB4.out.below⟩
  obtain ⟨c, hc0, ec⟩ := cq_ge hc
  rw [ec]
  rw [decide_eq_false hc] at HV
  have hd : decide (c < 0) = false := decide_eq_false (by omega)
  clear hc ec
  go_wp2_with fail
  go_ret
  exact ⟨ret_b HV.out.symm, hB4.out.below⟩
theorem validSpans_n (A : Option Addr) (c : Nat) (l : List Sn) (w : World) (hr : Kd.C k53 w A l.length l) (hl : l.length ≤ 1000000) :
  Calls Tryz.prog 37 #[.slice A l.length c] w (ValP w (.bool (allV l))) := by
 have HX := aS (has0_n 86 (fun x => !vS x) A c l w hr hl (enters_of Tryz.func86 (by kernel_rfl) rfl) (fun x _ W _ => bad_n x W))
 have HV := aS (show allV l = !(l.any (fun x => !vS x)) by
  unfold allV
  rw [List.any_eq_not_all_not]
  simp)
 generalize allV l = V at *
 clear hr hl
 go_enter Tryz.func37, Tryz.ntmps37
 go_wp2_with fail
 refine HX.out.mono ?_
 rintro e w2 ⟨rfl, hb2⟩
 generalize l.any (fun x => !vS x) = b at *
 go_wp2_with fail
 go_ret
 exact ⟨ret_b HV.out.symm, hb2⟩
end Go.Proofs.YtekommcfpjonmaaGreat.Xv
namespace Go.Proofs.YtekommcfpjonmaaGreat.Xj
open RowKit Go YtekommcfpjonmaaGreatW.PrintWords YtekommcfpjonmaaGreatW.PrintLast YtekommcfpjonmaaGreatW.PrintMore Mn Nd Z Rf E Sg Sx Sy Xv
def snO (s : Sn) : Obj := .cells #[.int .i64 s.f0.f0, .int .i64 s.f0.f1, .int .i64 s.f1.f0, .int .i64 s.f1.f1] 53 (0, 0)
theorem sn_at {w : World} {g : Nat} {s : Sn} (h : w.heap[g]? = some (snO s)) : w.cell? ⟨g, 0, none⟩ = some (.int .i64 s.f0.f0) ∧ w.cell? ⟨g, 1, none⟩ = some (.int .i64 s.f0.f1) ∧ w.cell? ⟨g, 2, none⟩ = some (.int .i64 s.f1.f0) ∧ w.cell? ⟨g, 3, none⟩ = some (.int .i64 s.f1.f1) := sn_cells h
theorem sn_free {w : World} {g : Nat} {s : Sn} (h : w.heap[g]? = some (snO s)) : w.frozen? ⟨g, 0, none⟩ = false ∧ w.frozen? ⟨g, 1, none⟩ = false ∧ w.frozen? ⟨g, 2, none⟩ = false ∧ w.frozen? ⟨g, 3, none⟩ = false :=
 ⟨blk_frozen h 0, blk_frozen h 1, blk_frozen h 2, blk_frozen h 3⟩
theorem blk_four {w : World} {g : Nat} {t : TypeId} {a b c d x y z u : Value} (h : w.heap[g]? = some (.cells #[a, b, c, d] t (0, 0))) : ((((w.setCell ⟨g, 0, none⟩ x).setCell ⟨g, 1, none⟩ y).setCell ⟨g, 2, none⟩ z).setCell ⟨g, 3, none⟩ u).heap[g]? = some (.cells #[x, y, z, u] t (0, 0)) :=
 blk_put (cs := #[x, y, z, d]) (blk_put (cs := #[x, y, c, d]) (blk_put (cs := #[x, b, c, d]) (blk_put (cs := #[a, b, c, d]) h 0 x rfl) 1 y rfl) 2 z rfl) 3 u rfl
structure Tb (w W : World) (a b z : Sn) : Prop where
 a : W.heap[w.heap.size]? = some (snO a)
 b : W.heap[w.heap.size + 1]? = some (snO b)
 z : W.heap[w.heap.size + 1 + 1]? = some (snO z)
 below : Below w.heap.size w W
theorem Tb.start (w : World) (a b z : Sn) : Tb w (((w.alloc (snO a)).alloc (snO b)).alloc (snO z)) a b z := by
 have e1 : (w.alloc (snO a)).heap.size = w.heap.size + 1 := by simp
 have e2 : ((w.alloc (snO a)).alloc (snO b)).heap.size = w.heap.size + 1 + 1 := by simp
 have k2 := blk_new (w.alloc (snO a)) (snO b)
 have k3 := blk_new ((w.alloc (snO a)).alloc (snO b)) (snO z)
 rw [e1] at k2
 rw [e2] at k3
 exact ⟨blk_alloc (blk_alloc (blk_new w _) _) _, blk_alloc k2 _, k3, below_alloc (below_alloc (below_alloc (Below.refl _ w) _) _) _⟩
theorem Tb.step {w W W2 : World} {a b z : Sn} (h : Tb w W a b z) (hb : Below W.heap.size W W2) : Tb w W2 a b z :=
 ⟨blk_below h.a hb, blk_below h.b hb, blk_below h.z hb, h.below.trans (hb.mono h.below.size)⟩
def tcR (r : Sn × Bool) : Value := .tuple #[.agg #[.int .i64 r.1.f0.f0, .int .i64 r.1.f0.f1, .int .i64 r.1.f1.f0, .int .i64 r.1.f1.f1], .bool r.2]
def z4 : Sn := ⟨⟨0, 0⟩, ⟨0, 0⟩⟩
theorem touching_n (a b : Sn) (w : World) (ha : vS a = true) (hb : vS b = true) :
  Calls Tryz.prog 94 #[.agg #[.int .i64 a.f0.f0, .int .i64 a.f0.f1, .int .i64 a.f1.f0, .int .i64 a.f1.f1], .agg #[.int .i64 b.f0.f0, .int .i64 b.f0.f1, .int .i64 b.f1.f0, .int .i64 b.f1.f1]] w (ValP w (tcR (tch a b))) := by
 have hu := Tryz.underlying53
 have hu2 := Tryz.underlying24
 have HA := aS (And.intro (vS_is ha) (vS_is hb))
 have hT := aS (Tb.start w a b z4)
 unfold snO z4 at hT
 have HV := aS (show tcR (tch a b) = if qT a.f1 < qT b.f0 then tcR (a, false) else (if qT a.f1 < qT b.f1 then tcR (⟨a.f0, b.f1⟩, true) else tcR (a, true)) by
  unfold tch
  split
  ·rfl
  split <;> rfl)
 generalize tcR (tch a b) = V at *
 clear ha hb
 go_enter Tryz.func94, Tryz.ntmps94
 go_upto_region 1 with fail
 generalize World.alloc (World.alloc (World.alloc _ _) _) _ = W at *
 have HT : Aside0 (Tb w W a b z4) := ⟨hT.out⟩
 clear hT
 obtain ⟨p0, p1, p2, p3⟩ := sn_at HT.out.a
 obtain ⟨q0, q1, q2, q3⟩ := sn_at HT.out.b
 go_wp2_with fail
 refine (cmpT_n HA.out.2.1 HA.out.1.2.1 W).mono ?_
 rintro e w2 ⟨rfl, hb2⟩
 have HT2 := aS (HT.out.step hb2)
 clear hb2 HT p0 p1 p2 p3 q0 q1 q2 q3
 obtain ⟨p0, p1, p2, p3⟩ := sn_at HT2.out.a
 obtain ⟨q0, q1, q2, q3⟩ := sn_at HT2.out.b
 obtain ⟨z0, z1, z2, z3⟩ := sn_at HT2.out.z
 obtain ⟨f0, f1, f2, f3⟩ := sn_free HT2.out.z
 by_cases hc : qT a.f1 < qT b.f0
 ·rw [cq_gt hc]
  have HV2 := aS (show V = tcR (a, false) by rw [HV.out, if_pos hc])
  clear HV hc
  go_wp2_with fail
  refine bodyPost_ret (results_ct rfl _ _ (w.heap.size + 1 + 1) 53 #[.int .i64 a.f0.f0, .int .i64 a.f0.f1, .int .i64 a.f1.f0, .int .i64 a.f1.f1] (0, 0) _ rfl (blk_four HT2.out.z) Tryz.underlying53 rfl (by kernel_rfl)) rfl ?_
  exact ⟨by rw [HV2.out]; rfl, (((HT2.out.below.setCell (show w.heap.size ≤ w.heap.size + 1 + 1 by omega) _).setCell (show w.heap.size ≤ w.heap.size + 1 + 1 by omega) _).setCell (show w.heap.size ≤ w.heap.size + 1 + 1 by omega) _).setCell (show w.heap.size ≤ w.heap.size + 1 + 1 by omega) _⟩
 obtain ⟨c, hc0, ec⟩ := cq_le hc
 rw [ec]
 have HV2 := aS (show V = if qT a.f1 < qT b.f1 then tcR (⟨a.f0, b.f1⟩, true) else tcR (a, true) by rw [HV.out, if_neg hc])
 have hd : decide (c > 0) = false := decide_eq_false (by omega)
 clear HV hc ec z0 z1 z2 z3 f0 f1 f2 f3
 go_wp2_with fail
 refine (cmpT_n HA.out.2.2.1 HA.out.1.2.1 w2).mono ?_
 rintro e w3 ⟨rfl, hb3⟩
 have HT3 := aS (HT2.out.step hb3)
 clear hb3 HT2 p0 p1 p2 p3 q0 q1 q2 q3 hd hc0
 obtain ⟨p0, p1, p2, p3⟩ := sn_at HT3.out.a
 obtain ⟨g0, g1, g2, g3⟩ := sn_free HT3.out.a
 obtain ⟨q0, q1, q2, q3⟩ := sn_at HT3.out.b
 obtain ⟨z0, z1, z2, z3⟩ := sn_at HT3.out.z
 obtain ⟨f0, f1, f2, f3⟩ := sn_free HT3.out.z
 by_cases hc : qT a.f1 < qT b.f1
 ·rw [cq_gt hc]
  have HV3 := aS (show V = tcR (⟨a.f0, b.f1⟩, true) by rw [HV2.out, if_pos hc])
  clear HV2 hc
  go_upto_region 5 with fail
  generalize hW4 : World.setCell (World.setCell w3 _ _) _ _ = W4
  have HT4 := aS (show Tb w W4 ⟨a.f0, b.f1⟩ b z4 by
   rw [← hW4]
   refine ⟨blk_put (cs := #[.int .i64 a.f0.f0, .int .i64 a.f0.f1, .int .i64 b.f1.f0, .int .i64 a.f1.f1]) (blk_put (cs := #[.int .i64 a.f0.f0, .int .i64 a.f0.f1, .int .i64 a.f1.f0, .int .i64 a.f1.f1]) HT3.out.a 2 _ rfl) 3 _ rfl, ?_, ?_, (HT3.out.below.setCell (Nat.le_refl _) _).setCell (Nat.le_refl _) _⟩
   ·rw [Below.heap_setCell _ _ _ _ (by simp), Below.heap_setCell _ _ _ _ (by simp)]
    exact HT3.out.b
   rw [Below.heap_setCell _ _ _ _ (by simp; omega), Below.heap_setCell _ _ _ _ (by simp; omega)]
   exact HT3.out.z)
  clear hW4 HT3 p0 p1 p2 p3 q0 q1 q2 q3 g0 g1 g2 g3 z0 z1 z2 z3 f0 f1 f2 f3
  obtain ⟨p0, p1, p2, p3⟩ := sn_at HT4.out.a
  obtain ⟨z0, z1, z2, z3⟩ := sn_at HT4.out.z
  obtain ⟨f0, f1, f2, f3⟩ := sn_free HT4.out.z
  go_wp2_with fail
  refine bodyPost_ret (results_ct rfl _ _ (w.heap.size + 1 + 1) 53 #[.int .i64 a.f0.f0, .int .i64 a.f0.f1, .int .i64 b.f1.f0, .int .i64 b.f1.f1] (0, 0) _ rfl (blk_four HT4.out.z) Tryz.underlying53 rfl (by kernel_rfl)) rfl ?_
  exact ⟨by rw [HV3.out]; rfl, (((HT4.out.below.setCell (show w.heap.size ≤ w.heap.size + 1 + 1 by omega) _).setCell (show w.heap.size ≤ w.heap.size + 1 + 1 by omega) _).setCell (show w.heap.size ≤ w.heap.size + 1 + 1 by omega) _).setCell (show w.heap.size ≤ w.heap.size + 1 + 1 by omega) _⟩
 obtain ⟨c, hc0, ec⟩ := cq_le hc
 rw [ec]
 have HV3 := aS (show V = tcR (a, true) by rw [HV2.out, if_neg hc])
 have hd : decide (c > 0) = false := decide_eq_false (by omega)
 clear HV2 hc ec
 go_wp2_with fail
 refine bodyPost_ret (results_ct rfl _ _ (w.heap.size + 1 + 1) 53 #[.int .i64 a.f0.f0, .int .i64 a.f0.f1, .int .i64 a.f1.f0, .int .i64 a.f1.f1] (0, 0) _ rfl (blk_four HT3.out.z) Tryz.underlying53 rfl (by kernel_rfl)) rfl ?_
 exact ⟨by rw [HV3.out]; rfl, (((HT3.out.below.setCell (show w.heap.size ≤ w.heap.size + 1 + 1 by omega) _).setCell (show w.heap.size ≤ w.heap.size + 1 + 1 by omega) _).setCell (show w.heap.size ≤ w.heap.size + 1 + 1 by omega) _).setCell (show w.heap.size ≤ w.heap.size + 1 + 1 by omega) _⟩
end Go.Proofs.YtekommcfpjonmaaGreat.Xj
namespace Go.Proofs.YtekommcfpjonmaaGreat.Dm
open Go
def Rup {α : Type} (d : Nat) : Result α → Prop
 | .ok _ w => d ≤ w.drawn
 | .halt _ w => d ≤ w.drawn
theorem Rup.le {α : Type} {d d' : Nat} {r : Result α} (h : Rup d r) (hd : d' ≤ d) : Rup d' r := by
 cases r <;> exact Nat.le_trans hd h
theorem view_drawn {P : Program} {w : World} {a : Addr} {u : TypeId} {k : Addr} {v : Value} {b : Bool} {w' : World} {l : List Addr} (h : w.viewStore P a u k v b = .ok (w', l)) : w'.drawn = w.drawn := by
 unfold World.viewStore at h
 simp only [bind, Except.bind, pure, Except.pure, throw, throwThe, MonadExceptOf.throw] at h
 repeat' split at h
 all_goals first | cases h; done | skip
 all_goals first | (cases h; rfl) | skip
theorem far_drawn {P : Program} {w : World} {a : Addr} {v : Value} {b : Bool} {w' : World} {l : List Addr} (h : w.farStore P a v b = .ok (w', l)) : w'.drawn = w.drawn := by
 unfold World.farStore at h
 split at h
 ·split at h
  ·rename_i r hr
   cases h
   exact view_drawn hr
  cases h
 cases h
theorem ask_up {α : Type} : ∀ (q : Ask α) (w : World), w.drawn ≤ (w.ask q).2.drawn
 | .done a, w => Nat.le_refl _
 | .ask what range k, w => by
  unfold World.ask
  simp only
  split
  ·exact ask_up _ w
  exact Nat.le_trans (Nat.le_succ _) (ask_up _ { w with drawn := w.drawn + 1 })
theorem sys_up (w : World) (c : Sys) : w.drawn ≤ (w.sys c).2.drawn := by
 unfold World.sys
 have h := ask_up (Kernel.perform c w.os) w
 split
 ·exact Nat.le_refl _
 rename_i r os w1 he
 rw [he] at h
 exact h
theorem run_up (P : Program) {α : Type} (s : Sem α) : ∀ w : World, Rup w.drawn (s.run P w) := by
 induction s with
 | pure a => intro w; exact Nat.le_refl _
 | load m a k ih =>
  intro w
  unfold Sem.run
  split
  ·exact ih _ w
  split
  ·exact ih _ w
  exact Nat.le_refl _
 | store m a v k ih =>
  intro w
  have key : ∀ u : Value, Rup w.drawn (match w.cell? a with
   | some _ => if w.frozen? a then Result.halt (.unsupported (.unsafePointer "a write to bytes that a string shares")) w else k.run P (w.setCell a u)
   | none => match w.farStore P a u (m == .atomic) with
    | .ok (w, _) => k.run P w
    | .error h => .halt h w) := by
   intro u
   split
   ·split
    ·exact Nat.le_refl _
    exact ih (w.setCell a u)
   split
   ·rename_i w1 l h
    exact (ih w1).le (Nat.le_of_eq (far_drawn h).symm)
   exact Nat.le_refl _
  cases v <;> simp only [Sem.run] <;> first | exact Nat.le_refl _ | exact key _
 | new o k ih => intro w; unfold Sem.run; exact ih _ _
 | shape r k ih => intro w; unfold Sem.run; exact ih _ _
 | freeze a n k ih =>
  intro w
  unfold Sem.run
  refine (ih (w.freeze a n)).le ?_
  unfold World.freeze
  split <;> exact Nat.le_refl _
 | frozen a k ih => intro w; unfold Sem.run; exact ih _ _
 | getObj r k ih =>
  intro w
  unfold Sem.run
  split
  ·exact Nat.le_refl _
  ·exact ih _ _
  exact Nat.le_refl _
 | setObj r o k ih =>
  intro w
  unfold Sem.run
  split
  ·exact Nat.le_refl _
  ·exact ih _
  exact Nat.le_refl _
 | choose q k ih =>
  intro w
  unfold Sem.run
  split
  ·exact ih _ _
  exact (ih _ { w with drawn := w.drawn + 1 }).le (Nat.le_succ _)
 | sys c k ih => intro w; unfold Sem.run; exact (ih _ _).le (sys_up w c)
 | program k ih => intro w; unfold Sem.run; exact ih _ _
 | mark m k ih => intro w; unfold Sem.run; exact ih _
 | halt h => intro w; exact Nat.le_refl _
theorem run_ok {P : Program} {α : Type} {s : Sem α} {w w1 : World} {a : α} (h : s.run P w = .ok a w1) : w.drawn ≤ w1.drawn := by
 have := run_up P s w
 rw [h] at this
 exact this
theorem run_halt {P : Program} {α : Type} {s : Sem α} {w w1 : World} {a : Halt} (h : s.run P w = .halt a w1) : w.drawn ≤ w1.drawn := by
 have := run_up P s w
 rw [h] at this
 exact this
theorem runT_up (P : Program) {α : Type} (s : Sem α) : ∀ (w : World) (es : Array Event), Rup w.drawn (s.runT P w es).1 := by
 induction s with
 | pure a => intro w es; exact Nat.le_refl _
 | load m a k ih =>
  intro w es
  unfold Sem.runT
  split
  ·exact ih _ w _
  split
  ·exact ih _ w _
  exact Nat.le_refl _
 | store m a v k ih =>
  intro w es
  have key : ∀ u : Value, Rup w.drawn (match w.cell? a with
   | some _ => if w.frozen? a then ((Result.halt (.unsupported (.unsafePointer "a write to bytes that a string shares")) w, es) : Result α × Array Event) else k.runT P (w.setCell a u) (es.push ⟨.cell a, true, m == Mode.atomic⟩)
   | none => match w.farStore P a u (m == Mode.atomic) with
    | .ok (w, touched) => k.runT P w (es ++ touched.toArray.map (fun x => (⟨.cell x, true, m == Mode.atomic⟩ : Event)))
    | .error h => (.halt h w, es)).1 := by
   intro u
   split
   ·split
    ·exact Nat.le_refl _
    exact ih (w.setCell a u) _
   split
   ·rename_i w1 l h
    exact (ih w1 _).le (Nat.le_of_eq (far_drawn h).symm)
   exact Nat.le_refl _
  cases v <;> simp only [Sem.runT] <;> first | exact Nat.le_refl _ | exact key _
 | new o k ih => intro w es; unfold Sem.runT; exact ih _ _ _
 | shape r k ih => intro w es; unfold Sem.runT; exact ih _ _ _
 | freeze a n k ih =>
  intro w es
  unfold Sem.runT
  refine (ih (w.freeze a n) es).le ?_
  unfold World.freeze
  split <;> exact Nat.le_refl _
 | frozen a k ih => intro w es; unfold Sem.runT; exact ih _ _ _
 | getObj r k ih =>
  intro w es
  unfold Sem.runT
  split
  ·exact Nat.le_refl _
  ·exact ih _ _ _
  exact Nat.le_refl _
 | setObj r o k ih =>
  intro w es
  unfold Sem.runT
  split
  ·exact Nat.le_refl _
  ·exact ih _ _
  exact Nat.le_refl _
 | choose q k ih =>
  intro w es
  unfold Sem.runT
  split
  ·exact ih _ _ _
  exact (ih _ { w with drawn := w.drawn + 1 } es).le (Nat.le_succ _)
 | sys c k ih => intro w es; unfold Sem.runT; exact (ih _ _ _).le (sys_up w c)
 | program k ih => intro w es; unfold Sem.runT; exact ih _ _ _
 | mark m k ih => intro w es; unfold Sem.runT; exact ih _ _
 | halt h => intro w es; exact Nat.le_refl _
def Gup (d : Nat) : GStep → Prop
 | .go _ w _ => d ≤ w.drawn
 | .comm _ _ _ _ w _ => d ≤ w.drawn
 | .spawn _ _ w _ => d ≤ w.drawn
 | .count _ w _ => d ≤ w.drawn
 | .timer _ _ w _ => d ≤ w.drawn
 | .alone _ _ w _ => d ≤ w.drawn
 | .newcoro _ _ _ w _ => d ≤ w.drawn
 | .coroswitch _ _ _ w _ => d ≤ w.drawn
 | .collect _ w _ => d ≤ w.drawn
 | .watch _ w _ => d ≤ w.drawn
 | .ended _ _ _ => True
theorem Gup.le {d d' : Nat} {g : GStep} (h : Gup d g) (hd : d' ≤ d) : Gup d' g := by
 cases g <;> first | exact Nat.le_trans hd h | trivial
theorem Gup.after {d : Nat} {g : GStep} (es : Array Event) (h : Gup d g) : Gup d (g.after es) := by
 cases g <;> exact h
theorem endWith_up (w : World) (fd : Nat) (t : ByteArray) (o : Outcome) (d : Nat) : Gup d (endWith w fd t o) := by
 unfold endWith
 simp only
 split
 ·split <;> trivial
 ·trivial
 trivial
theorem dieOf_up (fr : Frame) (l : List ByteArray) (m : String) (b : Bool) (w : World) : Gup w.drawn (dieOf fr l m b w) := Nat.le_refl _
theorem endThrow_up (fr : Frame) (m : String) (w : World) : Gup w.drawn (endThrow fr m w) := Nat.le_refl _
theorem endPrinting_up (P : Program) (fr : Frame) (v : Value) (w : World) : Gup w.drawn (endPrinting P fr v w) := by
 unfold endPrinting
 simp only
 split
 ·exact endThrow_up _ _ _
 trivial
theorem endFatal_up (P : Program) (fr : Frame) (cs : List Frame) (dy : Option Dying) (m : String) (w : World) : Gup w.drawn (endFatal P fr cs dy m w) := by
 unfold endFatal
 simp only
 split
 ·rename_i a b w1 h
  exact (dieOf_up fr _ m true w1).le (run_ok h)
 ·trivial
 trivial
theorem doReturn_up (P : Program) (main : Bool) (fr : Frame) (cs : List Frame) (dy : Option Dying) (v : Value) (w : World) : Gup w.drawn (doReturn P main fr cs dy v w) := by
 unfold doReturn
 simp only
 repeat' split
 all_goals first | exact Nat.le_refl _ | trivial
theorem ite_up {d : Nat} {c : Prop} [Decidable c] {a b : GStep} (ha : Gup d a) (hb : Gup d b) : Gup d (if c then a else b) := by
 split
 ·exact ha
 exact hb
theorem fst_ok {P : Program} {α : Type} {s : Sem α} {w w1 : World} {es : Array Event} {a : α} (h : (s.runT P w es).1 = .ok a w1) : w.drawn ≤ w1.drawn := by
 have := runT_up P s w es
 rw [h] at this
 exact this
theorem fst_halt {P : Program} {α : Type} {s : Sem α} {w w1 : World} {es : Array Event} {a : Halt} (h : (s.runT P w es).1 = .halt a w1) : w.drawn ≤ w1.drawn := by
 have := runT_up P s w es
 rw [h] at this
 exact this
theorem callDeferred_up (P : Program) (fr : Frame) (cs : List Frame) (dy : Option Dying) (dd : Deferred) (w : World) : Gup w.drawn (callDeferred P fr cs dy dd w) := by
 unfold callDeferred
 simp only
 refine ite_up trivial (Gup.after _ ?_)
 have h := runT_up P (invoke dd.target dd.args) w #[]
 generalize ((invoke dd.target dd.args).runT P w #[]).1 = r at h ⊢
 repeat' split
 all_goals first | exact h | trivial | exact (endThrow_up _ _ _).le h | exact (endFatal_up _ _ _ _ _ _).le h
theorem runT_ok {P : Program} {α : Type} {s : Sem α} {w w1 : World} {es es1 : Array Event} {a : α} (h : s.runT P w es = (.ok a w1, es1)) : w.drawn ≤ w1.drawn := by
 have := runT_up P s w es
 rw [h] at this
 exact this
theorem runT_halt {P : Program} {α : Type} {s : Sem α} {w w1 : World} {es es1 : Array Event} {a : Halt} (h : s.runT P w es = (.halt a w1, es1)) : w.drawn ≤ w1.drawn := by
 have := runT_up P s w es
 rw [h] at this
 exact this
theorem unwind_up (P : Program) (main : Bool) (fr : Frame) (cs : List Frame) (dy : Option Dying) (w : World) : Gup w.drawn (unwind P main fr cs dy w) := by
 unfold unwind
 split
 ·simp only
  refine Gup.after _ ?_
  split
  ·rename_i he
   exact fst_ok he
  trivial
 ·exact callDeferred_up _ _ _ _ _ _
 split
 ·trivial
 ·split
  ·trivial
  split
  ·exact Nat.le_refl _
  split
  ·split
   ·exact Nat.le_refl _
   rename_i chain _ _ _ _ _
   have h := run_up P (reportChain chain false) w
   split
   ·rename_i he
    exact run_ok he
   ·trivial
   trivial
  split
  ·exact endPrinting_up _ _ _ _
  trivial
 split
 ·exact doReturn_up _ _ _ _ _ _ _
 rename_i fn _
 simp only
 refine Gup.after _ ?_
 split
 ·rename_i he
  exact (doReturn_up _ _ _ _ _ _ _).le (fst_ok he)
 ·trivial
 trivial
theorem early_up (P : Program) (fr : Frame) (cs : List Frame) (dy : Option Dying) (g : Nat) (w : World) : Gup w.drawn (early P fr cs dy g w) := by
 have ny : ∀ W : World, Gup W.drawn (match W.heap[g]? with
   | some (.pending c elem) => GStep.go { frame := fr, callers := cs, status := .running, dying := dy } { W with heap := W.heap.setIfInBounds g (.cells c elem) }
   | _ => .ended (.stuck "early: the variable does not wait" (fr.pos P)) W) := by
  intro W
  split
  ·exact Nat.le_refl _
  trivial
 unfold early
 simp only
 split
 ·exact ny w
 split
 ·trivial
 rename_i f _
 split
 ·exact ny w
 split
 ·exact ny w
 split
 ·trivial
 ·exact Nat.le_refl _
 ·trivial
 ·exact ny w
 split
 ·exact Nat.le_refl _
 split
 ·exact ny w
 have h := run_up P (choose (.early g)) w
 split
 ·rename_i he
  exact (ny _).le (run_ok he)
 ·rename_i he
  exact run_ok he
 trivial
theorem writeOn_up (P : Program) (fr : Frame) (d : Dying) (f : Fatal) (w : World) : Gup w.drawn (writeOn P fr d f w) := by
 unfold writeOn
 simp only
 split
 ·trivial
 split
 ·rename_i he
  exact runT_ok he
 ·rename_i he
  exact runT_halt he
 ·trivial
 trivial
theorem die_up (P : Program) (fr : Frame) (d : Dying) (w : World) : Gup w.drawn (die P fr d w) := by
 unfold die
 split
 ·exact writeOn_up _ _ _ _ _
 split
 ·split
  ·exact Nat.le_refl _
  exact endWith_up _ _ _ _ _
 simp only
 split
 ·exact Nat.le_refl _
 ·rename_i s _
  have h := run_up P (withAddress s) w
  split
  ·rename_i he
   exact run_ok he
  trivial
 ·rename_i t recv name _
  have h := runT_up P (invoke (.fn (.method name) #[]) #[.iface t recv]) w #[]
  generalize (invoke (.fn (.method name) #[]) #[.iface t recv]).runT P w #[] = r at h ⊢
  obtain ⟨r, es⟩ := r
  refine Gup.after _ ?_
  simp only at h ⊢
  repeat' split
  all_goals first | exact h | trivial | exact (endPrinting_up _ _ _ _).le h
 trivial
theorem apply_up (P : Program) (listen : Bool) (fr : Frame) (cs : List Frame) (dy : Option Dying) (s : Sem Next) (w : World) : Gup w.drawn (stepG.apply P listen fr cs dy s w) := by
 unfold stepG.apply
 have h : Rup w.drawn (if listen then s.runT P w #[] else (s.run P w, #[])).1 := by
  split
  ·exact runT_up P s w #[]
  exact run_up P s w
 simp only
 generalize (if listen then s.runT P w #[] else (s.run P w, #[])) = r at h ⊢
 obtain ⟨r, es⟩ := r
 refine Gup.after _ ?_
 simp only at h ⊢
 repeat' split
 all_goals first | exact h | trivial | exact (endThrow_up _ _ _).le h | exact (endFatal_up _ _ _ _ _ _).le h | exact (early_up _ _ _ _ _ _).le h
theorem oper_up (P : Program) (listen : Bool) (fr : Frame) (cs : List Frame) (dy : Option Dying) (w : World) : Gup w.drawn (stepG.oper P listen fr cs dy w) := by
 unfold stepG.oper
 split
 ·trivial
 split
 ·exact apply_up _ _ _ _ _ _ _
 exact apply_up _ _ _ _ _ _ _
theorem leave_up (P : Program) (main : Bool) (fr : Frame) (cs : List Frame) (dy : Option Dying) (w : World) (jump : Option Code) {c : Prop} {hc : Decidable c} : Gup w.drawn (match fr.roundOf with
   | none => @ite _ c hc (GStep.go { frame := { fr with mode := .returning }, callers := cs, status := .running, dying := dy } w) (.ended (.stuck "exit, goto: no such block or label" (fr.pos P)) w)
   | some l => GStep.after (seen P fr.fn ((Instr.endRound l jump).runT P w #[]).2) (match ((Instr.endRound l jump).runT P w #[]).1 with
     | .ok v w => doReturn P main fr cs dy v w
     | .halt _ w => .ended (.stuck "range over a function: no such loop" (fr.pos P)) w)) := by
 split
 ·refine ite_up ?_ ?_
  ·exact Nat.le_refl _
  trivial
 refine Gup.after _ ?_
 split
 ·rename_i he
  exact (doReturn_up _ _ _ _ _ _ _).le (fst_ok he)
 trivial
theorem elim_up {α : Type} {d : Nat} {x : Option α} {a : GStep} {f : α → GStep} (ha : Gup d a) (hf : ∀ k, Gup d (f k)) : Gup d (x.elim a f) := by
 cases x with
 | none => exact ha
 | some k => exact hf k
theorem exec_up (P : Program) (main listen : Bool) (fr : Frame) (cs : List Frame) (dy : Option Dying) (w : World) : Gup w.drawn (stepG.exec P main listen fr cs dy w) := by
 unfold stepG.exec
 simp only
 split
 all_goals first | exact leave_up P main fr cs dy w _ | exact Nat.le_refl _ | exact apply_up _ _ _ _ _ _ _ | trivial | skip
 ·split
  ·exact Nat.le_refl _
  trivial
 ·refine elim_up (leave_up P main fr cs dy w _) (fun k => Nat.le_refl _)
 ·refine elim_up (leave_up P main fr cs dy w _) (fun k => Nat.le_refl _)
 ·refine Gup.after _ ?_
  split
  ·rename_i he
   exact (apply_up _ _ _ _ _ _ _).le (fst_ok he)
  trivial
 ·refine Gup.after _ ?_
  split
  ·rename_i he
   exact fst_ok he
  ·rename_i he
   exact fst_halt he
  trivial
 ·refine elim_up trivial (fun k => apply_up _ _ _ _ _ _ _)
 ·refine ite_up (Nat.le_refl _) ?_
  split
  ·rename_i he
   exact run_ok he
  trivial
 refine ite_up (oper_up _ _ _ _ _ _) (Nat.le_refl _)
theorem stepG_up (P : Program) (main : Bool) (g : Goroutine) (w : World) (listen : Bool) : Gup w.drawn (stepG P main g w listen) := by
 unfold stepG
 simp only
 split
 ·exact die_up _ _ _ _
 ·exact exec_up _ _ _ _ _ _ _
 exact unwind_up _ _ _ _ _ _
def Sup (d : Nat) : Stepped → Prop
 | .next m => d ≤ m.world.drawn
 | _ => True
theorem Sup.le {d d' : Nat} {s : Stepped} (h : Sup d s) (hd : d' ≤ d) : Sup d' s := by
 cases s <;> first | exact Nat.le_trans hd h | trivial
theorem waiting_up {rest : Rest} {cases : Array CommCase} {w w1 : World} (h : waitingAt rest cases w = some w1) : w.drawn ≤ w1.drawn := by
 unfold waitingAt at h
 repeat' split at h
 all_goals first | (cases h; exact Nat.le_refl _) | cases h
theorem communicate_up (P : Program) (rest : Rest) (gs : Array Goroutine) (i : Nat) (g : Goroutine) (cases : Array CommCase) (b : Bool) (sh : CommShape) (w : World) : Sup w.drawn (communicate P rest gs i g cases b sh w).1 := by
 unfold communicate
 simp only
 split
 ·trivial
 split
 ·split
  ·split
   ·rename_i he
    exact waiting_up he
   trivial
  exact Nat.le_refl _
 split
 ·trivial
 rename_i he
 have h1 := run_ok he
 clear he
 split
 ·split
  ·rename_i he
   exact Nat.le_trans h1 (run_halt he)
  trivial
 ·exact h1
 ·exact h1
 ·split
  ·exact h1
  split
  ·rename_i he
   have h2 := run_ok he
   exact Nat.le_trans h1 h2
  trivial
 ·exact h1
 ·exact h1
 trivial
theorem look_up (P : Program) (gs : Array Goroutine) (rest : Rest) (w : World) : Sup w.drawn (look P gs rest w) := by
 unfold look
 simp only
 split
 ·split
  ·trivial
  split
  ·trivial
  split
  ·rename_i he
   have h2 := run_ok he
   exact h2
  ·trivial
  trivial
 trivial
theorem serve_up (P : Program) (m : Machine) (k : Nat) : Sup m.world.drawn (serve P m k) := by
 unfold serve
 simp only
 repeat' split
 all_goals first | trivial | exact Nat.le_refl _
theorem drain_up (w : World) (c : Nat) : w.drawn ≤ (drain w c).2.drawn := by
 unfold drain
 split <;> exact Nat.le_refl _
theorem retime_up (m : Machine) (k : Nat) (t : Timer) (a b : Nat) : m.world.drawn ≤ (retime m k t a b).2.world.drawn := by
 unfold retime
 simp only
 split
 ·exact drain_up _ _
 exact Nat.le_refl _
theorem opened_up {m m1 : Machine} {var : Addr} (h : timerOp.opened m var = some m1) : m.world.drawn ≤ m1.world.drawn := by
 unfold timerOp.opened at h
 repeat' split at h
 all_goals first | (cases h; exact Nat.le_refl _) | cases h
theorem timerOp_up {m : Machine} {op : TimerOp} {v : Value} {m1 : Machine} (h : timerOp m op = .ok (v, m1)) : m.world.drawn ≤ m1.world.drawn := by
 cases op with
 | new t =>
  unfold timerOp at h
  simp only at h
  repeat' split at h
  all_goals first | (cases h; exact Nat.le_refl _) | cases h
 | stop var =>
  unfold timerOp timerOp.named at h
  simp only at h
  split at h
  ·cases h
   exact retime_up _ _ _ _ _
  cases h
 | reset var a b =>
  unfold timerOp timerOp.named at h
  simp only at h
  split at h
  ·rename_i m2 he
   split at h
   ·cases h
    exact Nat.le_trans (opened_up he) (retime_up _ _ _ _ _)
   cases h
  cases h
 | deadline c r w n =>
  unfold timerOp at h
  simp only at h
  cases h
  exact Nat.le_refl _
theorem runG_up (P : Program) (m : Machine) (i : Nat) (listen : Bool) : Sup m.world.drawn (Go.runT P m i listen).1 := by
 unfold Go.runT
 simp only
 have h := stepG_up P (i == 0) (m.gs.swapAt! i { (default : Goroutine) with status := .finished }).1 m.world listen
 generalize stepG P (i == 0) (m.gs.swapAt! i { (default : Goroutine) with status := .finished }).1 m.world listen = s at h ⊢
 generalize (m.gs.swapAt! i { (default : Goroutine) with status := .finished }).2 = gs
 cases s with
 | ended o w es => trivial
 | comm g cs b sh w es => exact (communicate_up _ _ _ _ _ _ _ _ _).le h
 | go g w es => exact h
 | spawn g c w es => exact h
 | count g w es =>
  simp only
  split
  ·trivial
  exact h
 | alone g on w es => exact h
 | collect g w es => exact (look_up _ _ _ _).le h
 | watch g w es => exact h
 | newcoro g c d w es => exact h
 | coroswitch g c e w es =>
  simp only
  split
  ·exact h
  ·exact h
  trivial
 | timer g op w es =>
  simp only
  split
  ·rename_i he
   exact Nat.le_trans h (timerOp_up he)
  ·exact h
  ·trivial
  trivial
def Mup (d : Nat) : Move → Prop
 | .goroutine m _ => d ≤ m.world.drawn
 | .machine s _ => Sup d s
theorem Mup.le {d d' : Nat} {s : Move} (h : Mup d s) (hd : d' ≤ d) : Mup d' s := by
 cases s with
 | goroutine m i => exact Nat.le_trans hd h
 | machine s ops => exact Sup.le h hd
theorem pick_up (P : Program) (m : Machine) (rs : List Nat) : Mup m.world.drawn (match (choose (.sched rs.length)).run P m.world with
   | .halt _ w => Move.machine (.ended (.stuck "sched" "") w)
   | .ok k world =>
    if rs.length ≤ 1 then .goroutine { m with world } (rs.getD k 0) else
    match (choose (.extern "sched.slice" 65536)).run P world with
    | .halt _ w => .machine (.ended (.stuck "sched.slice" "") w)
    | .ok n world => .goroutine { m with world, rest := { m.rest with slice := if n = 0 then none else some (rs.getD k 0, n) } } (rs.getD k 0)) := by
 split
 ·trivial
 rename_i he
 have h1 := run_ok he
 split
 ·exact h1
 split
 ·trivial
 rename_i he2
 have h2 := run_ok he2
 exact Nat.le_trans h1 h2
theorem askOn_up (P : Program) (m : Machine) : Mup m.world.drawn (askOn P m) := by
 unfold askOn
 simp only
 split
 ·trivial
 rename_i k world he
 have h1 : m.world.drawn ≤ world.drawn := run_ok he
 clear he
 split
 ·exact (serve_up P { m with world } _).le h1
 split
 ·split
  ·exact h1
  split
  ·exact h1
  split
  ·trivial
  trivial
 split
 ·exact (pick_up P { m with world } _).le h1
 split
 ·trivial
 ·rename_i he
  have h2 := run_ok he
  exact (pick_up P { m with world := _ } _).le (Nat.le_trans h1 h2)
 ·rename_i he
  have h2 := run_ok he
  exact Nat.le_trans h1 h2
 rename_i he
 have h2 := run_ok he
 exact (pick_up P (Machine.advanceTo { m with world := _ } _) _).le (Nat.le_trans h1 h2)
theorem ask_on_up (P : Program) (m : Machine) : Mup m.world.drawn (ask P m) := by
 unfold ask
 split
 ·split
  ·trivial
  ·rename_i world he
   have h1 := run_ok he
   have h2 := look_up P m.gs m.rest world
   split
   ·rename_i m1 hl
    rw [hl] at h2
    exact (askOn_up P m1).le (Nat.le_trans h1 h2)
   exact h2.le h1
  rename_i he
  have h1 := run_ok he
  exact (askOn_up P { m with world := _ }).le h1
 exact askOn_up P m
theorem move_up (P : Program) (m : Machine) : Mup m.world.drawn (move P m) := by
 unfold move
 split
 ·split
  ·exact Nat.le_refl _
  trivial
 split
 ·split
  ·exact Nat.le_refl _
  exact ask_on_up P { m with rest := { m.rest with slice := none } }
 exact ask_on_up P m
theorem step_up {P : Program} {m m1 : Machine} (h : step P m = .next m1) : m.world.drawn ≤ m1.world.drawn := by
 have h1 : Sup m.world.drawn (step P m) := by
  unfold step stepT
  have h2 := move_up P m
  generalize move P m = v at h2 ⊢
  cases v with
  | goroutine m2 i => exact (runG_up P m2 i true).le h2
  | machine s ops => exact h2
 rw [h] at h1
 exact h1
theorem steps_up {P : Program} {m m1 : Machine} (h : Steps P m m1) : m.world.drawn ≤ m1.world.drawn := by
 obtain ⟨n, hn⟩ := h
 revert m
 induction n with
 | zero =>
  intro m hn
  unfold runN at hn
  cases hn
  exact Nat.le_refl _
 | succ n ih =>
  intro m hn
  unfold runN at hn
  split at hn
  ·rename_i m2 he
   exact Nat.le_trans (step_up he) (ih hn)
  rename_i h1
  exact absurd hn (by
   intro h2
   exact h1 _ h2)
theorem drawn_up {P : Program} {f : FuncId} {args : Array Value} {w : World} {R : Ending → World → Prop} (h : Calls P f args w R) (hn : ∀ w', ¬ R .outgrown w') : Calls P f args w (fun e w' => R e w' ∧ w.drawn ≤ w'.drawn) := by
 intro cs
 obtain ⟨e, w', fr, hR, hC, hf, hl⟩ := h cs
 refine ⟨e, w', fr, ⟨hR, ?_⟩, hC, hf, hl⟩
 cases e with
 | returned v => exact steps_up hC
 | panicked c => exact steps_up hC
 | outgrown => exact absurd hR (hn w')
end Go.Proofs.YtekommcfpjonmaaGreat.Dm
namespace Go.Proofs.YtekommcfpjonmaaGreat.Sr
open RowKit Go Dm
theorem grown_is {w w' : World} (hb : Below w.heap.size w w') (hd : w.drawn ≤ w'.drawn) : ∃ (q : Nat) (os : Array Obj), w' = Go.Sort.grow (w.drewN q) os := by
 refine ⟨w'.drawn - w.drawn, w'.heap.extract w.heap.size w'.heap.size, ?_⟩
 obtain ⟨h, t, d, o, p⟩ := w
 obtain ⟨h', t', d', o', p'⟩ := w'
 have h1 := hb.os
 have h2 := hb.tape
 have h3 := hb.output
 have h4 := hb.size
 have h5 := hb.block
 simp only at h1 h2 h3 h4 h5 hd
 subst h1 h2 h3
 unfold Go.Sort.grow World.drewN
 simp only [World.mk.injEq, true_and, and_true]
 refine ⟨?_, by omega⟩
 apply Array.ext
 ·simp
  omega
 intro i h6 h7
 by_cases hi : i < h.size
 ·have := h5 i hi
  rw [Array.getElem?_eq_getElem h6, Array.getElem?_eq_getElem hi] at this
  rw [Array.getElem_append_left hi]
  exact Option.some.inj this
 rw [Array.getElem_append_right (by omega)]
 simp only [Array.getElem_extract]
 congr 1
 omega
theorem grown_of {P : Program} {f : FuncId} {args : Array Value} {w : World} {v : Value} (h : Calls P f args w (fun e w' => e = .returned v ∧ Below w.heap.size w w')) :
  Calls P f args w (fun e w' => e = .returned v ∧ ∃ (q : Nat) (os : Array Obj), w' = Go.Sort.grow (w.drewN q) os) := by
 refine (drawn_up h (fun w' hr => by cases hr.1)).mono ?_
 rintro e w' ⟨⟨rfl, hb⟩, hd⟩
 exact ⟨rfl, grown_is hb hd⟩
end Go.Proofs.YtekommcfpjonmaaGreat.Sr
namespace Go.Proofs.YtekommcfpjonmaaGreat.Xk
open RowKit Go YtekommcfpjonmaaGreatW.PrintWords YtekommcfpjonmaaGreatW.PrintLast YtekommcfpjonmaaGreatW.PrintMore Mn Nd Z Rf E Sg Sx Sy Xv Xj
def encS (x : Sn) : List Value := [.int .i64 x.f0.f0, .int .i64 x.f0.f1, .int .i64 x.f1.f0, .int .i64 x.f1.f1]
def encL : List Sn → List Value
 | [] => []
 | x :: t => encS x ++ encL t
theorem encL_len : ∀ l : List Sn, (encL l).length = l.length * 4
 | [] => rfl
 | x :: t => by
  simp only [encL, List.length_append, encL_len t, List.length_cons]
  show 4 + t.length * 4 = (t.length + 1) * 4
  omega
theorem encL_at : ∀ (l : List Sn) (i j : Nat) (p : Sn), l[i]? = some p → j < 4 → (encL l)[i * 4 + j]? = (encS p)[j]?
 | x :: t, 0, j, p, h, hj => by
  obtain rfl : x = p := by simpa using h
  simp only [encL]
  rw [Nat.zero_mul, Nat.zero_add, List.getElem?_append_left (show j < 4 from hj)]
 | x :: t, i + 1, j, p, h, hj => by
  simp only [encL]
  rw [List.getElem?_append_right (show 4 ≤ (i + 1) * 4 + j by omega)]
  have e : (i + 1) * 4 + j - (encS x).length = i * 4 + j := by show (i + 1) * 4 + j - 4 = i * 4 + j; omega
  rw [e]
  exact encL_at t i j p (by simpa using h) hj
theorem encL_reps {W : World} {base : Nat} {ok : Nat → Prop} : ∀ l : List Sn, Reps (fun (x : Sn) cs => Kd.M k53 W base ok x cs) 4 l (encL l)
 | [] => Reps.none _ _
 | x :: t => Reps.c4 (k53_mkM W base ok x) (encL_reps t)
theorem reps_enc {W : World} {base : Nat} {ok : Nat → Prop} : ∀ (l : List Sn) (cs : List Value), Reps (fun (x : Sn) cs => Kd.M k53 W base ok x cs) 4 l cs → cs = encL l
 | [], cs, h => by
  have := h.1
  exact List.eq_nil_of_length_eq_zero (by simpa using this)
 | x :: t, cs, h => by
  have h0 := k53_openM (h.2 0 x rfl)
  rw [Nat.zero_mul, List.drop_zero] at h0
  have ht : Reps (fun (x : Sn) cs => Kd.M k53 W base ok x cs) 4 t (cs.drop 4) := by
   refine ⟨?_, fun j p hj => ?_⟩
   ·have := h.1
    rw [List.length_drop, this, List.length_cons]
    omega
   have := h.2 (j + 1) p (by simpa using hj)
   rwa [show (j + 1) * 4 = 4 + j * 4 by omega, ← List.drop_drop] at this
  have ih := reps_enc t _ ht
  rw [encL, ← ih]
  conv => lhs; rw [← List.take_append_drop 4 cs, h0]
  rfl
def Blk (W : World) (g : Nat) (X : List Sn) (cap : Nat) : Prop := ∃ rest : List Value, W.heap[g]? = some (.cells (encL X ++ rest).toArray 53 (0, 0)) ∧ (encL X ++ rest).length = cap * 4 ∧ X.length ≤ cap ∧ cap ≤ maxLen
theorem R_blk {W : World} {base : Nat} {ok : Nat → Prop} {v : Value} {X : List Sn} (h : Kd.R k53 53 W base ok v X) : (v = .slice none 0 0 ∧ X = []) ∨ ∃ g cap, v = .slice (some ⟨g, 0, none⟩) X.length cap ∧ base ≤ g ∧ Blk W g X cap := by
 obtain ⟨h0, inner, ⟨hl, ho⟩, hr⟩ := h
 have he := reps_enc X inner hr
 subst he
 rcases ho with ⟨rfl, hn⟩ | ⟨g, cap, cur, rfl, hb, hh, hc, hm, hs, ht⟩
 ·exact .inl ⟨rfl, List.eq_nil_of_length_eq_zero hn⟩
 refine .inr ⟨g, cap, rfl, hb, cur.toList.drop (X.length * 4), ?_, ?_, hc, hm⟩
 ·have ht' : cur.toList.take (X.length * 4) = encL X := ht
  rw [← ht', List.take_append_drop]
  exact hh
 have ht' : cur.toList.take (X.length * 4) = encL X := ht
 rw [← ht', List.take_append_drop]
 exact hs
theorem blk_R {W : World} {base : Nat} {g cap : Nat} {X : List Sn} (h : Blk W g X cap) (hb : base ≤ g) : Kd.R k53 53 W base (fun _ => True) (.slice (some ⟨g, 0, none⟩) X.length cap) X := by
 obtain ⟨rest, h1, h2, h3, h4⟩ := h
 refine ⟨fun _ _ => trivial, encL X, ⟨by rw [encL_len]; rfl, .inr ⟨g, cap, _, rfl, hb, h1, h3, h4, ?_, ?_⟩⟩, encL_reps X⟩
 ·show (encL X ++ rest).toArray.size = cap * 4
  simpa using h2
 show (encL X ++ rest).take (X.length * 4) = encL X
 rw [← encL_len, List.take_left]
theorem Blk.cells {W : World} {g cap : Nat} {X : List Sn} (h : Blk W g X cap) {i : Nat} {p : Sn} (hi : X[i]? = some p) : W.cell? ⟨g, i * 4, none⟩ = some (.int .i64 p.f0.f0) ∧ W.cell? ⟨g, i * 4 + 1, none⟩ = some (.int .i64 p.f0.f1) ∧ W.cell? ⟨g, i * 4 + 2, none⟩ = some (.int .i64 p.f1.f0) ∧ W.cell? ⟨g, i * 4 + 3, none⟩ = some (.int .i64 p.f1.f1) ∧ ∀ j, W.frozen? ⟨g, j, none⟩ = false := by
 obtain ⟨rest, h1, h2, h3, h4⟩ := h
 have hl : i < X.length := (List.getElem?_eq_some_iff.1 hi).1
 have key : ∀ j, j < 4 → W.cell? ⟨g, i * 4 + j, none⟩ = (encS p)[j]? := fun j hj => by
  rw [blk_cell h1, List.getElem?_toArray, List.getElem?_append_left (by rw [encL_len]; omega), encL_at X i j p hi hj]
 exact ⟨(key 0 (by decide)).trans rfl, (key 1 (by decide)).trans rfl, (key 2 (by decide)).trans rfl, (key 3 (by decide)).trans rfl, fun j => blk_frozen h1 j⟩
theorem Blk.below {W W2 : World} {g cap : Nat} {X : List Sn} (h : Blk W g X cap) (hb : Below W.heap.size W W2) : Blk W2 g X cap := by
 obtain ⟨rest, h1, h2⟩ := h
 exact ⟨rest, blk_below h1 hb, h2⟩
theorem Blk.lt {W : World} {g cap : Nat} {X : List Sn} (h : Blk W g X cap) : g < W.heap.size := by
 obtain ⟨rest, h1, h2⟩ := h
 exact lt_of_some h1
theorem encL_set : ∀ (l : List Sn) (i : Nat) (y : Sn), i < l.length → encL (l.set i y) = (encL l).take (i * 4) ++ encS y ++ (encL l).drop (i * 4 + 4)
 | x :: t, 0, y, h => by
  simp only [List.set_cons_zero, encL]
  rw [Nat.zero_mul, List.take_zero, List.nil_append, Nat.zero_add, show 4 = (encS x).length from rfl, List.drop_left]
 | x :: t, i + 1, y, h => by
  simp only [List.set_cons_succ, encL]
  rw [encL_set t i y (by simpa using h), show (i + 1) * 4 = (encS x).length + i * 4 by show (i + 1) * 4 = 4 + i * 4; omega, List.take_length_add_append, Nat.add_assoc, List.drop_length_add_append]
  simp
theorem Blk.set {W : World} {g cap : Nat} {X : List Sn} (h : Blk W g X cap) (i : Nat) (y : Sn) (hi : i < X.length) : Blk (W.setCells g (i * 4) (encS y)) g (X.set i y) cap := by
 obtain ⟨rest, h1, h2, h3, h4⟩ := h
 have hl := encL_len X
 have hsz : i * 4 + (encS y).length ≤ (encL X ++ rest).toArray.size := by
  show i * 4 + 4 ≤ _
  simp only [List.size_toArray, List.length_append, hl]
  omega
 obtain ⟨cur', c1, c2, c3⟩ := setCells_row (encS y) (i * 4) W _ h1 hsz
 have e1 : (encL X ++ rest).toArray.toList = encL X ++ rest := rfl
 rw [e1] at c3
 have e2 : cur'.toList = encL (X.set i y) ++ rest := by
  rw [c3, encL_set X i y hi, List.take_append_of_le_length (by omega)]
  show _ = List.take (i * 4) (encL X) ++ encS y ++ List.drop (i * 4 + 4) (encL X) ++ rest
  rw [show (encS y).length = 4 from rfl, List.drop_append_of_le_length (by omega)]
  simp
 refine ⟨rest, ?_, ?_, by rw [List.length_set]; exact h3, h4⟩
 ·rw [c1]
  congr 2
  rw [← e2]
 rw [← e2, Array.length_toList, c2]
 simpa using h2
open Go.Sort in
theorem Blk.holds {W : World} {g cap : Nat} {X : List Sn} (h : Blk W g X cap) [Inhabited Sn] : HoldsK encS 4 W g 0 X.toArray := by
 intro t ht
 rw [size_flatK] at ht
 have ht' : t < X.length * 4 := by simpa using ht
 have hi : t / 4 < X.length := by omega
 obtain ⟨q0, q1, q2, q3, hf⟩ := h.cells (i := t / 4) (List.getElem?_eq_getElem hi)
 rw [get_flatK encS 4 X.toArray t ht, Nat.zero_add]
 have hx : (X.toArray[t / 4]! : Sn) = X[t / 4] := by
  rw [getElem!_pos X.toArray (t / 4) (by simpa using hi)]
  rfl
 refine ⟨?_, hf t⟩
 rw [hx]
 have h4 : t % 4 < 4 := Nat.mod_lt _ (by decide)
 have e : t = t / 4 * 4 + t % 4 := (Nat.div_add_mod' t 4).symm
 generalize t % 4 = j at *
 generalize t / 4 = i at *
 subst e
 match j, h4 with
 | 0, _ => exact q0
 | 1, _ => exact q1
 | 2, _ => exact q2
 | 3, _ => exact q3
open Go.Sort in
theorem pc_get (fl a : Array Value) (k : Nat) (h : k < (putCells id 0 fl a).size) (h2 : k < a.size) : (putCells id 0 fl a)[k] = if k < fl.size then fl[k]! else a[k] := by
 simp [putCells]
open Go.Sort in
theorem sorted_blk {W : World} {g cap : Nat} {X : List Sn} (h : Blk W g X cap) [Inhabited Sn] (d : Array Sn) (hs : d.size = X.length) (n : Nat) (os : Array Obj) :
  Blk (sortWorldK encS 4 W g 0 n d os) g d.toList cap ∧ ∀ B, B ≤ g → Go.RowKit.Below B W (sortWorldK encS 4 W g 0 n d os) := by
 obtain ⟨rest, h1, h2, h3, h4⟩ := h
 have hg := lt_of_some h1
 have hh : (sortWorldK encS 4 W g 0 n d os).heap = (W.heap.modify g (onCells (putCells id 0 (flatK encS 4 d)))) ++ os := rfl
 have hlen : d.toList.length = X.length := by simpa using hs
 have hcells : (putCells id 0 (flatK encS 4 d) (encL X ++ rest).toArray) = (encL d.toList ++ rest).toArray := by
  apply Array.ext
  ·simp [putCells, encL_len, hs]
  intro k k1 k2
  have k3 : k < X.length * 4 + rest.length := by simpa [putCells, encL_len] using k1
  rw [pc_get (flatK encS 4 d) (encL X ++ rest).toArray k k1 (by simpa [encL_len] using k3)]
  simp only [size_flatK]
  by_cases hk : k < X.length * 4
  ·rw [if_pos (by rw [hs]; exact hk), get_flatK encS 4 d k (by rw [hs]; exact hk)]
   have hi : k / 4 < d.toList.length := by omega
   have hd : (d[k / 4]! : Sn) = d.toList[k / 4] := by
    rw [getElem!_pos d (k / 4) (by rw [hs]; omega)]
    rfl
   have ha := encL_at d.toList (k / 4) (k % 4) _ (List.getElem?_eq_getElem hi) (Nat.mod_lt _ (by decide))
   rw [Nat.div_add_mod' k 4] at ha
   rw [hd]
   have hb : (encL d.toList ++ rest).toArray[k]? = (encS d.toList[k / 4])[k % 4]? := by
    rw [List.getElem?_toArray, List.getElem?_append_left (by rw [encL_len]; omega), ha]
   have hc : k % 4 < (encS d.toList[k / 4]).length := Nat.mod_lt _ (by decide)
   rw [getElem!_pos (encS d.toList[k / 4]) (k % 4) hc]
   rw [Array.getElem?_eq_getElem k2, List.getElem?_eq_getElem hc] at hb
   exact (Option.some.inj hb).symm
  rw [if_neg (by rw [hs]; exact hk)]
  simp only [List.getElem_toArray]
  rw [List.getElem_append_right (by rw [encL_len]; omega), List.getElem_append_right (by rw [encL_len]; omega)]
  congr 1
  rw [encL_len, encL_len, hlen]
 refine ⟨⟨rest, ?_, ?_, by omega, h4⟩, fun B hB => ⟨rfl, rfl, rfl, ?_, fun k hk => ?_⟩⟩
 ·rw [hh, Array.getElem?_append_left (by simpa using hg), Array.getElem?_modify, if_pos rfl, h1]
  simp only [Option.map_some, onCells]
  rw [hcells]
 ·rw [List.length_append, encL_len, hlen, ← encL_len, ← List.length_append]
  exact h2
 ·rw [hh]
  simp
 rw [hh, Array.getElem?_append_left (by simp; omega), Array.getElem?_modify, if_neg (by omega)]
end Go.Proofs.YtekommcfpjonmaaGreat.Xk
namespace Go.Proofs.YtekommcfpjonmaaGreat.Xl
open Go.Proofs Go.Shelf
def lays_ren : Go.Shelf.Ren := ⟨fun | 6 => 91 | 15 => 140 | 14 => 139 | 28 => 168 | 29 => 169 | 20 => 160 | 21 => 161 | 22 => 162 | 23 => 163 | 24 => 164 | 25 => 165 | 26 => 166 | 27 => 167 | 46 => 182 | 47 => 183 | 48 => 184 | 49 => 185 | 50 => 186 | 57 => 190 | n => n, fun | 22 => 22 | 24 => 53 | 25 => 100 | 3 => 3 | 39 => 127 | 0 => 0 | 53 => 157 | 55 => 130 | 4 => 4 | 46 => 162 | 45 => 161 | 50 => 141 | 5 => 5 | 9 => 9 | 66 => 179 | 70 => 182 | 76 => 186 | 77 => 187 | n => n, fun | n => n⟩
theorem lays : Go.Proofs.SlLaysF0.n6 Tryz.prog lays_ren := {
 mixed := by kernel_rfl
 f6 := ⟨Tryz.f91.name, by decide, Tryz.func91.trans (congrArg some (by kernel_rfl))⟩
 f14 := ⟨Tryz.f139.name, by decide, Tryz.func139.trans (congrArg some (by kernel_rfl))⟩
 f15 := Tryz.func140.trans (congrArg some (by kernel_rfl))
 f20 := ⟨Tryz.f160.name, by decide, Tryz.func160.trans (congrArg some (by kernel_rfl))⟩
 f21 := ⟨Tryz.f161.name, by decide, Tryz.func161.trans (congrArg some (by kernel_rfl))⟩
 f22 := ⟨Tryz.f162.name, by decide, Tryz.func162.trans (congrArg some (by kernel_rfl))⟩
 f23 := ⟨Tryz.f163.name, by decide, Tryz.func163.trans (congrArg some (by kernel_rfl))⟩
 f24 := ⟨Tryz.f164.name, by decide, Tryz.func164.trans (congrArg some (by kernel_rfl))⟩
 f25 := ⟨Tryz.f165.name, by decide, Tryz.func165.trans (congrArg some (by kernel_rfl))⟩
 f26 := ⟨Tryz.f166.name, by decide, Tryz.func166.trans (congrArg some (by kernel_rfl))⟩
 f27 := ⟨Tryz.f167.name, by decide, Tryz.func167.trans (congrArg some (by kernel_rfl))⟩
 f28 := Tryz.func168.trans (congrArg some (by kernel_rfl))
 f29 := Tryz.func169.trans (congrArg some (by kernel_rfl))
 f46 := ⟨Tryz.f182.name, by decide, Tryz.func182.trans (congrArg some (by kernel_rfl))⟩
 f47 := Tryz.func183.trans (congrArg some (by kernel_rfl))
 f48 := Tryz.func184.trans (congrArg some (by kernel_rfl))
 f49 := ⟨Tryz.f185.name, by decide, Tryz.func185.trans (congrArg some (by kernel_rfl))⟩
 f50 := ⟨Tryz.f186.name, by decide, Tryz.func186.trans (congrArg some (by kernel_rfl))⟩
 f57 := ⟨Tryz.f190.name, by decide, Tryz.func190.trans (congrArg some (by kernel_rfl))⟩
 t0 := Tryz.underlying0
 a0 := Tryz.isAgg0
 z0 := Tryz.sizeOf0
 v0 := Tryz.zeroValue0
 t3 := Tryz.underlying3
 a3 := Tryz.isAgg3
 z3 := Tryz.sizeOf3
 v3 := Tryz.zeroValue3
 t4 := Tryz.underlying4
 a4 := Tryz.isAgg4
 z4 := Tryz.sizeOf4
 v4 := Tryz.zeroValue4
 t5 := Tryz.underlying5
 a5 := Tryz.isAgg5
 z5 := Tryz.sizeOf5
 v5 := Tryz.zeroValue5
 t9 := Tryz.underlying9
 a9 := Tryz.isAgg9
 z9 := Tryz.sizeOf9
 v9 := Tryz.zeroValue9
 t22 := Tryz.underlying22
 a22 := Tryz.isAgg22
 z22 := Tryz.sizeOf22
 v22 := Tryz.zeroValue22
 t25 := Tryz.underlying100
 a25 := Tryz.isAgg100
 z25 := Tryz.sizeOf100
 v25 := Tryz.zeroValue100
 t39 := Tryz.underlying127
 a39 := Tryz.isAgg127
 z39 := Tryz.sizeOf127
 v39 := Tryz.zeroValue127
 t45 := Tryz.underlying161
 a45 := Tryz.isAgg161
 z45 := Tryz.sizeOf161
 v45 := Tryz.zeroValue161
 t46 := Tryz.underlying162
 a46 := Tryz.isAgg162
 z46 := Tryz.sizeOf162
 v46 := Tryz.zeroValue162
 t50 := Tryz.underlying141
 a50 := Tryz.isAgg141
 z50 := Tryz.sizeOf141
 v50 := Tryz.zeroValue141
 t53 := Tryz.underlying157
 a53 := Tryz.isAgg157
 z53 := Tryz.sizeOf157
 v53 := Tryz.zeroValue157
 t55 := Tryz.underlying130
 a55 := Tryz.isAgg130
 z55 := Tryz.sizeOf130
 v55 := Tryz.zeroValue130
 t66 := Tryz.underlying179
 a66 := Tryz.isAgg179
 z66 := Tryz.sizeOf179
 v66 := Tryz.zeroValue179
 t70 := Tryz.underlying182
 a70 := Tryz.isAgg182
 z70 := Tryz.sizeOf182
 v70 := Tryz.zeroValue182
 t76 := Tryz.underlying186
 a76 := Tryz.isAgg186
 z76 := Tryz.sizeOf186
 v76 := Tryz.zeroValue186
 t77 := Tryz.underlying187
 a77 := Tryz.isAgg187
 z77 := Tryz.sizeOf187
 v77 := Tryz.zeroValue187 }
end Go.Proofs.YtekommcfpjonmaaGreat.Xl
namespace Go.Proofs.YtekommcfpjonmaaGreat.Xs
open RowKit Go YtekommcfpjonmaaGreatW.PrintWords YtekommcfpjonmaaGreatW.PrintLast YtekommcfpjonmaaGreatW.PrintMore Mn Nd Z Rf E Sg Sx Sy Xv Xj Xk Xl
structure Db (w W : World) (a b : Sn) : Prop where
 a : W.heap[w.heap.size]? = some (snO a)
 b : W.heap[w.heap.size + 1]? = some (snO b)
 below : Below w.heap.size w W
theorem Db.start (w : World) (a b : Sn) : Db w ((w.alloc (snO a)).alloc (snO b)) a b := by
 have e1 : (w.alloc (snO a)).heap.size = w.heap.size + 1 := by simp
 have k2 := blk_new (w.alloc (snO a)) (snO b)
 rw [e1] at k2
 exact ⟨blk_alloc (blk_new w _) _, k2, below_alloc (below_alloc (Below.refl _ w) _) _⟩
theorem less_n (a b : Sn) (w : World) (ha : vS a = true) (hb : vS b = true) :
  Calls Tryz.prog 92 #[.agg #[.int .i64 a.f0.f0, .int .i64 a.f0.f1, .int .i64 a.f1.f0, .int .i64 a.f1.f1], .agg #[.int .i64 b.f0.f0, .int .i64 b.f0.f1, .int .i64 b.f1.f0, .int .i64 b.f1.f1]] w (ValP w (.int .i64 (cmpQ (qT a.f0) (qT b.f0)))) := by
 have hu := Tryz.underlying53
 have hu2 := Tryz.underlying24
 have HA := aS (And.intro (vS_is ha) (vS_is hb))
 have hT := aS (Db.start w a b)
 unfold snO at hT
 clear ha hb
 go_enter Tryz.func92, Tryz.ntmps92
 go_upto_region 1 with fail
 generalize World.alloc (World.alloc _ _) _ = W at *
 have HT : Aside0 (Db w W a b) := ⟨hT.out⟩
 clear hT
 obtain ⟨p0, p1, p2, p3⟩ := sn_at HT.out.a
 obtain ⟨q0, q1, q2, q3⟩ := sn_at HT.out.b
 go_wp2_with fail
 refine (cmpT_n HA.out.1.1 HA.out.2.1 W).mono ?_
 rintro e w2 ⟨rfl, hb2⟩
 have HB := aS (HT.out.below.trans (hb2.mono HT.out.below.size))
 generalize cmpQ (qT a.f0) (qT b.f0) = V at *
 clear hb2 HT p0 p1 p2 p3 q0 q1 q2 q3
 go_wp2_with fail
 go_ret
 exact ⟨rfl, HB.out⟩
theorem insertion_none (p : Option Addr) (cap : Nat) (fv : Value) (w : World) :
  Calls Tryz.prog 160 #[.slice p 0 cap, .int .i64 0, .int .i64 0, fv] w (ValP w (.tuple #[])) := by
 go_enter Tryz.func160, Tryz.ntmps160
 go_wp2
 refine wp_loop_rounds 1 ?_
 rw [rounds_succ]
 go_wp2
 go_end0
 exact ⟨rfl, Below.refl _ _⟩
theorem pdq_none (p : Option Addr) (cap : Nat) (lim : Int) (fv : Value) (w : World) :
  Calls Tryz.prog 139 #[.slice p 0 cap, .int .i64 0, .int .i64 0, .int .i64 lim, fv] w (ValP w (.tuple #[])) := by
 have hi := fun W => insertion_none p cap fv W
 go_enter Tryz.func139, Tryz.ntmps139
 go_wp2
 refine wp_loop_rounds 1 ?_
 rw [rounds_succ]
 go_wp2_with fail
 refine (hi _).mono ?_
 rintro e w' ⟨rfl, hb⟩
 go_wp2_with fail
 (try simp only [Exit.inBlock, Exit.then]); refine bodyPost_ret (results_none rfl _ _ _) rfl ?_
 exact ⟨rfl, hb⟩
theorem len0_n (w : World) : Calls Tryz.prog 140 #[.int .u64 0] w fun e w' => e = .returned (.int .i64 (Lib.bitLen 0 : Nat)) ∧ w' = w :=
 Any.bits_Len (SlLaysF0.n15.bits (P := Tryz.prog) (ρ := lays_ren) { lays with }) 0 w (by omega) (by omega)
theorem sort_none (p : Option Addr) (cap : Nat) (fv : Value) (w : World) :
  Calls Tryz.prog 91 #[.slice p 0 cap, fv] w (ValP w (.tuple #[])) := by
 have hp := fun lim W => pdq_none p cap lim fv W
 go_enter Tryz.func91, Tryz.ntmps91
 go_wp2_with fail
 refine (len0_n _).mono ?_
 rintro e w' ⟨rfl, rfl⟩
 go_wp2_with fail
 refine (hp _ _).mono ?_
 rintro e w2 ⟨rfl, hb⟩
 go_wp2_with fail
 go_end0
 exact ⟨rfl, hb⟩
abbrev Vs := {s : Sn // vS s = true}
def cfS (x y : Vs) : Int := cmpQ (qT x.1.f0) (qT y.1.f0)
def encV (x : Vs) : List Value := encS x.1
theorem lt_cf (x y : Vs) : Go.Proofs.ltOf cfS x y = decide (qT x.1.f0 < qT y.1.f0) := by
 unfold Go.Proofs.ltOf cfS cmpQ
 by_cases h1 : qT x.1.f0 < qT y.1.f0
 ·simp [h1]
 by_cases h2 : qT y.1.f0 < qT x.1.f0 <;> simp [h1, h2]
theorem swo_cf : Go.Sort.SWO (Go.Proofs.ltOf cfS) := {
 irrefl := fun x => by rw [lt_cf]; simp
 trans := fun x y z h1 h2 => by
  rw [lt_cf] at *
  simp only [decide_eq_true_eq] at *
  grind
 ntrans := fun x y z h1 h2 => by
  rw [lt_cf] at *
  simp only [decide_eq_false_iff_not] at *
  grind }
theorem v1 : vS ⟨⟨0, 1⟩, ⟨0, 1⟩⟩ = true := by simp [vS, vT, Ea.valid]
open Go.Sort in
theorem flat_val [Inhabited Vs] [Inhabited Sn] (d : Array Vs) : flatK encV 4 d = flatK encS 4 (d.map Subtype.val) := by
 unfold flatK
 rw [Array.size_map]
 refine Array.map_congr_left (fun t ht => ?_)
 have ht' : t < d.size * 4 := by simpa using ht
 have h1 : t / 4 < d.size := by omega
 rw [getElem!_pos d (t / 4) h1, getElem!_pos (d.map Subtype.val) (t / 4) (by simpa using h1), Array.getElem_map]
 rfl
theorem sort_n (g cap : Nat) (X : List Sn) (w : World) (h : Blk w g X cap) (hv : ∀ s ∈ X, vS s = true) (hl : X.length ≤ 1000000) :
  Calls Tryz.prog 91 #[.slice (some ⟨g, 0, none⟩) X.length cap, .func (.func 92) #[] #[]] w
   (fun e w' => e = .returned (.tuple #[]) ∧ ∃ d : List Sn, d.Perm X ∧ (∀ i j : Nat, i < j → ∀ x y, d[i]? = some x → d[j]? = some y → ¬ qT y.f0 < qT x.f0) ∧ Blk w' g d cap ∧ ∀ B, B ≤ g → Below B w w') := by
 haveI : Inhabited Vs := ⟨⟨_, v1⟩⟩
 haveI : Inhabited Sn := ⟨⟨⟨0, 1⟩, ⟨0, 1⟩⟩⟩
 have hd : ∃ d : Array Vs, d.map Subtype.val = X.toArray := ⟨(X.pmap Subtype.mk hv).toArray, by simp [List.map_pmap]⟩
 obtain ⟨d, hd⟩ := hd
 have hsz : d.size = X.length := by
  have := congrArg Array.size hd
  simpa using this
 have hH : Go.Sort.HoldsK encV 4 w g 0 d := by
  unfold Go.Sort.HoldsK
  rw [flat_val, hd]
  exact h.holds
 have hC : CmpLays Tryz.prog 92 #[] encV 4 cfS g 0 d.size w := by
  intro m os dk hs x y
  exact Sr.grown_of (less_n x.1 y.1 _ x.2 y.2)
 have hcon := AnyQ.slices_SortFunc lays 4 Tryz.isAgg53 Tryz.sizeOf53 encV (fun _ => rfl) (fun x v hv => by
  simp only [encV, encS, List.mem_cons, List.not_mem_nil, or_false] at hv
  rcases hv with rfl | rfl | rfl | rfl <;> rfl) cfS swo_cf 92 #[] g 0 cap d w (enters_of Tryz.func92 (by kernel_rfl) rfl) hC hH h.lt (by omega)
 rw [hsz] at hcon
 refine Calls.mono hcon ?_
 rintro e w' ⟨rfl, d', n, os, hp, hs, rfl⟩
 have hs' : d'.size = d.size := by rw [hp.1, hsz]
 have he : Go.Proofs.sortWorldK encV 4 w g 0 n d' os = Go.Proofs.sortWorldK encS 4 w g 0 n (d'.map Subtype.val) os := by
  unfold Go.Proofs.sortWorldK Go.Sort.putRowK
  rw [flat_val]
 rw [he]
 obtain ⟨k1, k2⟩ := sorted_blk h (d'.map Subtype.val) (by rw [Array.size_map, hs', hsz]) n os
 refine ⟨rfl, (d'.map Subtype.val).toList, ?_, ?_, k1, k2⟩
 ·have hp2 := hp.2.2
  rw [show (d'.extract 0 X.length) = d' by rw [← hsz, ← hs']; simp, show (d.extract 0 X.length) = d by rw [← hsz]; simp] at hp2
  have := hp2.map Subtype.val
  rw [← Array.toList_map, ← Array.toList_map, hd] at this
  exact this
 intro i j hij x y hx hy
 have hj : j < d'.size := by
  have := (List.getElem?_eq_some_iff.1 hy).1
  simpa using this
 have h0 := hs i j (Nat.zero_le _) hij (by omega)
 rw [lt_cf, getElem!_pos d' i (by omega), getElem!_pos d' j hj] at h0
 simp only [decide_eq_false_iff_not] at h0
 have ex : d'[i].1 = x := by simpa [List.getElem?_eq_getElem (show i < d'.size by omega)] using hx
 have ey : d'[j].1 = y := by simpa [List.getElem?_eq_getElem hj] using hy
 rw [ex, ey] at h0
 exact h0
end Go.Proofs.YtekommcfpjonmaaGreat.Xs
namespace Go.Proofs.YtekommcfpjonmaaGreat.Xn
open RowKit Go YtekommcfpjonmaaGreatW.PrintWords YtekommcfpjonmaaGreatW.PrintLast YtekommcfpjonmaaGreatW.PrintMore Mn Nd Z Rf E Sg Sx Sy Xv Xj Xk Xs
section
variable {P : Program} {ops : Array Oper} {Q : Exit → Act → World → Prop}
theorem goesV_ {oi : Oper} {N : Option Tmp} {a : Act} {w : World} {K : Act → World → Prop} {f : FuncId} {fn : Func} {ar : Array Operand} {ts : Array TypeId} (t : Tmp) (hf : P.funcs[f]? = some fn) (hname : (fn.name == "runtime.NumGoroutine") = false) (hb : fn.body.isSome = true) (args : Array Value)
  (hw : Region.wanted oi (yielded ops a.tmps) = true) (hN : oi.dst = N) (hop : oi.op = .call { callee := .value (.tmp t), args := ar, argTypes := ts }) (ht : a.eval (.tmp t) = .func (.func f) #[] #[]) (hargs : ar.map a.eval = args)
  (h : Calls P f args w fun e w' => ∃ v, e = .returned v ∧ K (a.put N v) w') : if Region.wanted oi (yielded ops a.tmps) = true then Oper.wp P oi a w K Q else K (a.put N undef) w := by
 refine call_ f args hw hN ?_ h
 have he := enters_ hf hname hb args w
 unfold execOp
 simp [hop, resolve, Deferred.ofValue, invoke, ht, hargs, he]
end
theorem tch_v {a b : Sn} (ha : vS a = true) (hb : vS b = true) : vS (tch a b).1 = true := by
 have h1 := vS_is ha
 have h2 := vS_is hb
 unfold tch
 split
 ·exact ha
 split
 ·unfold vS
  simp only [Bool.and_eq_true, Bool.not_eq_true', decide_eq_false_iff_not]
  exact ⟨h1.1, h2.2.1, by grind⟩
 exact ha
theorem touch2 (a b c : Sn) (t : Bool) (w : World) (ha : vS a = true) (hb : vS b = true) (h : tch a b = (c, t)) :
  Calls Tryz.prog 94 #[.agg #[.int .i64 a.f0.f0, .int .i64 a.f0.f1, .int .i64 a.f1.f0, .int .i64 a.f1.f1], .agg #[.int .i64 b.f0.f0, .int .i64 b.f0.f1, .int .i64 b.f1.f0, .int .i64 b.f1.f1]] w (fun e w' => ∃ _u : Nat, e = .returned (.tuple #[.agg #[.int .i64 c.f0.f0, .int .i64 c.f0.f1, .int .i64 c.f1.f0, .int .i64 c.f1.f1], .bool t]) ∧ Below w.heap.size w w') := by
 refine (touching_n a b w ha hb).mono ?_
 rintro e w' ⟨rfl, hb⟩
 rw [h]
 exact ⟨0, rfl, hb⟩
structure Js (w W : World) (v : Value) (out : List Sn) : Prop where
 r : Kd.R k53 53 W w.heap.size (fun _ => True) v out
 below : Below w.heap.size w W
theorem join_n (A0 : Option Addr) (c0 : Nat) (l : List Sn) (w : World) (hr : Kd.C k53 w A0 l.length l) (hl : l.length ≤ 1000000) (hv : ∀ s ∈ l, vS s = true) :
  Calls Tryz.prog 93 #[.slice A0 l.length c0, .func (.func 94) #[] #[]] w (fun e w' => ∃ v, e = .returned v ∧ Js w w' v (mrgS l)) := by
 have hu := Tryz.underlying53
 have hu2 := Tryz.underlying24
 have HR := aS (And.intro hr (And.intro hl hv))
 obtain ⟨V, hV⟩ : ∃ V, V = mrgS l := ⟨_, rfl⟩
 rw [← hV]
 have HV := aS hV
 clear hr hl hv hV
 go_enter Tryz.func93, Tryz.ntmps93
 go_wp2_with fail
 go_loopg [5, 13] l.length (fun kq v5 v13 w' => ∃ (out : List Sn) (i : Int), v13 = .int .i64 i ∧ Aside0 (0 ≤ i ∧ i + kq = l.length ∧ out.length ≤ i.toNat) ∧ Aside0 (Js w w' v5 out ∧ ∀ s ∈ out, vS s = true) ∧ Aside0 ((out = [] ∧ i = 0) ∨ ∃ pre a, out = pre ++ [a] ∧ V = pre ++ jnS a (l.drop i.toNat)))
 case atStart => exact ⟨[], 0, rfl, ⟨by simp, by simp, by simp⟩, ⟨⟨Kd.R_nil _ _ _ _ _, Below.refl _ _⟩, by simp⟩, ⟨.inl ⟨rfl, rfl⟩⟩⟩
 case round =>
  obtain ⟨out, i, rfl, hi, hM, hL⟩ := hrel
  by_cases hlt : i < (l.length : Int)
  ·have p0 := hi.out.1
   have HD := aS (any_drop (fun _ => true) l p0 hlt).2
   have HE := aS (show l.drop i.toNat = rd_T53 l i :: l.drop (i + 1).toNat by
    have hn : i.toNat < l.length := by omega
    have hi2 : (i + 1).toNat = i.toNat + 1 := by omega
    have hg : rd_T53 l i = l[i.toNat] := by
     unfold rd_T53
     rw [List.getD_eq_getElem?_getD, List.getElem?_eq_getElem hn]
     rfl
    rw [hi2, hg, List.drop_eq_getElem_cons hn])
   obtain ⟨ad, hA, q0, q1, q2, q3⟩ := at_T53 (Kd.C_below HR.out.1 hM.out.1.below) i p0 hlt
   obtain ⟨k1, rfl⟩ : ∃ k, gk = k + 1 := ⟨gk - 1, by have := hi.out.2; omega⟩
   have hwi : wrap64 (i + 1) = i + 1 := by
    have := HR.out.2.1
    exact w64 (by omega) (by omega)
   have HX := aS (HR.out.2.2 _ HD.out)
   generalize rd_T53 l i = X at *
   replace p0 := eq_true p0
   replace hlt := eq_true hlt
   subst hA
   go_upto_region 5 with fail
   have hB := aS (show Below wr.heap.size wr (wr.alloc (snO X)) from below_alloc (Below.refl _ wr) _)
   have hX := aS (show (wr.alloc (snO X)).heap[wr.heap.size]? = some (snO X) from blk_new wr _)
   unfold snO at hB hX
   generalize hW1 : World.alloc wr _ = W1 at hB hX
   have HX1 := aS (show W1.heap[wr.heap.size]? = some (snO X) from hX.out)
   have HJ := aS (show Js w W1 u5 out from ⟨Kd.R_below hM.out.1.r hB.out, hM.out.1.below.trans (hB.out.mono hM.out.1.below.size)⟩)
   have HO := aS hM.out.2
   have HN := aS (show ∀ g cap, u5 = .slice (some ⟨g, 0, none⟩) out.length cap → g ≠ wr.heap.size from fun g cap he => by
    rcases R_blk hM.out.1.r with ⟨e, _⟩ | ⟨g', cap', e, _, hb⟩
    ·rw [e] at he
     cases he
    rw [e] at he
    have := hb.lt
    cases he
    omega)
   clear hX hB hM hW1 q0 q1 q2 q3
   generalize wr.heap.size = G at *
   rcases hL.out with ⟨h1, h2⟩ | ⟨pre, a, h1, h2⟩
   ·subst h1 h2
    obtain ⟨A1, c1, h3⟩ := Kd.R_slice HJ.out.r
    subst h3
    have HV3 := aS (show V = [] ++ jnS X (l.drop ((0 : Int) + 1).toNat) by
     have he := HE.out
     rw [show ((0 : Int)).toNat = 0 from rfl, List.drop_zero] at he
     rw [HV.out, he]
     rfl)
    clear hL HN
    obtain ⟨x0, x1, x2, x3⟩ := sn_at HX1.out
    obtain ⟨n, hn⟩ : ∃ n : Nat, n = ([] : List Sn).length := ⟨_, rfl⟩
    rw [← hn]
    have hn0 : (0 < n) = False := eq_false (by rw [hn]; decide)
    have HFR := aS (show Js w W1 (.slice A1 n c1) [] by rw [hn]; exact HJ.out)
    clear HJ hn
    go_wp2_with (first | ((with_reducible refine gate_builtin (b := .append) (xs := #[.tmp 38, .tmp 40]) rfl ?_); at_builtin; refine Kd.R_append k53 (w0 := w) w.heap.size rfl (.tmp 38) (.tmp 40) 22 53 (.agg #[(.int .i64 0), (.int .i64 0), (.int .i64 0), (.int .i64 0)]) 32 rfl Tryz.underlying22 info53 rfl (by decide) (by omega) (.slice A1 n c1) [] X [.int .i64 X.f0.f0, .int .i64 X.f0.f1, .int .i64 X.f1.f0, .int .i64 X.f1.f1] (fun _ => True) (fun _ => False) rfl (by first | (go_simp; done) | (go_simp; rfl)) (k53_mkM _ _ _ X) (fun _ hk => hk.elim) (fun k hk => trivial) HFR.out.r HFR.out.below HFR.out.below.size (by simp only [List.length_nil]; omega) ?_; intro v9 w9' ho hb hg hat; have HS6 := aS (show Js w w9' v9 [X] from ⟨ho, hb⟩); clear ho hb hg hat))
    go_roundg k1
    case measure => omega
    case rel => exact ⟨[X], 0 + 1, rfl, ⟨by omega, by have := hi.out; omega, by simp⟩, ⟨HS6.out, fun s hs => by
     rw [List.mem_singleton.1 hs]
     exact HX.out⟩, ⟨.inr ⟨[], X, rfl, HV3.out⟩⟩⟩
   subst h1
   have HV2 := aS h2
   rcases R_blk HJ.out.r with ⟨_, h3⟩ | ⟨g, cap, h3, hg, hblk⟩
   ·simp at h3
   subst h3
   have HG := aS (And.intro hg (And.intro hblk (HN.out g cap rfl)))
   have HAV := aS (HO.out a (by simp))
   obtain ⟨n, hn⟩ : ∃ n : Nat, n = (pre ++ [a]).length := ⟨_, rfl⟩
   obtain ⟨j, hj⟩ : ∃ j : Nat, j = pre.length := ⟨_, rfl⟩
   rw [← hn]
   have hn1 : n = j + 1 := by rw [hn, hj]; simp
   have hnp := eq_true (show 0 < n by omega)
   have hwj : wrap64 ((n : Int) - 1) = (j : Int) := by
    have := hi.out
    have := HR.out.2.1
    rw [w64 (by omega) (by omega)]
    omega
   have hj0 : (0 ≤ (j : Int)) = True := eq_true (by omega)
   have hj1 : ((j : Int) < (n : Int)) = True := eq_true (by omega)
   have HNJ := aS (And.intro hn (And.intro hj hn1))
   obtain ⟨⟨B, tb⟩, hT⟩ : ∃ r, tch a X = r := ⟨_, rfl⟩
   have HT := aS hT
   have HB := aS (And.intro HG.out.2.1 HX1.out)
   have HC := aS (fun W (hb : Below W1.heap.size W1 W) => And.intro (show W.cell? ⟨g, j * 4, none⟩ = some (.int .i64 a.f0.f0) ∧ W.cell? ⟨g, j * 4 + 1, none⟩ = some (.int .i64 a.f0.f1) ∧ W.cell? ⟨g, j * 4 + 2, none⟩ = some (.int .i64 a.f1.f0) ∧ W.cell? ⟨g, j * 4 + 3, none⟩ = some (.int .i64 a.f1.f1) from by
    have := (HG.out.2.1.below hb).cells (i := j) (p := a) (by rw [HNJ.out.2.1]; simp)
    exact ⟨this.1, this.2.1, this.2.2.1, this.2.2.2.1⟩) (sn_at (blk_below HX1.out hb)))
   clear hg hblk h2 hL hn hj hn1 hT
   go_upto_region 7 with fail
   have hb0 : Below W1.heap.size W1 W1.drew := below_drew' (Below.refl _ _)
   refine start_ (n := 14) (S := fun w' => w'.cell? ⟨g, j * 4, none⟩ = some (.int .i64 a.f0.f0) ∧ w'.cell? ⟨g, j * 4 + 1, none⟩ = some (.int .i64 a.f0.f1) ∧ w'.cell? ⟨g, j * 4 + 2, none⟩ = some (.int .i64 a.f1.f0) ∧ w'.cell? ⟨g, j * 4 + 3, none⟩ = some (.int .i64 a.f1.f1) ∧ w'.cell? ⟨G, 0, none⟩ = some (.int .i64 X.f0.f0) ∧ w'.cell? ⟨G, 1, none⟩ = some (.int .i64 X.f0.f1) ∧ w'.cell? ⟨G, 2, none⟩ = some (.int .i64 X.f1.f0) ∧ w'.cell? ⟨G, 3, none⟩ = some (.int .i64 X.f1.f1)) (ds := [12]) (bs 14 0) (by kernel_rfl) rfl rfl ⟨(HC.out _ hb0).1.1, (HC.out _ hb0).1.2.1, (HC.out _ hb0).1.2.2.1, (HC.out _ hb0).1.2.2.2, (HC.out _ hb0).2.1, (HC.out _ hb0).2.2.1, (HC.out _ hb0).2.2.2.1, (HC.out _ hb0).2.2.2.2⟩ (fun hHeld => ?_)
   refine zP 0 22 14 1 ?_
   refine zP 1 23 14 3 ?_
   refine zP 2 24 14 7 ?_
   refine zP 3 25 14 15 ?_
   refine zP 4 26 14 31 ?_
   refine zT 5 27 14 63 hHeld ?_
   refine zT 6 28 14 127 hHeld ?_
   refine join_ (σ := Nat × Nat) 2 (bs 14 4095) (fun ⟨u7, g11⟩ => [(29, .tuple #[.agg #[.int .i64 B.f0.f0, .int .i64 B.f0.f1, .int .i64 B.f1.f0, .int .i64 B.f1.f1], .bool tb]), (21, .tuple #[.agg #[.int .i64 B.f0.f0, .int .i64 B.f0.f1, .int .i64 B.f1.f0, .int .i64 B.f1.f1], .bool tb]), (30, .agg #[.int .i64 B.f0.f0, .int .i64 B.f0.f1, .int .i64 B.f1.f0, .int .i64 B.f1.f1]), (31, .bool tb), (9, .pointer (some ⟨g11, 0, none⟩))]) (fun ⟨u7, g11⟩ w' => Below W1.heap.size W1 w' ∧ (True) ∧ (W1.heap.size ≤ g11 ∧ w'.heap[g11]? = some (.cells #[.int .i64 0, .int .i64 0, .int .i64 0, .int .i64 0] 53))) ?_ (fun hq_7_8_9_10_11 => ?_)
   rotate_left
   ·
    refine join_ (σ := Nat × Nat) 3 (bs 14 2047) (fun ⟨u7, _⟩ => [(29, .tuple #[.agg #[.int .i64 B.f0.f0, .int .i64 B.f0.f1, .int .i64 B.f1.f0, .int .i64 B.f1.f1], .bool tb]), (21, .tuple #[.agg #[.int .i64 B.f0.f0, .int .i64 B.f0.f1, .int .i64 B.f1.f0, .int .i64 B.f1.f1], .bool tb]), (30, .agg #[.int .i64 B.f0.f0, .int .i64 B.f0.f1, .int .i64 B.f1.f0, .int .i64 B.f1.f1]), (31, .bool tb)]) (fun ⟨u7, _⟩ w' => Below W1.heap.size W1 w' ∧ (True)) ?_ (fun hq_7_8_9_10 => ?_)
    ·rintro ⟨u7, g11⟩ w' ⟨hB, f7⟩
     refine norm_ (a' := ?_) ?_ ?_; rotate_left; (exact aQ)
     refine one_ (i := 11) (N := some 9) (bs 14 4095) rfl rfl (by kernel_rfl) (by decide) (fun K hK => ?_)
     ·
      refine value_ (v := .pointer (some ⟨w'.heap.size, 0, none⟩)) (w1 := w'.alloc (.cells #[.int .i64 0, .int .i64 0, .int .i64 0, .int .i64 0] 53)) (by rfl) rfl ?_ ?_
      ·go_simp
      have hb9 : Below w'.heap.size w' (w'.alloc (.cells #[.int .i64 0, .int .i64 0, .int .i64 0, .int .i64 0] 53)) := below_alloc (Below.refl _ _) _
      have n11 := blk_new w' (.cells #[.int .i64 0, .int .i64 0, .int .i64 0, .int .i64 0] 53)
      have hB9 := hB.trans (hb9.mono hB.size)
      refine hK.out _ _ ⟨(HC.out _ hB9).1.1, (HC.out _ hB9).1.2.1, (HC.out _ hB9).1.2.2.1, (HC.out _ hB9).1.2.2.2, (HC.out _ hB9).2.1, (HC.out _ hB9).2.2.1, (HC.out _ hB9).2.2.2.1, (HC.out _ hB9).2.2.2.2⟩ (fun hHeld => ?_)
      clear hK K
      refine norm_ ?_ (hq_7_8_9_10_11 ⟨u7, w'.heap.size⟩ _ ⟨hB9, trivial, ⟨hB.size, n11⟩⟩); (exact aP)
    refine join_ (σ := Nat × Nat) 6 (bs 14 2175) (fun ⟨_, g11⟩ => [(9, .pointer (some ⟨g11, 0, none⟩))]) (fun ⟨_, g11⟩ w' => Below W1.heap.size W1 w' ∧ (W1.heap.size ≤ g11 ∧ w'.heap[g11]? = some (.cells #[.int .i64 0, .int .i64 0, .int .i64 0, .int .i64 0] 53))) ?_ (fun hq_11 => ?_)
    ·rintro ⟨u7, g11⟩ w' ⟨hB, f11⟩
     refine norm_ (a' := ?_) ?_ ?_; rotate_left; (exact aQ)
     refine one_ (i := 7) (N := some 29) (bs 14 2303) rfl rfl (by kernel_rfl) (by decide) (fun K hK => ?_)
     ·
      refine goesV_ 22 Tryz.func94 (by kernel_rfl) rfl #[.agg #[.int .i64 a.f0.f0, .int .i64 a.f0.f1, .int .i64 a.f1.f0, .int .i64 a.f1.f1], .agg #[.int .i64 X.f0.f0, .int .i64 X.f0.f1, .int .i64 X.f1.f0, .int .i64 X.f1.f1]] (by rfl) rfl rfl (by rfl) (by simp only [List.map_toArray, List.map_cons, List.map_nil]; rfl) ?_
      with_reducible refine (touch2 a X B tb w' HAV.out HX.out HT.out).mono ?_
      rintro e w9 ⟨u7, rfl, hb9⟩
      refine ⟨_, rfl, ?_⟩
      have hB9 := hB.trans (hb9.mono hB.size)
      refine hK.out _ _ ⟨(HC.out _ hB9).1.1, (HC.out _ hB9).1.2.1, (HC.out _ hB9).1.2.2.1, (HC.out _ hB9).1.2.2.2, (HC.out _ hB9).2.1, (HC.out _ hB9).2.2.1, (HC.out _ hB9).2.2.2.1, (HC.out _ hB9).2.2.2.2⟩ (fun hHeld => ?_)
      clear hK K
      refine norm_ (a' := ?_) ?_ ?_; rotate_left; (· show Act.put _ (some 29) _ = _; simp only [putAll, Act.put, List.setIfInBounds_toArray, List.set_cons_zero, List.set_cons_succ, i64_w, i32_w]; rfl)
      refine pure_ (i := 8) (N := some 21) (v := ?_) (a' := ?_) (bs 14 2559) rfl rfl (by kernel_rfl) (fun _ _ _ h => h) (Or.inl ⟨by rfl, ?_⟩) ?_ ?_; rotate_left; (· intro w'; go_simp; first | done | with_reducible rfl); rotate_left; (· simp only [Act.put, List.setIfInBounds_toArray, List.set_cons_zero, List.set_cons_succ, i64_w, i32_w]; rfl)
      refine pure_ (i := 9) (N := some 30) (v := ?_) (a' := ?_) (bs 14 3071) rfl rfl (by kernel_rfl) (fun _ _ _ h => h) (Or.inl ⟨by rfl, ?_⟩) ?_ ?_; rotate_left; (· intro w'; go_simp; first | done | with_reducible rfl); rotate_left; (· simp only [Act.put, List.setIfInBounds_toArray, List.set_cons_zero, List.set_cons_succ, i64_w, i32_w]; rfl)
      refine pure_ (i := 10) (N := some 31) (v := ?_) (a' := ?_) (bs 14 4095) rfl rfl (by kernel_rfl) (fun _ _ _ h => h) (Or.inl ⟨by rfl, ?_⟩) ?_ ?_; rotate_left; (· intro w'; go_simp; first | done | with_reducible rfl); rotate_left; (· simp only [Act.put, List.setIfInBounds_toArray, List.set_cons_zero, List.set_cons_succ, i64_w, i32_w]; rfl)
      refine norm_ ?_ (hq_7_8_9_10_11 ⟨u7, g11⟩ _ ⟨hB9, trivial, ⟨f11.1, blk_below f11.2 hb9⟩⟩); (exact aP)
    have hB := below_drew' (Below.refl _ W1.drew)
    refine two_ (i := 7) (j := 11) (Ni := some 29) (Nj := some 9) (bs 14 255) (bs 14 2175) rfl rfl rfl rfl (by kernel_rfl) (by decide) (by decide) (fun K hK => ?_) (fun K hK => ?_)
    ·
     refine goesV_ 22 Tryz.func94 (by kernel_rfl) rfl #[.agg #[.int .i64 a.f0.f0, .int .i64 a.f0.f1, .int .i64 a.f1.f0, .int .i64 a.f1.f1], .agg #[.int .i64 X.f0.f0, .int .i64 X.f0.f1, .int .i64 X.f1.f0, .int .i64 X.f1.f1]] (by rfl) rfl rfl (by rfl) (by simp only [List.map_toArray, List.map_cons, List.map_nil]; rfl) ?_
     with_reducible refine (touch2 a X B tb W1.drew HAV.out HX.out HT.out).mono ?_
     rintro e w9 ⟨u7, rfl, hb9⟩
     refine ⟨_, rfl, ?_⟩
     have hB9 := hB.trans (hb9.mono hB.size)
     refine hK.out _ _ ⟨(HC.out _ hB9).1.1, (HC.out _ hB9).1.2.1, (HC.out _ hB9).1.2.2.1, (HC.out _ hB9).1.2.2.2, (HC.out _ hB9).2.1, (HC.out _ hB9).2.2.1, (HC.out _ hB9).2.2.2.1, (HC.out _ hB9).2.2.2.2⟩ (fun hHeld => ?_)
     clear hK K
     refine norm_ (a' := ?_) ?_ ?_; rotate_left; (· show Act.put _ (some 29) _ = _; simp only [putAll, Act.put, List.setIfInBounds_toArray, List.set_cons_zero, List.set_cons_succ, i64_w, i32_w]; rfl)
     refine pure_ (i := 8) (N := some 21) (v := ?_) (a' := ?_) (bs 14 511) rfl rfl (by kernel_rfl) (fun _ _ _ h => h) (Or.inl ⟨by rfl, ?_⟩) ?_ ?_; rotate_left; (· intro w'; go_simp; first | done | with_reducible rfl); rotate_left; (· simp only [Act.put, List.setIfInBounds_toArray, List.set_cons_zero, List.set_cons_succ, i64_w, i32_w]; rfl)
     refine pure_ (i := 9) (N := some 30) (v := ?_) (a' := ?_) (bs 14 1023) rfl rfl (by kernel_rfl) (fun _ _ _ h => h) (Or.inl ⟨by rfl, ?_⟩) ?_ ?_; rotate_left; (· intro w'; go_simp; first | done | with_reducible rfl); rotate_left; (· simp only [Act.put, List.setIfInBounds_toArray, List.set_cons_zero, List.set_cons_succ, i64_w, i32_w]; rfl)
     refine pure_ (i := 10) (N := some 31) (v := ?_) (a' := ?_) (bs 14 2047) rfl rfl (by kernel_rfl) (fun _ _ _ h => h) (Or.inl ⟨by rfl, ?_⟩) ?_ ?_; rotate_left; (· intro w'; go_simp; first | done | with_reducible rfl); rotate_left; (· simp only [Act.put, List.setIfInBounds_toArray, List.set_cons_zero, List.set_cons_succ, i64_w, i32_w]; rfl)
     refine norm_ ?_ (hq_7_8_9_10 ⟨u7, 0⟩ _ ⟨hB9, trivial⟩); (exact aP)
    ·
     refine value_ (v := .pointer (some ⟨W1.drew.heap.size, 0, none⟩)) (w1 := W1.drew.alloc (.cells #[.int .i64 0, .int .i64 0, .int .i64 0, .int .i64 0] 53)) (by rfl) rfl ?_ ?_
     ·go_simp
     have hb9 : Below W1.drew.heap.size W1.drew (W1.drew.alloc (.cells #[.int .i64 0, .int .i64 0, .int .i64 0, .int .i64 0] 53)) := below_alloc (Below.refl _ _) _
     have n11 := blk_new W1.drew (.cells #[.int .i64 0, .int .i64 0, .int .i64 0, .int .i64 0] 53)
     have hB9 := hB.trans (hb9.mono hB.size)
     refine hK.out _ _ ⟨(HC.out _ hB9).1.1, (HC.out _ hB9).1.2.1, (HC.out _ hB9).1.2.2.1, (HC.out _ hB9).1.2.2.2, (HC.out _ hB9).2.1, (HC.out _ hB9).2.2.1, (HC.out _ hB9).2.2.2.1, (HC.out _ hB9).2.2.2.2⟩ (fun hHeld => ?_)
     clear hK K
     refine norm_ ?_ (hq_11 ⟨0, W1.drew.heap.size⟩ _ ⟨hB9, ⟨hB.size, n11⟩⟩); (exact aP)
   rintro ⟨u7, g11⟩ w' ⟨hB, f7, f11⟩
   refine norm_ (a' := ?_) ?_ ?_; rotate_left; (exact aQ)
   have hHeld : w'.cell? ⟨g, j * 4, none⟩ = some (.int .i64 a.f0.f0) ∧ w'.cell? ⟨g, j * 4 + 1, none⟩ = some (.int .i64 a.f0.f1) ∧ w'.cell? ⟨g, j * 4 + 2, none⟩ = some (.int .i64 a.f1.f0) ∧ w'.cell? ⟨g, j * 4 + 3, none⟩ = some (.int .i64 a.f1.f1) ∧ w'.cell? ⟨G, 0, none⟩ = some (.int .i64 X.f0.f0) ∧ w'.cell? ⟨G, 1, none⟩ = some (.int .i64 X.f0.f1) ∧ w'.cell? ⟨G, 2, none⟩ = some (.int .i64 X.f1.f0) ∧ w'.cell? ⟨G, 3, none⟩ = some (.int .i64 X.f1.f1) := ⟨(HC.out _ hB).1.1, (HC.out _ hB).1.2.1, (HC.out _ hB).1.2.2.1, (HC.out _ hB).1.2.2.2, (HC.out _ hB).2.1, (HC.out _ hB).2.2.1, (HC.out _ hB).2.2.2.1, (HC.out _ hB).2.2.2.2⟩
   refine zL 12 none 14 8191 (fun K hK => ?_)
   obtain ⟨s0, s1, s2, s3⟩ := sn_cells f11.2
   obtain ⟨fa, fb, fc, fd⟩ := sn_free (s := z4) f11.2
   refine skip_ (w1 := ?_) (by rfl) rfl ?_ ?_
   rotate_left
   ·(go_simp; with_reducible rfl)
   refine hK.out _ _ ?_
   clear hK K
   refine zP 13 10 14 16383 ?_
   refine done_ (by kernel_rfl) ?_
   have hz := blk_four (x := .int .i64 B.f0.f0) (y := .int .i64 B.f0.f1) (z := .int .i64 B.f1.f0) (u := .int .i64 B.f1.f1) f11.2
   have hbF : Below W1.heap.size W1 ((((w'.setCell ⟨g11, 0, none⟩ (.int .i64 B.f0.f0)).setCell ⟨g11, 1, none⟩ (.int .i64 B.f0.f1)).setCell ⟨g11, 2, none⟩ (.int .i64 B.f1.f0)).setCell ⟨g11, 3, none⟩ (.int .i64 B.f1.f1)) := (((hB.setCell f11.1 _).setCell f11.1 _).setCell f11.1 _).setCell f11.1 _
   generalize hFW : (((w'.setCell ⟨g11, 0, none⟩ (.int .i64 B.f0.f0)).setCell ⟨g11, 1, none⟩ (.int .i64 B.f0.f1)).setCell ⟨g11, 2, none⟩ (.int .i64 B.f1.f0)).setCell ⟨g11, 3, none⟩ (.int .i64 B.f1.f1) = FW at *
   have HF := aS (And.intro (show FW.heap[g11]? = some (snO B) from hz) hbF)
   have HFX := aS (And.intro (blk_below HX1.out hbF) (And.intro (show Js w FW (.slice (some ⟨g, 0, none⟩) (pre ++ [a]).length cap) (pre ++ [a]) from ⟨Kd.R_below HJ.out.r hbF, HJ.out.below.trans (hbF.mono HJ.out.below.size)⟩) (HG.out.2.1.below hbF)))
   have HFJ := aS f11.1
   clear hz hbF hFW hB f7 f11 hHeld HB HC hb0
   cases htb : tb
   ·subst htb
    have HV3 := aS (show V = (pre ++ [a]) ++ jnS X (l.drop (i + 1).toNat) by
     rw [HV2.out, HE.out, jnS, HT.out, if_neg (show ¬ ((B, false) : Sn × Bool).2 = true from Bool.false_ne_true), List.append_assoc]
     rfl)
    obtain ⟨x0, x1, x2, x3⟩ := sn_at HFX.out.1
    have HFR := aS (show Js w FW (.slice (some ⟨g, 0, none⟩) n cap) (pre ++ [a]) by rw [HNJ.out.1]; exact HFX.out.2.1)
    have HB1 := aS (show (pre ++ [a]).length ≤ 1000000 by have := hi.out; have := HR.out; omega)
    go_wp2_with (first | ((with_reducible refine gate_builtin (b := .append) (xs := #[.tmp 38, .tmp 40]) rfl ?_); at_builtin; refine Kd.R_append k53 (w0 := w) w.heap.size rfl (.tmp 38) (.tmp 40) 22 53 (.agg #[(.int .i64 0), (.int .i64 0), (.int .i64 0), (.int .i64 0)]) 32 rfl Tryz.underlying22 info53 rfl (by decide) (by omega) (.slice (some ⟨g, 0, none⟩) n cap) (pre ++ [a]) X [.int .i64 X.f0.f0, .int .i64 X.f0.f1, .int .i64 X.f1.f0, .int .i64 X.f1.f1] (fun _ => True) (fun _ => False) rfl (by first | (go_simp; done) | (go_simp; rfl)) (k53_mkM _ _ _ X) (fun _ hk => hk.elim) (fun k hk => trivial) HFR.out.r HFR.out.below HFR.out.below.size (by have := HB1.out; omega) ?_; intro v9 w9' ho hb hg hat; have HS6 := aS (show Js w w9' v9 (pre ++ [a] ++ [X]) from ⟨ho, hb⟩); clear ho hb hg hat))
    go_roundg k1
    case measure => omega
    case rel => exact ⟨pre ++ [a] ++ [X], i + 1, by rw [hwi], ⟨by have := hi.out; omega, by have := hi.out; omega, by have := hi.out; simp only [List.length_append, List.length_cons, List.length_nil] at this ⊢; omega⟩, ⟨HS6.out, fun s hs => by
     rcases List.mem_append.1 hs with hs | hs
     ·exact HO.out s hs
     rw [List.mem_singleton.1 hs]
     exact HX.out⟩, ⟨.inr ⟨pre ++ [a], X, rfl, HV3.out⟩⟩⟩
   subst htb
   have HV3 := aS (show V = pre ++ jnS B (l.drop (i + 1).toNat) by
    rw [HV2.out, HE.out, jnS, HT.out, if_pos rfl])
   obtain ⟨x0, x1, x2, x3⟩ := sn_at HF.out.1
   have HFC := aS (HFX.out.2.2.cells (i := j) (p := a) (by rw [HNJ.out.2.1]; simp))
   obtain ⟨y0, y1, y2, y3, hfz⟩ := HFC.out
   obtain ⟨z0, z1, z2, z3⟩ := And.intro (hfz (j * 4)) (And.intro (hfz (j * 4 + 1)) (And.intro (hfz (j * 4 + 2)) (hfz (j * 4 + 3))))
   clear hfz
   go_upto_region 11 with fail
   generalize hW2 : (((FW.setCell ⟨g, j * 4, none⟩ (.int .i64 B.f0.f0)).setCell ⟨g, j * 4 + 1, none⟩ (.int .i64 B.f0.f1)).setCell ⟨g, j * 4 + 2, none⟩ (.int .i64 B.f1.f0)).setCell ⟨g, j * 4 + 3, none⟩ (.int .i64 B.f1.f1) = W2
   have HS6 := aS (show Js w W2 (.slice (some ⟨g, 0, none⟩) n cap) (pre ++ [B]) by
    have hs := HFX.out.2.2.set j B (by rw [HNJ.out.2.1]; simp)
    have he : (pre ++ [a]).set j B = pre ++ [B] := by rw [HNJ.out.2.1, List.set_append_right _ _ (Nat.le_refl _)]; simp
    have hW : FW.setCells g (j * 4) (encS B) = W2 := hW2
    rw [he, hW] at hs
    have hn : n = (pre ++ [B]).length := by rw [HNJ.out.1]; simp
    rw [hn]
    refine ⟨blk_R hs HG.out.1, ?_⟩
    rw [← hW2]
    exact (((HFX.out.2.1.below.setCell HG.out.1 _).setCell HG.out.1 _).setCell HG.out.1 _).setCell HG.out.1 _)
   clear hW2 HFC y0 y1 y2 y3 z0 z1 z2 z3 x0 x1 x2 x3
   go_wp2_with fail
   go_roundg k1
   case measure => omega
   case rel => exact ⟨pre ++ [B], i + 1, by rw [hwi], ⟨by have := hi.out; omega, by have := hi.out; omega, by have := hi.out; simp only [List.length_append, List.length_cons, List.length_nil] at this ⊢; omega⟩, ⟨HS6.out, fun s hs => by
    rcases List.mem_append.1 hs with hs | hs
    ·exact HO.out s (by simp [hs])
    rw [List.mem_singleton.1 hs]
    have := tch_v HAV.out HX.out
    rw [HT.out] at this
    exact this⟩, ⟨.inr ⟨pre, B, rfl, HV3.out⟩⟩⟩
  have hlb : decide (i < (l.length : Int)) = false := decide_eq_false hlt
  have HE := aS (show V = out by
   have hd : l.drop i.toNat = [] := List.drop_of_length_le (by have := hi.out; omega)
   rcases hL.out with ⟨h1, h2⟩ | ⟨pre, a, h1, h2⟩
   ·rw [HV.out, h1]
    have : l.length = 0 := by have := hi.out; omega
    rw [List.eq_nil_of_length_eq_zero this]
    rfl
   rw [h2, hd, h1]
   rfl)
  have HJ := aS hM.out.1
  replace hlt := eq_false hlt
  clear hL hM hi
  go_wp2_with fail
  go_ret
  exact ⟨_, rfl, by rw [HE.out]; exact HJ.out⟩
end Go.Proofs.YtekommcfpjonmaaGreat.Xn
namespace Go.Proofs.YtekommcfpjonmaaGreat.Xp
open RowKit Go YtekommcfpjonmaaGreatW.PrintWords YtekommcfpjonmaaGreatW.PrintLast YtekommcfpjonmaaGreatW.PrintMore Mn Nd Z Ea Rf E Sg Sx Sy Xv Xj Xk Xs Xn
theorem lowT_n {t : Tm} (h : vT t = true) (w : World) : Calls Tryz.prog 88 #[.int .i64 t.f0, .int .i64 t.f1] w (ValP w (.agg #[.int .i64 (lT (qT t)).f0, .int .i64 (lT (qT t)).f1])) := by
 have hv := vT_is h
 obtain ⟨k, hk⟩ := lowest_f t.f0 t.f1 (by omega) (by omega) (by omega) (by omega)
 have hl := rat_low (a := t.f0) (b := t.f1) (by omega)
 unfold Ra.ratN Ra.ratD at hl
 rw [if_neg (by omega), if_neg (by omega)] at hl
 rw [hl.1, hl.2] at hk
 exact exact_lowest.calls k _ _ _ _ w hk
theorem vS_low {s : Sn} (h : vS s = true) : vS (lS (qS s)) = true := by
 have h1 := vS_is h
 unfold vS lS
 simp only [Bool.and_eq_true, Bool.not_eq_true', decide_eq_false_iff_not]
 refine ⟨vT_low h1.1, vT_low h1.2.1, ?_⟩
 rw [qT_lT, qT_lT]
 exact Rat.not_lt.2 h1.2.2
theorem lowF_v : ∀ {l : List Sn}, (∀ s ∈ l, vS s = true) → ∀ s ∈ lowF l, vS s = true
 | [], _, s, hs => by simp [lowF, full] at hs
 | x :: l, h, s, hs => by
  rw [lowF_cons] at hs
  split at hs
  ·rcases List.mem_cons.1 hs with rfl | hs
   ·exact vS_low (h x (by simp))
   exact lowF_v (fun s hs => h s (by simp [hs])) s hs
  exact lowF_v (fun s hs => h s (by simp [hs])) s hs
theorem lowF_len : ∀ l : List Sn, (lowF l).length ≤ l.length
 | [] => by simp [lowF, full]
 | x :: l => by
  rw [lowF_cons]
  have := lowF_len l
  split <;> simp <;> omega
theorem clean_n (A0 : Option Addr) (c0 : Nat) (l : List Sn) (w : World) (hr : Kd.C k53 w A0 l.length l) (hl : l.length ≤ 1000000) (hv : ∀ s ∈ l, vS s = true) :
  Calls Tryz.prog 40 #[.slice A0 l.length c0] w (fun e w' => ∃ v, e = .returned v ∧ Js w w' v (clnL l)) := by
 have hu := Tryz.underlying53
 have hu2 := Tryz.underlying24
 have HR := aS (And.intro hr (And.intro hl hv))
 obtain ⟨V, hV⟩ : ∃ V, V = clnL l := ⟨_, rfl⟩
 rw [← hV]
 have HV := aS hV
 clear hr hl hv hV
 go_enter Tryz.func40, Tryz.ntmps40
 go_wp2_with fail
 go_loopg [3, 8] l.length (fun kq v3 v8 w' => ∃ (out : List Sn) (i : Int), v8 = .int .i64 i ∧ Aside0 (0 ≤ i ∧ i + kq = l.length ∧ out.length ≤ i.toNat) ∧ Aside0 (Js w w' v3 out) ∧ Aside0 (lowF l = out ++ lowF (l.drop i.toNat)))
 case atStart => exact ⟨[], 0, rfl, ⟨by simp, by simp, by simp⟩, ⟨⟨Kd.R_nil _ _ _ _ _, Below.refl _ _⟩⟩, ⟨by simp⟩⟩
 case round =>
  obtain ⟨out, i, rfl, hi, hM, hL⟩ := hrel
  by_cases hlt : i < (l.length : Int)
  ·have p0 := hi.out.1
   have HD := aS (any_drop (fun _ => true) l p0 hlt).2
   have HE := aS (show l.drop i.toNat = rd_T53 l i :: l.drop (i + 1).toNat by
    have hn : i.toNat < l.length := by omega
    have hi2 : (i + 1).toNat = i.toNat + 1 := by omega
    have hg : rd_T53 l i = l[i.toNat] := by
     unfold rd_T53
     rw [List.getD_eq_getElem?_getD, List.getElem?_eq_getElem hn]
     rfl
    rw [hi2, hg, List.drop_eq_getElem_cons hn])
   obtain ⟨ad, hA, q0, q1, q2, q3⟩ := at_T53 (Kd.C_below HR.out.1 hM.out.below) i p0 hlt
   obtain ⟨k1, rfl⟩ : ∃ k, gk = k + 1 := ⟨gk - 1, by have := hi.out.2; omega⟩
   have hwi : wrap64 (i + 1) = i + 1 := by
    have := HR.out.2.1
    exact w64 (by omega) (by omega)
   have HX := aS (HR.out.2.2 _ HD.out)
   generalize rd_T53 l i = X at *
   replace p0 := eq_true p0
   replace hlt := eq_true hlt
   subst hA
   go_upto_region 5 with fail
   have hB := aS (show Below wr.heap.size wr (wr.alloc (snO X)) from below_alloc (Below.refl _ wr) _)
   have hX := aS (show (wr.alloc (snO X)).heap[wr.heap.size]? = some (snO X) from blk_new wr _)
   unfold snO at hB hX
   generalize hW1 : World.alloc wr _ = W1 at hB hX
   have HX1 := aS (show W1.heap[wr.heap.size]? = some (snO X) from hX.out)
   have HJ := aS (show Js w W1 u3 out from ⟨Kd.R_below hM.out.r hB.out, hM.out.below.trans (hB.out.mono hM.out.below.size)⟩)
   clear hX hB hM hW1 q0 q1 q2 q3
   generalize wr.heap.size = G at *
   obtain ⟨q0, q1, q2, q3⟩ := sn_at HX1.out
   have HT := aS (vS_is HX.out)
   go_wp2_with fail
   refine (cmpT_n HT.out.1 HT.out.2.1 W1).mono ?_
   rintro e w4 ⟨rfl, hb4⟩
   have HX4 := aS (And.intro (blk_below HX1.out hb4) (show Js w w4 u3 out from ⟨Kd.R_below HJ.out.r hb4, HJ.out.below.trans (hb4.mono HJ.out.below.size)⟩))
   clear hb4 HX1 HJ q0 q1 q2 q3
   by_cases hc : qT X.f0 < qT X.f1
   ·rw [cq_lt hc]
    have HL2 := aS (show lowF l = (out ++ [lS (qS X)]) ++ lowF (l.drop (i + 1).toNat) by
     rw [hL.out, HE.out, lowF_cons, if_pos hc, List.append_assoc]
     rfl)
    have HY := aS (show qS X = (qT X.f0, qT X.f1) from rfl)
    clear hc hL
    go_upto_region 6 with fail
    have hb0 : Below w4.heap.size w4 w4.drew := below_drew' (Below.refl _ _)
    refine start_ (n := 19) (S := fun w' => w'.cell? ⟨G, 0, none⟩ = some (.int .i64 X.f0.f0) ∧ w'.cell? ⟨G, 1, none⟩ = some (.int .i64 X.f0.f1) ∧ w'.cell? ⟨G, 2, none⟩ = some (.int .i64 X.f1.f0) ∧ w'.cell? ⟨G, 3, none⟩ = some (.int .i64 X.f1.f1)) (ds := [16, 17]) (bs 19 0) (by kernel_rfl) rfl rfl ⟨(sn_at (blk_below HX4.out.1 hb0)).1, (sn_at (blk_below HX4.out.1 hb0)).2.1, (sn_at (blk_below HX4.out.1 hb0)).2.2.1, (sn_at (blk_below HX4.out.1 hb0)).2.2.2⟩ (fun hHeld => ?_)
    refine zP 0 18 19 1 ?_
    refine zP 1 19 19 3 ?_
    refine zP 2 20 19 7 ?_
    refine zP 4 22 19 23 ?_
    refine zP 5 23 19 55 ?_
    refine zP 8 26 19 311 ?_
    refine zP 9 27 19 823 ?_
    refine zP 11 29 19 2871 ?_
    refine zP 12 30 19 6967 ?_
    refine zT 3 21 19 6975 hHeld ?_
    refine zT 6 24 19 7039 hHeld ?_
    refine zT 10 28 19 8063 hHeld ?_
    refine zT 13 31 19 16255 hHeld ?_
    refine zN 7 (some 25) 19 16383 (fun K hK => ?_)
    refine zG Tryz.func88 #[.int .i64 X.f0.f0, .int .i64 X.f0.f1] ?_
    with_reducible refine (lowT_n HT.out.1 w4.drew).mono ?_
    rintro e w5 ⟨rfl, hb5⟩
    refine ⟨_, rfl, ?_⟩
    have hb5' := below_drew' hb5
    have H5 := aS (And.intro (blk_below HX4.out.1 hb5') (show Js w w5 u3 out from ⟨Kd.R_below HX4.out.2.r hb5', HX4.out.2.below.trans (hb5'.mono HX4.out.2.below.size)⟩))
    clear hb5 hb5'
    refine hK.out _ _ ⟨(sn_at H5.out.1).1, (sn_at H5.out.1).2.1, (sn_at H5.out.1).2.2.1, (sn_at H5.out.1).2.2.2⟩ (fun hHeld => ?_)
    clear hK K
    refine zM 25 ?_
    refine zN 14 (some 32) 19 32767 (fun K hK => ?_)
    refine zG Tryz.func88 #[.int .i64 X.f1.f0, .int .i64 X.f1.f1] ?_
    with_reducible refine (lowT_n HT.out.2.1 w5).mono ?_
    rintro e w6 ⟨rfl, hb6⟩
    refine ⟨_, rfl, ?_⟩
    have H6 := aS (And.intro (blk_below H5.out.1 hb6) (show Js w w6 u3 out from ⟨Kd.R_below H5.out.2.r hb6, H5.out.2.below.trans (hb6.mono H5.out.2.below.size)⟩))
    clear hb6
    refine hK.out _ _ ⟨(sn_at H6.out.1).1, (sn_at H6.out.1).2.1, (sn_at H6.out.1).2.2.1, (sn_at H6.out.1).2.2.2⟩ (fun hHeld => ?_)
    clear hK K
    refine zM 32 ?_
    refine zP 15 33 19 65535 ?_
    refine zL 16 (some 34) 19 131071 (fun K hK => ?_)
    refine value_ (v := .slice (some ⟨w6.heap.size, 0, none⟩) 1 1) (w1 := w6.alloc (.cells #[.int .i64 (lT (qT X.f0)).f0, .int .i64 (lT (qT X.f0)).f1, .int .i64 (lT (qT X.f1)).f0, .int .i64 (lT (qT X.f1)).f1] 53)) (by rfl) rfl ?_ ?_
    ·go_simp
    refine hK.out _ _ ?_
    clear hK K
    refine zM 34 ?_
    refine zL 17 (some 35) 19 262143 (fun K hK => ?_)
    refine Kd.R_append_step k53 (w0 := w) w.heap.size (by rfl) (.tmp 18) (.tmp 34) 22 53 (.agg #[(.int .i64 0), (.int .i64 0), (.int .i64 0), (.int .i64 0)]) 32 rfl Tryz.underlying22 info53 rfl (by decide) (by omega) u3 out (lS (qS X)) [.int .i64 (lT (qT X.f0)).f0, .int .i64 (lT (qT X.f0)).f1, .int .i64 (lT (qT X.f1)).f0, .int .i64 (lT (qT X.f1)).f1] (fun _ => True) (fun _ => False) rfl (by rfl) (k53_mkM _ _ _ (lS (qS X))) (fun _ hk => hk.elim) (fun k hk => trivial) H6.out.2.r H6.out.2.below H6.out.2.below.size (by have := hi.out; have := HR.out; omega) ?_
    intro v9 w9' ho hb hg hat
    have HS6 := aS (show Js w w9' v9 (out ++ [lS (qS X)]) from ⟨ho, hb⟩)
    clear ho hb hg hat
    refine hK.out _ _ ?_
    clear hK K
    refine zM 35 ?_
    refine zP 18 3 19 524287 ?_
    refine done_ (by kernel_rfl) ?_
    clear HX4 H5 H6 hb0
    go_wp2_with fail
    go_roundg k1
    case measure => omega
    case rel => exact ⟨out ++ [lS (qS X)], i + 1, by rw [hwi], ⟨by have := hi.out; omega, by have := hi.out; omega, by have := hi.out; simp only [List.length_append, List.length_cons, List.length_nil] at this ⊢; omega⟩, HS6, HL2⟩
   obtain ⟨c, hc0, ec⟩ := cq_ge hc
   rw [ec]
   have HL2 := aS (show lowF l = out ++ lowF (l.drop (i + 1).toNat) by
    rw [hL.out, HE.out, lowF_cons, if_neg hc])
   have hd : decide (c < 0) = false := decide_eq_false (by omega)
   clear hc ec hL hc0
   go_wp2_with fail
   go_roundg k1
   case measure => omega
   case rel => exact ⟨out, i + 1, by rw [hwi], ⟨by have := hi.out; omega, by have := hi.out; omega, by have := hi.out; omega⟩, ⟨HX4.out.2⟩, HL2⟩
  have hlb : decide (i < (l.length : Int)) = false := decide_eq_false hlt
  have HE := aS (show lowF l = out by
   have hd : l.drop i.toNat = [] := List.drop_of_length_le (by have := hi.out; omega)
   rw [hL.out, hd]
   simp [lowF, full])
  have HJ := aS hM.out
  have HO := aS (show (∀ s ∈ out, vS s = true) ∧ out.length ≤ 1000000 by
   rw [← HE.out]
   have := lowF_len l
   have := HR.out.2.1
   exact ⟨lowF_v HR.out.2.2, by omega⟩)
  replace hlt := eq_false hlt
  clear hL hM hi
  rcases R_blk HJ.out.r with ⟨h3, h4⟩ | ⟨g, cap, h3, hg, hblk⟩
  ·subst h3 h4
   have HV2 := aS (show mrgS [] = V by rw [HV.out, mrgS_sorted (l := l) (m := []) (by rw [HE.out]) (by simp)])
   have HB := aS HJ.out.below
   clear HJ
   go_wp2_with fail
   refine (sort_none none 0 _ wr).mono ?_
   rintro e w5 ⟨rfl, hb5⟩
   have HB5 := aS (HB.out.trans (hb5.mono HB.out.size))
   clear hb5 HB
   go_wp2_with fail
   refine (join_n none 0 [] w5 (Kd.C_nil _ _) (by simp) (by simp)).mono ?_
   rintro e w6 ⟨v6, rfl, hj⟩
   have HJ6 := aS hj
   clear hj
   go_wp2_with fail
   go_ret
   refine ⟨_, rfl, ?_⟩
   rw [← HV2.out]
   exact ⟨Kd.R_lower HJ6.out.r HB5.out.size, HB5.out.trans (HJ6.out.below.mono HB5.out.size)⟩
  subst h3
  have HG := aS (And.intro hg hblk)
  have HB := aS HJ.out.below
  clear HJ hg hblk
  go_wp2_with fail
  refine (sort_n g cap out wr HG.out.2 HO.out.1 HO.out.2).mono ?_
  rintro e w5 ⟨rfl, d, hp, hs, hk, hb⟩
  have HV2 := aS (show mrgS d = V by rw [HV.out, mrgS_sorted (l := l) (by rw [HE.out]; exact hp) hs])
  have HP := aS (show (∀ s ∈ d, vS s = true) ∧ d.length ≤ 1000000 from ⟨fun s h => HO.out.1 s (hp.mem_iff.1 h), by rw [hp.length_eq]; exact HO.out.2⟩)
  have HB5 := aS (And.intro hk (HB.out.trans (hb _ HG.out.1)))
  have hlen : out.length = d.length := hp.length_eq.symm
  rw [hlen]
  clear hp hs hk hb HB
  go_wp2_with fail
  refine (join_n (some ⟨g, 0, none⟩) cap d w5 (Kd.R_reads' (blk_R HB5.out.1 (Nat.zero_le g))).2.2 HP.out.2 HP.out.1).mono ?_
  rintro e w6 ⟨v6, rfl, hj⟩
  have HJ6 := aS hj
  clear hj
  go_wp2_with fail
  go_ret
  refine ⟨_, rfl, ?_⟩
  rw [← HV2.out]
  exact ⟨Kd.R_lower HJ6.out.r HB5.out.2.size, HB5.out.2.trans (HJ6.out.below.mono HB5.out.2.size)⟩
end Go.Proofs.YtekommcfpjonmaaGreat.Xp
namespace Go.Proofs.YtekommcfpjonmaaGreat.E
open RowKit Go YtekommcfpjonmaaGreatW.PrintWords YtekommcfpjonmaaGreatW.PrintLast YtekommcfpjonmaaGreatW.PrintMore Mn Nd Z Rf Sg Sx Sy Xv Xn Xp
theorem Clean_n (A0 : Option Addr) (c0 : Nat) (l : List Sn) (w : World) (hr : Kd.C k53 w A0 l.length l) (hl : l.length ≤ 1000000) :
  Calls Tryz.prog 14 #[.slice A0 l.length c0] w (fun e w' => ∃ v, e = .returned (.tuple #[v, .int .i64 (clnV l).2]) ∧ Js w w' v (clnV l).1) := by
 have HR := aS (And.intro hr hl)
 have HV := aS (show clnV l = if allV l = true then (clnL l, 0) else ([], 4) from rfl)
 generalize clnV l = V at *
 clear hr hl
 go_enter Tryz.func14, Tryz.ntmps14
 go_wp2_with fail
 refine (validSpans_n A0 c0 l w HR.out.1 HR.out.2).mono ?_
 rintro e w3 ⟨rfl, hb3⟩
 have hB3 := aS hb3
 clear hb3
 obtain ⟨b, hb⟩ : ∃ b : Bool, b = allV l := ⟨_, rfl⟩
 rw [← hb]
 cases b with
 | false =>
  have HV2 := aS (show V = ([], 4) by rw [HV.out, ← hb, if_neg (by decide)])
  clear hb HV
  go_wp2_with fail
  go_ret2
  exact ⟨_, by rw [HV2.out]; rfl, by rw [HV2.out]; exact Kd.R_nil _ _ _ _ _, hB3.out⟩
 | true =>
  have HV2 := aS (show V = (clnL l, 0) by rw [HV.out, ← hb, if_pos rfl])
  have HA := aS (show ∀ s ∈ l, vS s = true from fun s hs => List.all_eq_true.1 hb.symm s hs)
  clear hb HV
  go_wp2_with fail
  refine (clean_n A0 c0 l w3 (Kd.C_below HR.out.1 hB3.out) HR.out.2 HA.out).mono ?_
  rintro e w4 ⟨v, rfl, hj⟩
  have HJ := aS hj
  clear hj
  go_wp2_with fail
  go_ret2
  refine ⟨_, by rw [HV2.out]; rfl, ?_⟩
  rw [HV2.out]
  exact ⟨Kd.R_lower HJ.out.r hB3.out.size, hB3.out.trans (HJ.out.below.mono hB3.out.size)⟩
end Go.Proofs.YtekommcfpjonmaaGreat.E

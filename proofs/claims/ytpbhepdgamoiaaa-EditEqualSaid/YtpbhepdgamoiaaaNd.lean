/-
  Words for whole numbers of any size in memory: where one lies, what it is worth, what a call that sets one leaves as it was.
-/
import Derived.Test.YtpbhepdgamoiaaaMn
import Derived.Lib.Hide
namespace Go.Proofs.Ytpbhepdgamoiaaa.Nd
open Go.RowKit Go Go.Proofs.YtpbhepdgamoiaaaW.PrintWords Go.Proofs.YtpbhepdgamoiaaaW.PrintLast Go.Proofs.YtpbhepdgamoiaaaW.PrintMore Go.Proofs.Ytpbhepdgamoiaaa.Ml
set_option linter.unusedVariables false

/-- Limbs, as a slice that can be read. -/
def Mag (w : World) (v : Value) (l : List Int) : Prop := ∃ A c, v = .slice A l.length c ∧ l.length ≤ c ∧ Kd.C (Kd.int .u32) w A l.length l
theorem Mag.of {w : World} {e base : Nat} {ok : Nat → Prop} {v : Value} {l : List Int} (h : Kd.V (Kd.int .u32) e w base ok v l) : Mag w v l := by
  obtain ⟨A, c, rfl, hc, hf⟩ := h
  exact ⟨A, c, rfl, hc, Kd.F_now hf⟩
theorem Mag.ofR {w : World} {e base : Nat} {ok : Nat → Prop} {v : Value} {l : List Int} (h : Kd.R (Kd.int .u32) e w base ok v l) : Mag w v l := Kd.R_reads h
theorem Mag.nil (w : World) : Mag w (.slice none 0 0) [] := ⟨none, 0, rfl, Nat.le_refl _, Kd.C_nil _ _⟩
theorem Mag.slice {w : World} {v : Value} {l : List Int} (h : Mag w v l) : ∃ A c, v = .slice A l.length c ∧ l.length ≤ c ∧ Kd.C (Kd.int .u32) w A l.length l := h
/-- What keeps the cells that hold limbs keeps limbs. -/
theorem Mag.step {w w' : World} {v : Value} {l : List Int} (h : Mag w v l) (hs : ∀ (a : Addr) (x : Int), w.cell? a = some (.int .u32 x) → w'.cell? a = some (.int .u32 x)) : Mag w' v l := by
  obtain ⟨A, c, rfl, hc, h1, h2, h3⟩ := h
  refine ⟨A, c, rfl, hc, h1, h2, fun hp => ?_⟩
  obtain ⟨ad, ha, hcell⟩ := h3 hp
  refine ⟨ad, ha, fun j p hj => ?_⟩
  obtain ⟨cs, hl, hK, hcc⟩ := hcell j p hj
  have hK' : cs = [.int .u32 p] := hK
  subst hK'
  refine ⟨_, hl, hK, fun i u hu => ?_⟩
  match i, hu with
  | 0, hu =>
    simp at hu
    subst hu
    exact hs _ _ (hcc 0 _ rfl)
theorem lt_of_some {w : World} {k : Nat} {o : Obj} (h : w.heap[k]? = some o) : k < w.heap.size := (Array.getElem?_eq_some_iff.1 h).1
theorem Mag.below {w w' : World} {v : Value} {l : List Int} (h : Mag w v l) (hb : Below w.heap.size w w') : Mag w' v l := h.step (fun a x hc => pw_cell_below hb hc)

theorem below_drew' {w w' : World} (h : Below w.drew.heap.size w.drew w') : Below w.heap.size w w' := ⟨h.os, h.tape, h.output, h.size, h.block⟩
def sg (neg : Bool) (x : Int) : Int := if neg then -x else x
/-- A pair of cells for a number, at a place of a block. -/
structure Slot (w : World) (g o : Nat) (neg : Bool) (v : Value) : Prop where mk ::
  at_ : ∃ cells t, w.heap[g]? = some (.cells cells t (0, 0)) ∧ (∃ A n c, v = .slice A n c) ∧ cells[o]? = some (.bool neg) ∧ cells[o + 1]? = some v
def Room (w : World) (g o : Nat) : Prop := ∃ neg v, Slot w g o neg v
/-- A number lies there. n: its limbs are no more. -/
structure IsN (w : World) (g o : Nat) (z : Int) (n : Nat) : Prop where mk ::
  at_ : ∃ neg v l, Slot w g o neg v ∧ Mag w v l ∧ Cn 4294967296 l ∧ l.length ≤ n ∧ z = sg neg (dv 4294967296 l) ∧ (neg = true → l ≠ [])
theorem IsN.room {w : World} {g o : Nat} {z : Int} {n : Nat} (h : IsN w g o z n) : Room w g o := by
  obtain ⟨neg, v, l, hs, _⟩ := h.at_
  exact ⟨neg, v, hs⟩
theorem IsN.mono {w : World} {g o : Nat} {z : Int} {n m : Nat} (h : IsN w g o z n) (hm : n ≤ m) : IsN w g o z m := by
  obtain ⟨neg, v, l, h1, h2, h3, h4, h5⟩ := h.at_
  exact ⟨neg, v, l, h1, h2, h3, by omega, h5⟩
theorem Slot.lt {w : World} {g o : Nat} {neg : Bool} {v : Value} (h : Slot w g o neg v) : g < w.heap.size := by
  obtain ⟨cells, t, h1, _⟩ := h.at_
  exact lt_of_some h1
theorem Room.lt {w : World} {g o : Nat} (h : Room w g o) : g < w.heap.size := by
  obtain ⟨_, _, h⟩ := h
  exact h.lt
theorem IsN.lt {w : World} {g o : Nat} {z : Int} {n : Nat} (h : IsN w g o z n) : g < w.heap.size := h.room.lt
theorem blk_cells {w : World} {g : Nat} {cells : Array Value} {t : TypeId} (h : w.heap[g]? = some (.cells cells t (0, 0))) (o : Nat) {v : Value} (hv : cells[o]? = some v) : w.cell? ⟨g, o, none⟩ = some v := by
  rw [blk_cell h o]; exact hv
theorem Slot.cell0 {w : World} {g o : Nat} {neg : Bool} {v : Value} (h : Slot w g o neg v) : w.cell? ⟨g, o, none⟩ = some (.bool neg) := by
  obtain ⟨cells, t, h1, _, h2, _⟩ := h.at_
  exact blk_cells h1 o h2
theorem Slot.cell1 {w : World} {g o : Nat} {neg : Bool} {v : Value} (h : Slot w g o neg v) : w.cell? ⟨g, o + 1, none⟩ = some v := by
  obtain ⟨cells, t, h1, _, _, h2⟩ := h.at_
  exact blk_cells h1 (o + 1) h2
theorem Slot.free {w : World} {g o : Nat} {neg : Bool} {v : Value} (h : Slot w g o neg v) (j : Nat) : w.frozen? ⟨g, j, none⟩ = false := by
  obtain ⟨cells, t, h1, _⟩ := h.at_
  exact blk_frozen h1 j
theorem Slot.below {w w' : World} {g o : Nat} {neg : Bool} {v : Value} (h : Slot w g o neg v) (hb : Below w.heap.size w w') : Slot w' g o neg v := by
  obtain ⟨cells, t, h1, h2⟩ := h.at_
  exact ⟨cells, t, (hb.block g (lt_of_some h1)).trans h1, h2⟩
theorem Room.below {w w' : World} {g o : Nat} (h : Room w g o) (hb : Below w.heap.size w w') : Room w' g o := by
  obtain ⟨neg, v, h⟩ := h
  exact ⟨neg, v, h.below hb⟩
theorem IsN.below {w w' : World} {g o : Nat} {z : Int} {n : Nat} (h : IsN w g o z n) (hb : Below w.heap.size w w') : IsN w' g o z n := by
  obtain ⟨neg, v, l, h1, h2, h3⟩ := h.at_
  exact ⟨neg, v, l, h1.below hb, h2.below hb, h3⟩

/-- What a call leaves as it was that writes the two cells at ⟨g, o⟩ alone, besides new memory. -/
structure Wrote (w w' : World) (g o : Nat) : Prop where
  os : w'.os = w.os
  tape : w'.tape = w.tape
  output : w'.output = w.output
  size : w.heap.size ≤ w'.heap.size
  other : ∀ k, k < w.heap.size → k ≠ g → w'.heap[k]? = w.heap[k]?
  own : ∀ cells t fr, w.heap[g]? = some (.cells cells t fr) → ∃ cells', w'.heap[g]? = some (.cells cells' t fr) ∧ cells'.size = cells.size ∧ ∀ j, j ≠ o → j ≠ o + 1 → cells'[j]? = cells[j]?
theorem Wrote.of_below {w w' : World} (h : Below w.heap.size w w') (g o : Nat) : Wrote w w' g o :=
  ⟨h.os, h.tape, h.output, h.size, fun k hk _ => h.block k hk, fun cells t fr hc => ⟨cells, (h.block g (lt_of_some hc)).trans hc, rfl, fun _ _ _ => rfl⟩⟩
theorem Wrote.trans {a b c : World} {g o : Nat} (h : Wrote a b g o) (k : Wrote b c g o) : Wrote a c g o :=
  ⟨k.os.trans h.os, k.tape.trans h.tape, k.output.trans h.output, Nat.le_trans h.size k.size, fun i hi hne => (k.other i (Nat.lt_of_lt_of_le hi h.size) hne).trans (h.other i hi hne), fun cells t fr hc => by
    obtain ⟨c1, h1, h2, h3⟩ := h.own cells t fr hc
    obtain ⟨c2, k1, k2, k3⟩ := k.own c1 t fr h1
    exact ⟨c2, k1, k2.trans h2, fun j h4 h5 => (k3 j h4 h5).trans (h3 j h4 h5)⟩⟩
theorem Wrote.below {w w' : World} {g o B : Nat} (h : Wrote w w' g o) (hB : B ≤ g) (hs : B ≤ w.heap.size) : Below B w w' :=
  ⟨h.os, h.tape, h.output, h.size, fun k hk => h.other k (by omega) (by omega)⟩
theorem Wrote.mag {w w' : World} {g o : Nat} (h : Wrote w w' g o) (hr : Room w g o) {v : Value} {l : List Int} (hm : Mag w v l) : Mag w' v l := by
  obtain ⟨_, _, hs⟩ := hr
  obtain ⟨cells, t, h1, ⟨A, n, c, rfl⟩, h3, h4⟩ := hs.at_
  refine hm.step (fun a x hc => ?_)
  by_cases e : a.block = g
  · obtain ⟨c', k1, k2, k3⟩ := h.own _ _ _ h1
    unfold World.cell? at hc ⊢
    rw [e] at hc ⊢
    rw [h1] at hc
    rw [k1]
    simp only at hc ⊢
    by_cases hsp : a.spot.isSome
    · simp [hsp] at hc
    · rw [if_neg hsp] at hc ⊢
      by_cases e1 : a.off = o
      · rw [e1, h3] at hc
        simp at hc
      · by_cases e2 : a.off = o + 1
        · rw [e2, h4] at hc
          simp at hc
        · rw [k3 _ e1 e2]
          exact hc
  · have hlt := World.block_lt_of_cell? w a hc
    rw [World.cell?_of_block (w := w) (h.other a.block hlt e)]
    exact hc
theorem Wrote.slot {w w' : World} {g o : Nat} (h : Wrote w w' g o) {g2 o2 : Nat} {neg : Bool} {v : Value} (hs : Slot w g2 o2 neg v) (hne : g2 ≠ g ∨ (o2 ≠ o ∧ o2 ≠ o + 1 ∧ o2 + 1 ≠ o)) : Slot w' g2 o2 neg v := by
  obtain ⟨cells, t, h1, h2, h3, h4⟩ := hs.at_
  by_cases e : g2 = g
  · subst e
    obtain ⟨c', k1, k2, k3⟩ := h.own _ _ _ h1
    exact ⟨c', t, k1, h2, (k3 o2 (by omega) (by omega)).trans h3, (k3 (o2 + 1) (by omega) (by omega)).trans h4⟩
  · exact ⟨cells, t, (h.other g2 (lt_of_some h1) e).trans h1, h2, h3, h4⟩
theorem Wrote.isN {w w' : World} {g o : Nat} (h : Wrote w w' g o) (hr : Room w g o) {g2 o2 : Nat} {z : Int} {n : Nat} (hs : IsN w g2 o2 z n) (hne : g2 ≠ g ∨ (o2 ≠ o ∧ o2 ≠ o + 1 ∧ o2 + 1 ≠ o)) : IsN w' g2 o2 z n := by
  obtain ⟨neg, v, l, h1, h2, h3⟩ := hs.at_
  exact ⟨neg, v, l, h.slot h1 hne, h.mag hr h2, h3⟩
theorem Wrote.set {w : World} {g o : Nat} {neg : Bool} {v : Value} (hs : Slot w g o neg v) (neg' : Bool) (A : Option Addr) (n c : Nat) (k : Nat) {v' : Value} (hv' : v' = .slice A n c) :
    Wrote w (((w.setCell ⟨g, o, none⟩ (.bool neg')).setCell ⟨g, o + 1, none⟩ v').drewN k) g o ∧ Slot (((w.setCell ⟨g, o, none⟩ (.bool neg')).setCell ⟨g, o + 1, none⟩ v').drewN k) g o neg' v' := by
  obtain ⟨cells, t, h1, h2, h3, h4⟩ := hs.at_
  have e3 := (Array.getElem?_eq_some_iff.1 h3).1
  have e4 := (Array.getElem?_eq_some_iff.1 h4).1
  have hb : (((w.setCell ⟨g, o, none⟩ (.bool neg')).setCell ⟨g, o + 1, none⟩ v').drewN k).heap[g]? = some (.cells ((cells.setIfInBounds o (.bool neg')).setIfInBounds (o + 1) v') t (0, 0)) := by
    refine blk_drewN ?_ k
    refine blk_put ?_ (o + 1) v' rfl
    exact blk_put h1 o _ rfl
  constructor
  · refine ⟨?_, ?_, ?_, ?_, ?_, ?_⟩
    · exact (pw_below_drewN (B := 0) (w := w) (W := (w.setCell ⟨g, o, none⟩ (.bool neg')).setCell ⟨g, o + 1, none⟩ v') (((Below.refl 0 w).setCell (Nat.zero_le _) _).setCell (Nat.zero_le _) _) k).os
    · exact (pw_below_drewN (B := 0) (w := w) (W := (w.setCell ⟨g, o, none⟩ (.bool neg')).setCell ⟨g, o + 1, none⟩ v') (((Below.refl 0 w).setCell (Nat.zero_le _) _).setCell (Nat.zero_le _) _) k).tape
    · exact (pw_below_drewN (B := 0) (w := w) (W := (w.setCell ⟨g, o, none⟩ (.bool neg')).setCell ⟨g, o + 1, none⟩ v') (((Below.refl 0 w).setCell (Nat.zero_le _) _).setCell (Nat.zero_le _) _) k).output
    · exact (pw_below_drewN (B := 0) (w := w) (W := (w.setCell ⟨g, o, none⟩ (.bool neg')).setCell ⟨g, o + 1, none⟩ v') (((Below.refl 0 w).setCell (Nat.zero_le _) _).setCell (Nat.zero_le _) _) k).size
    · intro j hj hne
      show (((w.setCell ⟨g, o, none⟩ (.bool neg')).setCell ⟨g, o + 1, none⟩ v')).heap[j]? = _
      rw [Below.heap_setCell _ _ _ _ hne, Below.heap_setCell _ _ _ _ hne]
    · intro c t' fr hc
      rw [h1] at hc
      injection hc with hc
      injection hc with e1 e2 e5
      subst e1; subst e2; subst e5
      refine ⟨_, hb, by simp, fun j h5 h6 => ?_⟩
      rw [Array.getElem?_setIfInBounds_ne (by omega), Array.getElem?_setIfInBounds_ne (by omega)]
  · refine ⟨_, t, hb, ⟨A, n, c, hv'⟩, ?_, ?_⟩
    · rw [Array.getElem?_setIfInBounds_ne (by omega), Array.getElem?_setIfInBounds_self_of_lt e3]
    · rw [Array.getElem?_setIfInBounds_self_of_lt (by simpa using e4)]

theorem own_cell {k : IntKind} {e base : Nat} {ok : Nat → Prop} {W : World} {g n cap : Nat} {xs : List Int} (h : Kd.R (Kd.int k) e W base ok (.slice (some ⟨g, 0, none⟩) n cap) xs) (i : Nat) (hi : i < n) : W.cell? ⟨g, i, none⟩ = some (.int k (xs.getD i 0)) ∧ W.frozen? ⟨g, i, none⟩ = false := by
  have := Kd.R_celln (0 : Int) h (i : Int) (by omega) (by omega)
  simpa [rdOf] using this
theorem own_put {k : IntKind} {e base : Nat} {ok : Nat → Prop} {W : World} {g n cap : Nat} {xs : List Int} (h : Kd.R (Kd.int k) e W base ok (.slice (some ⟨g, 0, none⟩) n cap) xs) (i : Nat) (x : Int) : Kd.R (Kd.int k) e (W.setCell ⟨g, i, none⟩ (.int k x)) base ok (.slice (some ⟨g, 0, none⟩) n cap) (xs.set i x) := by
  have := (Kd.R_putg h (i : Int) x).1
  rw [Int.toNat_natCast] at this
  exact this
theorem mag_cell {k : IntKind} {W w : World} {A : Option Addr} {n : Nat} {xs : List Int} (h : Kd.C (Kd.int k) w A n xs) (hb : Below w.heap.size w W) (i : Nat) (hi : i < n) : ∃ ad, A = some ad ∧ W.cell? (ad.add i) = some (.int k (xs.getD i 0)) := by
  obtain ⟨ad, e, hc⟩ := Kd.at_int h (i : Int) (by omega) (by omega)
  refine ⟨ad, e, ?_⟩
  have := pw_cell_below hb hc
  simpa [rd] using this
/-- What a call answers that sets a number: the place, and the number there. -/
def SetP (w : World) (g o : Nat) (z : Int) (n : Nat) (e : Ending) (w' : World) : Prop := e = .returned (.pointer (some ⟨g, o, none⟩)) ∧ Wrote w w' g o ∧ IsN w' g o z n
/-- What a call answers that makes a number. -/
def NewP (w : World) (z : Int) (n : Nat) (e : Ending) (w' : World) : Prop := ∃ g, w.heap.size ≤ g ∧ e = .returned (.pointer (some ⟨g, 0, none⟩)) ∧ Below w.heap.size w w' ∧ IsN w' g 0 z n
/-- What a call answers that makes nothing that is looked at. -/
def ValP (w : World) (v : Value) (e : Ending) (w' : World) : Prop := e = .returned v ∧ Below w.heap.size w w'
theorem sg_mul (a b : Bool) (x y : Int) : sg (!a == b) (x * y) = sg a x * sg b y := by cases a <;> cases b <;> simp [sg, Int.neg_mul, Int.mul_neg]
theorem IsN.open {w : World} {g o : Nat} {z : Int} {n : Nat} (h : IsN w g o z n) : ∃ neg A c l, Slot w g o neg (.slice A l.length c) ∧ l.length ≤ c ∧ Kd.C (Kd.int .u32) w A l.length l ∧ Cn 4294967296 l ∧ l.length ≤ n ∧ z = sg neg (dv 4294967296 l) ∧ (neg = true → l ≠ []) := by
  obtain ⟨neg, v, l, h1, ⟨A, c, rfl, h2, h3⟩, h4, h5, h6, h7⟩ := h.at_
  exact ⟨neg, A, c, l, h1, h2, h3, h4, h5, h6, h7⟩
theorem sg_abs {neg : Bool} {x z : Int} (hx : 0 ≤ x) (h : z = sg neg x) : ((z.natAbs : Nat) : Int) = x := by
  cases neg <;> simp [sg] at h <;> omega
/-- How two numbers stand to each other. -/
def cmpI (a b : Int) : Int := if a < b then -1 else if b < a then 1 else 0
theorem ret_i {k : IntKind} {a b : Int} (h : a = b) : Ending.returned (.int k a) = Ending.returned (.int k b) := by rw [h]
theorem ret_b {a b : Bool} (h : a = b) : Ending.returned (.bool a) = Ending.returned (.bool b) := by rw [h]
theorem Drawn0.belowD {w w' : World} (h : Drawn0 w w') : Below w.heap.size w w' := Drawn0.below h
theorem Mag.mk' {w : World} {A : Option Addr} {c : Nat} {l : List Int} (hc : l.length ≤ c) (h : Kd.C (Kd.int .u32) w A l.length l) : Mag w (.slice A l.length c) l := ⟨A, c, rfl, hc, h⟩
/-- A number lies there; a zero may be told as one below zero. -/
structure IsW (w : World) (g o : Nat) (z : Int) (n : Nat) : Prop where mk ::
  at_ : ∃ neg A c l, Slot w g o neg (.slice A l.length c) ∧ l.length ≤ c ∧ Kd.C (Kd.int .u32) w A l.length l ∧ Cn 4294967296 l ∧ l.length ≤ n ∧ z = sg neg (dv 4294967296 l)
theorem IsN.w {w : World} {g o : Nat} {z : Int} {n : Nat} (h : IsN w g o z n) : IsW w g o z n := by
  obtain ⟨neg, A, c, l, h1, h2, h3, h4, h5, h6, _⟩ := h.open
  exact ⟨neg, A, c, l, h1, h2, h3, h4, h5, h6⟩
end Go.Proofs.Ytpbhepdgamoiaaa.Nd

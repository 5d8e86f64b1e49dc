/-
  A block that holds spans: opened, written, sorted. The shelf's sort at this program: the table of numbers, and that its bodies are the shelf's (plain words, printed by the shelf's tool). Spans sorted: the comparison, and slices.SortFunc at it. join at touching: neighbours of a sorted list put together. exact.clean: filter, lowest terms, sort, join. exact.Add as a sum of rational numbers; the law's awake. exact.Shift: spans moved. exact.Has: whether a time is in spans. Plain laws of clean lists and of moved ones. ExactMoves: moved spans have the times that are moved as far.
-/
import Derived.Test.YtekommcfpjonmaaQRExactMovesc
import Derived.Shelf.SlSortCmp.WholeK
import Derived.Test.YtekommcfpjonmaaProg
import Derived.Outline
import Derived.Test.YtekommcfpjonmaaQRExactMovesb
namespace Go.Proofs.Ytekommcfpjonmaa.Xk
open Go.RowKit Go Go.Proofs.YtekommcfpjonmaaW.PrintWords Go.Proofs.YtekommcfpjonmaaW.PrintLast Go.Proofs.YtekommcfpjonmaaW.PrintMore Go.Proofs.Ytekommcfpjonmaa.Mn Go.Proofs.Ytekommcfpjonmaa.Nd Go.Proofs.Ytekommcfpjonmaa.Z Go.Proofs.Ytekommcfpjonmaa.Rf Go.Proofs.Ytekommcfpjonmaa.E Go.Proofs.Ytekommcfpjonmaa.Sg Go.Proofs.Ytekommcfpjonmaa.Sx Go.Proofs.Ytekommcfpjonmaa.Sy Go.Proofs.Ytekommcfpjonmaa.Xv Go.Proofs.Ytekommcfpjonmaa.Xj
set_option linter.unusedVariables false
set_option linter.unusedSimpArgs false
def encS (x : Sn) : List Value := [.int .i64 x.f0.f0, .int .i64 x.f0.f1, .int .i64 x.f1.f0, .int .i64 x.f1.f1]
def encL : List Sn → List Value
 | [] => []
 | x :: t => encS x ++ encL t
theorem encL_len : ∀ l : List Sn, (encL l).length = l.length * 4
 | [] => rfl
 | x :: t => by
  simp only [encL, List.length_append, encL_len t, List.length_cons]
  show 4 + t.length * 4 = (t.length + 1) * 4
  omega
theorem encL_at : ∀ (l : List Sn) (i j : Nat) (p : Sn), l[i]? = some p → j < 4 → (encL l)[i * 4 + j]? = (encS p)[j]?
 | x :: t, 0, j, p, h, hj => by
  obtain rfl : x = p := by simpa using h
  simp only [encL]
  rw [Nat.zero_mul, Nat.zero_add, List.getElem?_append_left (show j < 4 from hj)]
 | x :: t, i + 1, j, p, h, hj => by
  simp only [encL]
  rw [List.getElem?_append_right (show 4 ≤ (i + 1) * 4 + j by omega)]
  have e : (i + 1) * 4 + j - (encS x).length = i * 4 + j := by show (i + 1) * 4 + j - 4 = i * 4 + j; omega
  rw [e]
  exact encL_at t i j p (by simpa using h) hj
theorem encL_reps {W : World} {base : Nat} {ok : Nat → Prop} : ∀ l : List Sn, Reps (fun (x : Sn) cs => Kd.M k40 W base ok x cs) 4 l (encL l)
 | [] => Reps.none _ _
 | x :: t => Reps.c4 (k40_mkM W base ok x) (encL_reps t)
theorem reps_enc {W : World} {base : Nat} {ok : Nat → Prop} : ∀ (l : List Sn) (cs : List Value), Reps (fun (x : Sn) cs => Kd.M k40 W base ok x cs) 4 l cs → cs = encL l
 | [], cs, h => by
  have := h.1
  exact List.eq_nil_of_length_eq_zero (by simpa using this)
 | x :: t, cs, h => by
  have h0 := k40_openM (h.2 0 x rfl)
  rw [Nat.zero_mul, List.drop_zero] at h0
  have ht : Reps (fun (x : Sn) cs => Kd.M k40 W base ok x cs) 4 t (cs.drop 4) := by
   refine ⟨?_, fun j p hj => ?_⟩
   ·have := h.1
    rw [List.length_drop, this, List.length_cons]
    omega
   ·have := h.2 (j + 1) p (by simpa using hj)
    rwa [show (j + 1) * 4 = 4 + j * 4 by omega, ← List.drop_drop] at this
  have ih := reps_enc t _ ht
  rw [encL, ← ih]
  conv => lhs; rw [← List.take_append_drop 4 cs, h0]
  rfl
def Blk (W : World) (g : Nat) (X : List Sn) (cap : Nat) : Prop := ∃ rest : List Value, W.heap[g]? = some (.cells (encL X ++ rest).toArray 40 (0, 0)) ∧ (encL X ++ rest).length = cap * 4 ∧ X.length ≤ cap ∧ cap ≤ maxLen
theorem R_blk {W : World} {base : Nat} {ok : Nat → Prop} {v : Value} {X : List Sn} (h : Kd.R k40 40 W base ok v X) : (v = .slice none 0 0 ∧ X = []) ∨ ∃ g cap, v = .slice (some ⟨g, 0, none⟩) X.length cap ∧ base ≤ g ∧ Blk W g X cap := by
 obtain ⟨h0, inner, ⟨hl, ho⟩, hr⟩ := h
 have he := reps_enc X inner hr
 subst he
 rcases ho with ⟨rfl, hn⟩ | ⟨g, cap, cur, rfl, hb, hh, hc, hm, hs, ht⟩
 ·exact .inl ⟨rfl, List.eq_nil_of_length_eq_zero hn⟩
 ·refine .inr ⟨g, cap, rfl, hb, cur.toList.drop (X.length * 4), ?_, ?_, hc, hm⟩
  ·have ht' : cur.toList.take (X.length * 4) = encL X := ht
   rw [← ht', List.take_append_drop]
   exact hh
  ·have ht' : cur.toList.take (X.length * 4) = encL X := ht
   rw [← ht', List.take_append_drop]
   exact hs
theorem blk_R {W : World} {base : Nat} {g cap : Nat} {X : List Sn} (h : Blk W g X cap) (hb : base ≤ g) : Kd.R k40 40 W base (fun _ => True) (.slice (some ⟨g, 0, none⟩) X.length cap) X := by
 obtain ⟨rest, h1, h2, h3, h4⟩ := h
 refine ⟨fun _ _ => trivial, encL X, ⟨by rw [encL_len]; rfl, .inr ⟨g, cap, _, rfl, hb, h1, h3, h4, ?_, ?_⟩⟩, encL_reps X⟩
 ·show (encL X ++ rest).toArray.size = cap * 4
  simpa using h2
 ·show (encL X ++ rest).take (X.length * 4) = encL X
  rw [← encL_len, List.take_left]
theorem Blk.cells {W : World} {g cap : Nat} {X : List Sn} (h : Blk W g X cap) {i : Nat} {p : Sn} (hi : X[i]? = some p) : W.cell? ⟨g, i * 4, none⟩ = some (.int .i64 p.f0.f0) ∧ W.cell? ⟨g, i * 4 + 1, none⟩ = some (.int .i64 p.f0.f1) ∧ W.cell? ⟨g, i * 4 + 2, none⟩ = some (.int .i64 p.f1.f0) ∧ W.cell? ⟨g, i * 4 + 3, none⟩ = some (.int .i64 p.f1.f1) ∧ ∀ j, W.frozen? ⟨g, j, none⟩ = false := by
 obtain ⟨rest, h1, h2, h3, h4⟩ := h
 have hl : i < X.length := (List.getElem?_eq_some_iff.1 hi).1
 have key : ∀ j, j < 4 → W.cell? ⟨g, i * 4 + j, none⟩ = (encS p)[j]? := fun j hj => by
  rw [blk_cell h1, List.getElem?_toArray, List.getElem?_append_left (by rw [encL_len]; omega), encL_at X i j p hi hj]
 exact ⟨(key 0 (by decide)).trans rfl, (key 1 (by decide)).trans rfl, (key 2 (by decide)).trans rfl, (key 3 (by decide)).trans rfl, fun j => blk_frozen h1 j⟩
theorem Blk.below {W W2 : World} {g cap : Nat} {X : List Sn} (h : Blk W g X cap) (hb : Below W.heap.size W W2) : Blk W2 g X cap := by
 obtain ⟨rest, h1, h2⟩ := h
 exact ⟨rest, blk_below h1 hb, h2⟩
theorem Blk.lt {W : World} {g cap : Nat} {X : List Sn} (h : Blk W g X cap) : g < W.heap.size := by
 obtain ⟨rest, h1, h2⟩ := h
 exact lt_of_some h1
theorem encL_set : ∀ (l : List Sn) (i : Nat) (y : Sn), i < l.length → encL (l.set i y) = (encL l).take (i * 4) ++ encS y ++ (encL l).drop (i * 4 + 4)
 | x :: t, 0, y, h => by
  simp only [List.set_cons_zero, encL]
  rw [Nat.zero_mul, List.take_zero, List.nil_append, Nat.zero_add, show 4 = (encS x).length from rfl, List.drop_left]
 | x :: t, i + 1, y, h => by
  simp only [List.set_cons_succ, encL]
  rw [encL_set t i y (by simpa using h), show (i + 1) * 4 = (encS x).length + i * 4 by show (i + 1) * 4 = 4 + i * 4; omega, List.take_length_add_append, Nat.add_assoc, List.drop_length_add_append]
  simp
theorem Blk.set {W : World} {g cap : Nat} {X : List Sn} (h : Blk W g X cap) (i : Nat) (y : Sn) (hi : i < X.length) : Blk (W.setCells g (i * 4) (encS y)) g (X.set i y) cap := by
 obtain ⟨rest, h1, h2, h3, h4⟩ := h
 have hl := encL_len X
 have hsz : i * 4 + (encS y).length ≤ (encL X ++ rest).toArray.size := by
  show i * 4 + 4 ≤ _
  simp only [List.size_toArray, List.length_append, hl]
  omega
 obtain ⟨cur', c1, c2, c3⟩ := setCells_row (encS y) (i * 4) W _ h1 hsz
 have e1 : (encL X ++ rest).toArray.toList = encL X ++ rest := rfl
 rw [e1] at c3
 have e2 : cur'.toList = encL (X.set i y) ++ rest := by
  rw [c3, encL_set X i y hi, List.take_append_of_le_length (by omega)]
  show _ = List.take (i * 4) (encL X) ++ encS y ++ List.drop (i * 4 + 4) (encL X) ++ rest
  rw [show (encS y).length = 4 from rfl, List.drop_append_of_le_length (by omega)]
  simp
 refine ⟨rest, ?_, ?_, by rw [List.length_set]; exact h3, h4⟩
 ·rw [c1]
  congr 2
  rw [← e2]
 ·rw [← e2, Array.length_toList, c2]
  simpa using h2
open Go.Sort in
theorem Blk.holds {W : World} {g cap : Nat} {X : List Sn} (h : Blk W g X cap) [Inhabited Sn] : HoldsK encS 4 W g 0 X.toArray := by
 intro t ht
 rw [size_flatK] at ht
 have ht' : t < X.length * 4 := by simpa using ht
 have hi : t / 4 < X.length := by omega
 obtain ⟨q0, q1, q2, q3, hf⟩ := h.cells (i := t / 4) (List.getElem?_eq_getElem hi)
 rw [get_flatK encS 4 X.toArray t ht, Nat.zero_add]
 have hx : (X.toArray[t / 4]! : Sn) = X[t / 4] := by
  rw [getElem!_pos X.toArray (t / 4) (by simpa using hi)]
  rfl
 refine ⟨?_, hf t⟩
 rw [hx]
 have h4 : t % 4 < 4 := Nat.mod_lt _ (by decide)
 have e : t = t / 4 * 4 + t % 4 := (Nat.div_add_mod' t 4).symm
 generalize t % 4 = j at *
 generalize t / 4 = i at *
 subst e
 match j, h4 with
 | 0, _ => exact q0
 | 1, _ => exact q1
 | 2, _ => exact q2
 | 3, _ => exact q3
open Go.Sort in
theorem pc_get (fl a : Array Value) (k : Nat) (h : k < (putCells id 0 fl a).size) (h2 : k < a.size) : (putCells id 0 fl a)[k] = if k < fl.size then fl[k]! else a[k] := by
 simp [putCells]
open Go.Sort in
theorem sorted_blk {W : World} {g cap : Nat} {X : List Sn} (h : Blk W g X cap) [Inhabited Sn] (d : Array Sn) (hs : d.size = X.length) (n : Nat) (os : Array Obj) :
  Blk (sortWorldK encS 4 W g 0 n d os) g d.toList cap ∧ ∀ B, B ≤ g → Go.RowKit.Below B W (sortWorldK encS 4 W g 0 n d os) := by
 obtain ⟨rest, h1, h2, h3, h4⟩ := h
 have hg := lt_of_some h1
 have hh : (sortWorldK encS 4 W g 0 n d os).heap = (W.heap.modify g (onCells (putCells id 0 (flatK encS 4 d)))) ++ os := rfl
 have hlen : d.toList.length = X.length := by simpa using hs
 have hcells : (putCells id 0 (flatK encS 4 d) (encL X ++ rest).toArray) = (encL d.toList ++ rest).toArray := by
  apply Array.ext
  ·simp [putCells, encL_len, hs]
  ·intro k k1 k2
   have k3 : k < X.length * 4 + rest.length := by simpa [putCells, encL_len] using k1
   rw [pc_get (flatK encS 4 d) (encL X ++ rest).toArray k k1 (by simpa [encL_len] using k3)]
   simp only [size_flatK]
   by_cases hk : k < X.length * 4
   ·rw [if_pos (by rw [hs]; exact hk), get_flatK encS 4 d k (by rw [hs]; exact hk)]
    have hi : k / 4 < d.toList.length := by omega
    have hd : (d[k / 4]! : Sn) = d.toList[k / 4] := by
     rw [getElem!_pos d (k / 4) (by rw [hs]; omega)]
     rfl
    have ha := encL_at d.toList (k / 4) (k % 4) _ (List.getElem?_eq_getElem hi) (Nat.mod_lt _ (by decide))
    rw [Nat.div_add_mod' k 4] at ha
    rw [hd]
    have hb : (encL d.toList ++ rest).toArray[k]? = (encS d.toList[k / 4])[k % 4]? := by
     rw [List.getElem?_toArray, List.getElem?_append_left (by rw [encL_len]; omega), ha]
    have hc : k % 4 < (encS d.toList[k / 4]).length := Nat.mod_lt _ (by decide)
    rw [getElem!_pos (encS d.toList[k / 4]) (k % 4) hc]
    rw [Array.getElem?_eq_getElem k2, List.getElem?_eq_getElem hc] at hb
    exact (Option.some.inj hb).symm
   ·rw [if_neg (by rw [hs]; exact hk)]
    simp only [List.getElem_toArray]
    rw [List.getElem_append_right (by rw [encL_len]; omega), List.getElem_append_right (by rw [encL_len]; omega)]
    congr 1
    rw [encL_len, encL_len, hlen]
 refine ⟨⟨rest, ?_, ?_, by omega, h4⟩, fun B hB => ⟨rfl, rfl, rfl, ?_, fun k hk => ?_⟩⟩
 ·rw [hh, Array.getElem?_append_left (by simpa using hg), Array.getElem?_modify, if_pos rfl, h1]
  simp only [Option.map_some, onCells]
  rw [hcells]
 ·rw [List.length_append, encL_len, hlen, ← encL_len, ← List.length_append]
  exact h2
 ·rw [hh]
  simp
 ·rw [hh, Array.getElem?_append_left (by simp; omega), Array.getElem?_modify, if_neg (by omega)]
end Go.Proofs.Ytekommcfpjonmaa.Xk
namespace Go.Proofs.Ytekommcfpjonmaa.Xl
open Go.Proofs Go.Shelf
def lays_ren : Go.Shelf.Ren := ⟨fun | 6 => 32 | 15 => 58 | 14 => 57 | 28 => 76 | 29 => 77 | 20 => 68 | 21 => 69 | 22 => 70 | 23 => 71 | 24 => 72 | 25 => 73 | 26 => 74 | 27 => 75 | 46 => 80 | 47 => 81 | 48 => 82 | 49 => 83 | 50 => 84 | 57 => 85 | n => n, fun | 22 => 22 | 24 => 40 | 25 => 58 | 3 => 3 | 39 => 68 | 0 => 0 | 53 => 90 | 55 => 71 | 4 => 4 | 46 => 95 | 45 => 94 | 50 => 99 | 5 => 5 | 9 => 9 | 66 => 104 | 70 => 107 | 76 => 109 | 77 => 110 | n => n, fun | n => n⟩
theorem lays : Go.Proofs.SlLaysF0.n6 Try.prog lays_ren := {
 mixed := by kernel_rfl
 f6 := ⟨Try.f32.name, by decide, Try.func32.trans (congrArg some (by kernel_rfl))⟩
 f14 := ⟨Try.f57.name, by decide, Try.func57.trans (congrArg some (by kernel_rfl))⟩
 f15 := Try.func58.trans (congrArg some (by kernel_rfl))
 f20 := ⟨Try.f68.name, by decide, Try.func68.trans (congrArg some (by kernel_rfl))⟩
 f21 := ⟨Try.f69.name, by decide, Try.func69.trans (congrArg some (by kernel_rfl))⟩
 f22 := ⟨Try.f70.name, by decide, Try.func70.trans (congrArg some (by kernel_rfl))⟩
 f23 := ⟨Try.f71.name, by decide, Try.func71.trans (congrArg some (by kernel_rfl))⟩
 f24 := ⟨Try.f72.name, by decide, Try.func72.trans (congrArg some (by kernel_rfl))⟩
 f25 := ⟨Try.f73.name, by decide, Try.func73.trans (congrArg some (by kernel_rfl))⟩
 f26 := ⟨Try.f74.name, by decide, Try.func74.trans (congrArg some (by kernel_rfl))⟩
 f27 := ⟨Try.f75.name, by decide, Try.func75.trans (congrArg some (by kernel_rfl))⟩
 f28 := Try.func76.trans (congrArg some (by kernel_rfl))
 f29 := Try.func77.trans (congrArg some (by kernel_rfl))
 f46 := ⟨Try.f80.name, by decide, Try.func80.trans (congrArg some (by kernel_rfl))⟩
 f47 := Try.func81.trans (congrArg some (by kernel_rfl))
 f48 := Try.func82.trans (congrArg some (by kernel_rfl))
 f49 := ⟨Try.f83.name, by decide, Try.func83.trans (congrArg some (by kernel_rfl))⟩
 f50 := ⟨Try.f84.name, by decide, Try.func84.trans (congrArg some (by kernel_rfl))⟩
 f57 := ⟨Try.f85.name, by decide, Try.func85.trans (congrArg some (by kernel_rfl))⟩
 t0 := Try.underlying0
 a0 := Try.isAgg0
 z0 := Try.sizeOf0
 v0 := Try.zeroValue0
 t3 := Try.underlying3
 a3 := Try.isAgg3
 z3 := Try.sizeOf3
 v3 := Try.zeroValue3
 t4 := Try.underlying4
 a4 := Try.isAgg4
 z4 := Try.sizeOf4
 v4 := Try.zeroValue4
 t5 := Try.underlying5
 a5 := Try.isAgg5
 z5 := Try.sizeOf5
 v5 := Try.zeroValue5
 t9 := Try.underlying9
 a9 := Try.isAgg9
 z9 := Try.sizeOf9
 v9 := Try.zeroValue9
 t22 := Try.underlying22
 a22 := Try.isAgg22
 z22 := Try.sizeOf22
 v22 := Try.zeroValue22
 t25 := Try.underlying58
 a25 := Try.isAgg58
 z25 := Try.sizeOf58
 v25 := Try.zeroValue58
 t39 := Try.underlying68
 a39 := Try.isAgg68
 z39 := Try.sizeOf68
 v39 := Try.zeroValue68
 t45 := Try.underlying94
 a45 := Try.isAgg94
 z45 := Try.sizeOf94
 v45 := Try.zeroValue94
 t46 := Try.underlying95
 a46 := Try.isAgg95
 z46 := Try.sizeOf95
 v46 := Try.zeroValue95
 t50 := Try.underlying99
 a50 := Try.isAgg99
 z50 := Try.sizeOf99
 v50 := Try.zeroValue99
 t53 := Try.underlying90
 a53 := Try.isAgg90
 z53 := Try.sizeOf90
 v53 := Try.zeroValue90
 t55 := Try.underlying71
 a55 := Try.isAgg71
 z55 := Try.sizeOf71
 v55 := Try.zeroValue71
 t66 := Try.underlying104
 a66 := Try.isAgg104
 z66 := Try.sizeOf104
 v66 := Try.zeroValue104
 t70 := Try.underlying107
 a70 := Try.isAgg107
 z70 := Try.sizeOf107
 v70 := Try.zeroValue107
 t76 := Try.underlying109
 a76 := Try.isAgg109
 z76 := Try.sizeOf109
 v76 := Try.zeroValue109
 t77 := Try.underlying110
 a77 := Try.isAgg110
 z77 := Try.sizeOf110
 v77 := Try.zeroValue110 }
end Go.Proofs.Ytekommcfpjonmaa.Xl
namespace Go.Proofs.Ytekommcfpjonmaa.Xs
open Go.RowKit Go Go.Proofs.YtekommcfpjonmaaW.PrintWords Go.Proofs.YtekommcfpjonmaaW.PrintLast Go.Proofs.YtekommcfpjonmaaW.PrintMore Go.Proofs.Ytekommcfpjonmaa.Mn Go.Proofs.Ytekommcfpjonmaa.Nd Go.Proofs.Ytekommcfpjonmaa.Z Go.Proofs.Ytekommcfpjonmaa.Rf Go.Proofs.Ytekommcfpjonmaa.E Go.Proofs.Ytekommcfpjonmaa.Sg Go.Proofs.Ytekommcfpjonmaa.Sx Go.Proofs.Ytekommcfpjonmaa.Sy Go.Proofs.Ytekommcfpjonmaa.Xv Go.Proofs.Ytekommcfpjonmaa.Xj Go.Proofs.Ytekommcfpjonmaa.Xk Go.Proofs.Ytekommcfpjonmaa.Xl
set_option linter.unusedVariables false
set_option linter.unusedSimpArgs false
structure Db (w W : World) (a b : Sn) : Prop where
 a : W.heap[w.heap.size]? = some (snO a)
 b : W.heap[w.heap.size + 1]? = some (snO b)
 below : Below w.heap.size w W
theorem Db.start (w : World) (a b : Sn) : Db w ((w.alloc (snO a)).alloc (snO b)) a b := by
 have e1 : (w.alloc (snO a)).heap.size = w.heap.size + 1 := by simp
 have k2 := blk_new (w.alloc (snO a)) (snO b)
 rw [e1] at k2
 exact ⟨blk_alloc (blk_new w _) _, k2, below_alloc (below_alloc (Below.refl _ w) _) _⟩
set_option maxHeartbeats 2000000 in
theorem less_n (a b : Sn) (w : World) (ha : vS a = true) (hb : vS b = true) :
  Calls Try.prog 33 #[.agg #[.int .i64 a.f0.f0, .int .i64 a.f0.f1, .int .i64 a.f1.f0, .int .i64 a.f1.f1], .agg #[.int .i64 b.f0.f0, .int .i64 b.f0.f1, .int .i64 b.f1.f0, .int .i64 b.f1.f1]] w (ValP w (.int .i64 (cmpQ (qT a.f0) (qT b.f0)))) := by
 have hu := Try.underlying40
 have hu2 := Try.underlying24
 have HA := Aside0.mk (And.intro (vS_is ha) (vS_is hb))
 have hT := Aside0.mk (Db.start w a b)
 unfold snO at hT
 clear ha hb
 go_enter Try.func33, Try.ntmps33
 go_upto_region 1 with fail
 generalize World.alloc (World.alloc _ _) _ = W at *
 have HT : Aside0 (Db w W a b) := ⟨hT.out⟩
 clear hT
 obtain ⟨p0, p1, p2, p3⟩ := sn_at HT.out.a
 obtain ⟨q0, q1, q2, q3⟩ := sn_at HT.out.b
 go_wp2_with fail
 refine (cmpT_n HA.out.1.1 HA.out.2.1 W).mono ?_
 rintro e w2 ⟨rfl, hb2⟩
 have HB := Aside0.mk (HT.out.below.trans (hb2.mono HT.out.below.size))
 generalize cmpQ (qT a.f0) (qT b.f0) = V at *
 clear hb2 HT p0 p1 p2 p3 q0 q1 q2 q3
 go_wp2_with fail
 go_ret
 exact ⟨rfl, HB.out⟩
set_option maxHeartbeats 2000000 in
theorem insertion_none (p : Option Addr) (cap : Nat) (fv : Value) (w : World) :
  Calls Try.prog 68 #[.slice p 0 cap, .int .i64 0, .int .i64 0, fv] w (ValP w (.tuple #[])) := by
 go_enter Try.func68, Try.ntmps68
 go_wp2
 refine wp_loop_rounds 1 ?_
 rw [rounds_succ]
 go_wp2
 go_end0
 exact ⟨rfl, Below.refl _ _⟩
set_option maxHeartbeats 2000000 in
theorem pdq_none (p : Option Addr) (cap : Nat) (lim : Int) (fv : Value) (w : World) :
  Calls Try.prog 57 #[.slice p 0 cap, .int .i64 0, .int .i64 0, .int .i64 lim, fv] w (ValP w (.tuple #[])) := by
 have hi := fun W => insertion_none p cap fv W
 go_enter Try.func57, Try.ntmps57
 go_wp2
 refine wp_loop_rounds 1 ?_
 rw [rounds_succ]
 go_wp2_with fail
 refine (hi _).mono ?_
 rintro e w' ⟨rfl, hb⟩
 go_wp2_with fail
 (try simp only [Exit.inBlock, Exit.then]); refine bodyPost_ret (results_none rfl _ _ _) rfl ?_
 exact ⟨rfl, hb⟩
theorem len0_n (w : World) : Calls Try.prog 58 #[.int .u64 0] w fun e w' => e = .returned (.int .i64 (Lib.bitLen 0 : Nat)) ∧ w' = w :=
 Any.bits_Len (SlLaysF0.n15.bits (P := Try.prog) (ρ := lays_ren) { lays with }) 0 w (by omega) (by omega)
set_option maxHeartbeats 2000000 in
theorem sort_none (p : Option Addr) (cap : Nat) (fv : Value) (w : World) :
  Calls Try.prog 32 #[.slice p 0 cap, fv] w (ValP w (.tuple #[])) := by
 have hp := fun lim W => pdq_none p cap lim fv W
 go_enter Try.func32, Try.ntmps32
 go_wp2_with fail
 refine (len0_n _).mono ?_
 rintro e w' ⟨rfl, rfl⟩
 go_wp2_with fail
 refine (hp _ _).mono ?_
 rintro e w2 ⟨rfl, hb⟩
 go_wp2_with fail
 go_end0
 exact ⟨rfl, hb⟩
abbrev Vs := {s : Sn // vS s = true}
def cfS (x y : Vs) : Int := cmpQ (qT x.1.f0) (qT y.1.f0)
def encV (x : Vs) : List Value := encS x.1
theorem lt_cf (x y : Vs) : Go.Proofs.ltOf cfS x y = decide (qT x.1.f0 < qT y.1.f0) := by
 unfold Go.Proofs.ltOf cfS cmpQ
 by_cases h1 : qT x.1.f0 < qT y.1.f0
 ·simp [h1]
 ·by_cases h2 : qT y.1.f0 < qT x.1.f0 <;> simp [h1, h2]
theorem swo_cf : Go.Sort.SWO (Go.Proofs.ltOf cfS) := {
 irrefl := fun x => by rw [lt_cf]; simp
 trans := fun x y z h1 h2 => by
  rw [lt_cf] at *
  simp only [decide_eq_true_eq] at *
  grind
 ntrans := fun x y z h1 h2 => by
  rw [lt_cf] at *
  simp only [decide_eq_false_iff_not] at *
  grind }
theorem v1 : vS ⟨⟨0, 1⟩, ⟨0, 1⟩⟩ = true := by simp [vS, vT, Ea.valid]
open Go.Sort in
theorem flat_val [Inhabited Vs] [Inhabited Sn] (d : Array Vs) : flatK encV 4 d = flatK encS 4 (d.map Subtype.val) := by
 unfold flatK
 rw [Array.size_map]
 refine Array.map_congr_left (fun t ht => ?_)
 have ht' : t < d.size * 4 := by simpa using ht
 have h1 : t / 4 < d.size := by omega
 rw [getElem!_pos d (t / 4) h1, getElem!_pos (d.map Subtype.val) (t / 4) (by simpa using h1), Array.getElem_map]
 rfl
set_option maxHeartbeats 1000000 in
theorem sort_n (g cap : Nat) (X : List Sn) (w : World) (h : Blk w g X cap) (hv : ∀ s ∈ X, vS s = true) (hl : X.length ≤ 1000000) :
  Calls Try.prog 32 #[.slice (some ⟨g, 0, none⟩) X.length cap, .func (.func 33) #[] #[]] w
   (fun e w' => e = .returned (.tuple #[]) ∧ ∃ d : List Sn, d.Perm X ∧ (∀ i j : Nat, i < j → ∀ x y, d[i]? = some x → d[j]? = some y → ¬ qT y.f0 < qT x.f0) ∧ Blk w' g d cap ∧ ∀ B, B ≤ g → Below B w w') := by
 haveI : Inhabited Vs := ⟨⟨_, v1⟩⟩
 haveI : Inhabited Sn := ⟨⟨⟨0, 1⟩, ⟨0, 1⟩⟩⟩
 have hd : ∃ d : Array Vs, d.map Subtype.val = X.toArray := ⟨(X.pmap Subtype.mk hv).toArray, by simp [List.map_pmap]⟩
 obtain ⟨d, hd⟩ := hd
 have hsz : d.size = X.length := by
  have := congrArg Array.size hd
  simpa using this
 have hH : Go.Sort.HoldsK encV 4 w g 0 d := by
  unfold Go.Sort.HoldsK
  rw [flat_val, hd]
  exact h.holds
 have hC : CmpLays Try.prog 33 #[] encV 4 cfS g 0 d.size w := by
  intro m os dk hs x y
  exact Sr.grown_of (less_n x.1 y.1 _ x.2 y.2)
 have hcon := AnyQ.slices_SortFunc lays 4 Try.isAgg40 Try.sizeOf40 encV (fun _ => rfl) (fun x v hv => by
  simp only [encV, encS, List.mem_cons, List.not_mem_nil, or_false] at hv
  rcases hv with rfl | rfl | rfl | rfl <;> rfl) cfS swo_cf 33 #[] g 0 cap d w (enters_of Try.func33 (by kernel_rfl) rfl) hC hH h.lt (by omega)
 rw [hsz] at hcon
 refine Calls.mono hcon ?_
 rintro e w' ⟨rfl, d', n, os, hp, hs, rfl⟩
 have hs' : d'.size = d.size := by rw [hp.1, hsz]
 have he : Go.Proofs.sortWorldK encV 4 w g 0 n d' os = Go.Proofs.sortWorldK encS 4 w g 0 n (d'.map Subtype.val) os := by
  unfold Go.Proofs.sortWorldK Go.Sort.putRowK
  rw [flat_val]
 rw [he]
 obtain ⟨k1, k2⟩ := sorted_blk h (d'.map Subtype.val) (by rw [Array.size_map, hs', hsz]) n os
 refine ⟨rfl, (d'.map Subtype.val).toList, ?_, ?_, k1, k2⟩
 ·have hp2 := hp.2.2
  rw [show (d'.extract 0 X.length) = d' by rw [← hsz, ← hs']; simp, show (d.extract 0 X.length) = d by rw [← hsz]; simp] at hp2
  have := hp2.map Subtype.val
  rw [← Array.toList_map, ← Array.toList_map, hd] at this
  exact this
 ·intro i j hij x y hx hy
  have hj : j < d'.size := by
   have := (List.getElem?_eq_some_iff.1 hy).1
   simpa using this
  have h0 := hs i j (Nat.zero_le _) hij (by omega)
  rw [lt_cf, getElem!_pos d' i (by omega), getElem!_pos d' j hj] at h0
  simp only [decide_eq_false_iff_not] at h0
  have ex : d'[i].1 = x := by simpa [List.getElem?_eq_getElem (show i < d'.size by omega)] using hx
  have ey : d'[j].1 = y := by simpa [List.getElem?_eq_getElem hj] using hy
  rw [ex, ey] at h0
  exact h0
end Go.Proofs.Ytekommcfpjonmaa.Xs
namespace Go.Proofs.Ytekommcfpjonmaa.Xn
open Go.RowKit Go Go.Proofs.YtekommcfpjonmaaW.PrintWords Go.Proofs.YtekommcfpjonmaaW.PrintLast Go.Proofs.YtekommcfpjonmaaW.PrintMore Go.Proofs.Ytekommcfpjonmaa.Mn Go.Proofs.Ytekommcfpjonmaa.Nd Go.Proofs.Ytekommcfpjonmaa.Z Go.Proofs.Ytekommcfpjonmaa.Rf Go.Proofs.Ytekommcfpjonmaa.E Go.Proofs.Ytekommcfpjonmaa.Sg Go.Proofs.Ytekommcfpjonmaa.Sx Go.Proofs.Ytekommcfpjonmaa.Sy Go.Proofs.Ytekommcfpjonmaa.Xv Go.Proofs.Ytekommcfpjonmaa.Xj Go.Proofs.Ytekommcfpjonmaa.Xk Go.Proofs.Ytekommcfpjonmaa.Xs
set_option linter.unusedVariables false
set_option linter.unusedSimpArgs false
section
variable {P : Program} {ops : Array Oper} {Q : Exit → Act → World → Prop}
theorem goesV_ {oi : Oper} {N : Option Tmp} {a : Act} {w : World} {K : Act → World → Prop} {f : FuncId} {fn : Func} {ar : Array Operand} {ts : Array TypeId} (t : Tmp) (hf : P.funcs[f]? = some fn) (hname : (fn.name == "runtime.NumGoroutine") = false) (hb : fn.body.isSome = true) (args : Array Value)
  (hw : Region.wanted oi (yielded ops a.tmps) = true) (hN : oi.dst = N) (hop : oi.op = .call { callee := .value (.tmp t), args := ar, argTypes := ts }) (ht : a.eval (.tmp t) = .func (.func f) #[] #[]) (hargs : ar.map a.eval = args)
  (h : Calls P f args w fun e w' => ∃ v, e = .returned v ∧ K (a.put N v) w') : if Region.wanted oi (yielded ops a.tmps) = true then Oper.wp P oi a w K Q else K (a.put N undef) w := by
 refine call_ f args hw hN ?_ h
 have he := enters_ hf hname hb args w
 unfold execOp
 simp [hop, resolve, Deferred.ofValue, invoke, ht, hargs, he]
end
theorem tch_v {a b : Sn} (ha : vS a = true) (hb : vS b = true) : vS (tch a b).1 = true := by
 have h1 := vS_is ha
 have h2 := vS_is hb
 unfold tch
 split
 ·exact ha
 ·split
  ·unfold vS
   simp only [Bool.and_eq_true, Bool.not_eq_true', decide_eq_false_iff_not]
   exact ⟨h1.1, h2.2.1, by grind⟩
  ·exact ha
theorem touch2 (a b c : Sn) (t : Bool) (w : World) (ha : vS a = true) (hb : vS b = true) (h : tch a b = (c, t)) :
  Calls Try.prog 35 #[.agg #[.int .i64 a.f0.f0, .int .i64 a.f0.f1, .int .i64 a.f1.f0, .int .i64 a.f1.f1], .agg #[.int .i64 b.f0.f0, .int .i64 b.f0.f1, .int .i64 b.f1.f0, .int .i64 b.f1.f1]] w (fun e w' => ∃ _u : Nat, e = .returned (.tuple #[.agg #[.int .i64 c.f0.f0, .int .i64 c.f0.f1, .int .i64 c.f1.f0, .int .i64 c.f1.f1], .bool t]) ∧ Below w.heap.size w w') := by
 refine (touching_n a b w ha hb).mono ?_
 rintro e w' ⟨rfl, hb⟩
 rw [h]
 exact ⟨0, rfl, hb⟩
structure Js (w W : World) (v : Value) (out : List Sn) : Prop where
 r : Kd.R k40 40 W w.heap.size (fun _ => True) v out
 below : Below w.heap.size w W
set_option maxHeartbeats 8000000 in
set_option maxRecDepth 100000 in
theorem join_n (A0 : Option Addr) (c0 : Nat) (l : List Sn) (w : World) (hr : Kd.C k40 w A0 l.length l) (hl : l.length ≤ 1000000) (hv : ∀ s ∈ l, vS s = true) :
  Calls Try.prog 34 #[.slice A0 l.length c0, .func (.func 35) #[] #[]] w (fun e w' => ∃ v, e = .returned v ∧ Js w w' v (mrgS l)) := by
 have hu := Try.underlying40
 have hu2 := Try.underlying24
 have HR := Aside0.mk (And.intro hr (And.intro hl hv))
 obtain ⟨V, hV⟩ : ∃ V, V = mrgS l := ⟨_, rfl⟩
 rw [← hV]
 have HV := Aside0.mk hV
 clear hr hl hv hV
 go_enter Try.func34, Try.ntmps34
 go_wp2_with fail
 go_loopg [5, 13] l.length (fun kq v5 v13 w' => ∃ (out : List Sn) (i : Int), v13 = .int .i64 i ∧ Aside0 (0 ≤ i ∧ i + kq = l.length ∧ out.length ≤ i.toNat) ∧ Aside0 (Js w w' v5 out ∧ ∀ s ∈ out, vS s = true) ∧ Aside0 ((out = [] ∧ i = 0) ∨ ∃ pre a, out = pre ++ [a] ∧ V = pre ++ jnS a (l.drop i.toNat)))
 case atStart => exact ⟨[], 0, rfl, ⟨by simp, by simp, by simp⟩, ⟨⟨Kd.R_nil _ _ _ _ _, Below.refl _ _⟩, by simp⟩, ⟨.inl ⟨rfl, rfl⟩⟩⟩
 case round =>
  obtain ⟨out, i, rfl, hi, hM, hL⟩ := hrel
  by_cases hlt : i < (l.length : Int)
  ·have p0 := hi.out.1
   have HD := Aside0.mk (any_drop (fun _ => true) l p0 hlt).2
   have HE := Aside0.mk (show l.drop i.toNat = rd_T40 l i :: l.drop (i + 1).toNat by
    have hn : i.toNat < l.length := by omega
    have hi2 : (i + 1).toNat = i.toNat + 1 := by omega
    have hg : rd_T40 l i = l[i.toNat] := by
     unfold rd_T40
     rw [List.getD_eq_getElem?_getD, List.getElem?_eq_getElem hn]
     rfl
    rw [hi2, hg, List.drop_eq_getElem_cons hn])
   obtain ⟨ad, hA, q0, q1, q2, q3⟩ := at_T40 (Kd.C_below HR.out.1 hM.out.1.below) i p0 hlt
   obtain ⟨k1, rfl⟩ : ∃ k, gk = k + 1 := ⟨gk - 1, by have := hi.out.2; omega⟩
   have hwi : wrap64 (i + 1) = i + 1 := by
    have := HR.out.2.1
    exact w64 (by omega) (by omega)
   have HX := Aside0.mk (HR.out.2.2 _ HD.out)
   generalize rd_T40 l i = X at *
   replace p0 := eq_true p0
   replace hlt := eq_true hlt
   subst hA
   go_upto_region 5 with fail
   have hB := Aside0.mk (show Below wr.heap.size wr (wr.alloc (snO X)) from below_alloc (Below.refl _ wr) _)
   have hX := Aside0.mk (show (wr.alloc (snO X)).heap[wr.heap.size]? = some (snO X) from blk_new wr _)
   unfold snO at hB hX
   generalize hW1 : World.alloc wr _ = W1 at hB hX
   have HX1 := Aside0.mk (show W1.heap[wr.heap.size]? = some (snO X) from hX.out)
   have HJ := Aside0.mk (show Js w W1 u5 out from ⟨Kd.R_below hM.out.1.r hB.out, hM.out.1.below.trans (hB.out.mono hM.out.1.below.size)⟩)
   have HO := Aside0.mk hM.out.2
   have HN := Aside0.mk (show ∀ g cap, u5 = .slice (some ⟨g, 0, none⟩) out.length cap → g ≠ wr.heap.size from fun g cap he => by
    rcases R_blk hM.out.1.r with ⟨e, _⟩ | ⟨g', cap', e, _, hb⟩
    ·rw [e] at he
     cases he
    ·rw [e] at he
     have := hb.lt
     cases he
     omega)
   clear hX hB hM hW1 q0 q1 q2 q3
   generalize wr.heap.size = G at *
   rcases hL.out with ⟨h1, h2⟩ | ⟨pre, a, h1, h2⟩
   ·subst h1 h2
    obtain ⟨A1, c1, h3⟩ := Kd.R_slice HJ.out.r
    subst h3
    have HV3 := Aside0.mk (show V = [] ++ jnS X (l.drop ((0 : Int) + 1).toNat) by
     have he := HE.out
     rw [show ((0 : Int)).toNat = 0 from rfl, List.drop_zero] at he
     rw [HV.out, he]
     rfl)
    clear hL HN
    obtain ⟨x0, x1, x2, x3⟩ := sn_at HX1.out
    obtain ⟨n, hn⟩ : ∃ n : Nat, n = ([] : List Sn).length := ⟨_, rfl⟩
    rw [← hn]
    have hn0 : (0 < n) = False := eq_false (by rw [hn]; decide)
    have HFR := Aside0.mk (show Js w W1 (.slice A1 n c1) [] by rw [hn]; exact HJ.out)
    clear HJ hn
    go_wp2_with (first | ((with_reducible refine gate_builtin (b := .append) (xs := #[.tmp 38, .tmp 40]) rfl ?_); at_builtin; refine Kd.R_append k40 (w0 := w) w.heap.size rfl (.tmp 38) (.tmp 40) 22 40 (.agg #[(.int .i64 0), (.int .i64 0), (.int .i64 0), (.int .i64 0)]) 32 rfl Try.underlying22 info40 rfl (by decide) (by omega) (.slice A1 n c1) [] X [.int .i64 X.f0.f0, .int .i64 X.f0.f1, .int .i64 X.f1.f0, .int .i64 X.f1.f1] (fun _ => True) (fun _ => False) rfl (by first | (go_simp; done) | (go_simp; rfl)) (k40_mkM _ _ _ X) (fun _ hk => hk.elim) (fun k hk => trivial) HFR.out.r HFR.out.below HFR.out.below.size (by simp only [List.length_nil]; omega) ?_; intro v9 w9' ho hb hg hat; have HS6 := Aside0.mk (show Js w w9' v9 [X] from ⟨ho, hb⟩); clear ho hb hg hat))
    go_roundg k1
    case measure => omega
    case rel => exact ⟨[X], 0 + 1, rfl, ⟨by omega, by have := hi.out; omega, by simp⟩, ⟨HS6.out, fun s hs => by
     rw [List.mem_singleton.1 hs]
     exact HX.out⟩, ⟨.inr ⟨[], X, rfl, HV3.out⟩⟩⟩
   ·subst h1
    have HV2 := Aside0.mk h2
    rcases R_blk HJ.out.r with ⟨_, h3⟩ | ⟨g, cap, h3, hg, hblk⟩
    ·simp at h3
    subst h3
    have HG := Aside0.mk (And.intro hg (And.intro hblk (HN.out g cap rfl)))
    have HAV := Aside0.mk (HO.out a (by simp))
    obtain ⟨n, hn⟩ : ∃ n : Nat, n = (pre ++ [a]).length := ⟨_, rfl⟩
    obtain ⟨j, hj⟩ : ∃ j : Nat, j = pre.length := ⟨_, rfl⟩
    rw [← hn]
    have hn1 : n = j + 1 := by rw [hn, hj]; simp
    have hnp := eq_true (show 0 < n by omega)
    have hwj : wrap64 ((n : Int) - 1) = (j : Int) := by
     have := hi.out
     have := HR.out.2.1
     rw [w64 (by omega) (by omega)]
     omega
    have hj0 : (0 ≤ (j : Int)) = True := eq_true (by omega)
    have hj1 : ((j : Int) < (n : Int)) = True := eq_true (by omega)
    have HNJ := Aside0.mk (And.intro hn (And.intro hj hn1))
    obtain ⟨⟨B, tb⟩, hT⟩ : ∃ r, tch a X = r := ⟨_, rfl⟩
    have HT := Aside0.mk hT
    have HB := Aside0.mk (And.intro HG.out.2.1 HX1.out)
    have HC := Aside0.mk (fun W (hb : Below W1.heap.size W1 W) => And.intro (show W.cell? ⟨g, j * 4, none⟩ = some (.int .i64 a.f0.f0) ∧ W.cell? ⟨g, j * 4 + 1, none⟩ = some (.int .i64 a.f0.f1) ∧ W.cell? ⟨g, j * 4 + 2, none⟩ = some (.int .i64 a.f1.f0) ∧ W.cell? ⟨g, j * 4 + 3, none⟩ = some (.int .i64 a.f1.f1) from by
     have := (HG.out.2.1.below hb).cells (i := j) (p := a) (by rw [HNJ.out.2.1]; simp)
     exact ⟨this.1, this.2.1, this.2.2.1, this.2.2.2.1⟩) (sn_at (blk_below HX1.out hb)))
    clear hg hblk h2 hL hn hj hn1 hT
    go_upto_region 7 with fail
    have hb0 : Below W1.heap.size W1 W1.drew := below_drew' (Below.refl _ _)
    refine start_ (n := 14) (S := fun w' => w'.cell? ⟨g, j * 4, none⟩ = some (.int .i64 a.f0.f0) ∧ w'.cell? ⟨g, j * 4 + 1, none⟩ = some (.int .i64 a.f0.f1) ∧ w'.cell? ⟨g, j * 4 + 2, none⟩ = some (.int .i64 a.f1.f0) ∧ w'.cell? ⟨g, j * 4 + 3, none⟩ = some (.int .i64 a.f1.f1) ∧ w'.cell? ⟨G, 0, none⟩ = some (.int .i64 X.f0.f0) ∧ w'.cell? ⟨G, 1, none⟩ = some (.int .i64 X.f0.f1) ∧ w'.cell? ⟨G, 2, none⟩ = some (.int .i64 X.f1.f0) ∧ w'.cell? ⟨G, 3, none⟩ = some (.int .i64 X.f1.f1)) (ds := [12]) (bs 14 0) (by kernel_rfl) rfl rfl ⟨(HC.out _ hb0).1.1, (HC.out _ hb0).1.2.1, (HC.out _ hb0).1.2.2.1, (HC.out _ hb0).1.2.2.2, (HC.out _ hb0).2.1, (HC.out _ hb0).2.2.1, (HC.out _ hb0).2.2.2.1, (HC.out _ hb0).2.2.2.2⟩ (fun hHeld => ?_)
    refine zP 0 22 14 1 ?_
    refine zP 1 23 14 3 ?_
    refine zP 2 24 14 7 ?_
    refine zP 3 25 14 15 ?_
    refine zP 4 26 14 31 ?_
    refine zT 5 27 14 63 hHeld ?_
    refine zT 6 28 14 127 hHeld ?_
    refine join_ (σ := Nat × Nat) 2 (bs 14 4095) (fun ⟨u7, g11⟩ => [(29, .tuple #[.agg #[.int .i64 B.f0.f0, .int .i64 B.f0.f1, .int .i64 B.f1.f0, .int .i64 B.f1.f1], .bool tb]), (21, .tuple #[.agg #[.int .i64 B.f0.f0, .int .i64 B.f0.f1, .int .i64 B.f1.f0, .int .i64 B.f1.f1], .bool tb]), (30, .agg #[.int .i64 B.f0.f0, .int .i64 B.f0.f1, .int .i64 B.f1.f0, .int .i64 B.f1.f1]), (31, .bool tb), (9, .pointer (some ⟨g11, 0, none⟩))]) (fun ⟨u7, g11⟩ w' => Below W1.heap.size W1 w' ∧ (True) ∧ (W1.heap.size ≤ g11 ∧ w'.heap[g11]? = some (.cells #[.int .i64 0, .int .i64 0, .int .i64 0, .int .i64 0] 40))) ?_ (fun hq_7_8_9_10_11 => ?_)
    rotate_left
    ·
     refine join_ (σ := Nat × Nat) 3 (bs 14 2047) (fun ⟨u7, _⟩ => [(29, .tuple #[.agg #[.int .i64 B.f0.f0, .int .i64 B.f0.f1, .int .i64 B.f1.f0, .int .i64 B.f1.f1], .bool tb]), (21, .tuple #[.agg #[.int .i64 B.f0.f0, .int .i64 B.f0.f1, .int .i64 B.f1.f0, .int .i64 B.f1.f1], .bool tb]), (30, .agg #[.int .i64 B.f0.f0, .int .i64 B.f0.f1, .int .i64 B.f1.f0, .int .i64 B.f1.f1]), (31, .bool tb)]) (fun ⟨u7, _⟩ w' => Below W1.heap.size W1 w' ∧ (True)) ?_ (fun hq_7_8_9_10 => ?_)
     ·rintro ⟨u7, g11⟩ w' ⟨hB, f7⟩
      refine norm_ (a' := ?_) ?_ ?_; rotate_left; (· simp only [putAll, Act.put, List.setIfInBounds_toArray, List.set_cons_zero, List.set_cons_succ, i64_w, i32_w]; rfl)
      refine one_ (i := 11) (N := some 9) (bs 14 4095) rfl rfl (by kernel_rfl) (by decide) (fun K hK => ?_)
      ·
       refine value_ (v := .pointer (some ⟨w'.heap.size, 0, none⟩)) (w1 := w'.alloc (.cells #[.int .i64 0, .int .i64 0, .int .i64 0, .int .i64 0] 40)) (by rfl) rfl ?_ ?_
       ·go_simp
       have hb9 : Below w'.heap.size w' (w'.alloc (.cells #[.int .i64 0, .int .i64 0, .int .i64 0, .int .i64 0] 40)) := below_alloc (Below.refl _ _) _
       have n11 := blk_new w' (.cells #[.int .i64 0, .int .i64 0, .int .i64 0, .int .i64 0] 40)
       have hB9 := hB.trans (hb9.mono hB.size)
       refine hK.out _ _ ⟨(HC.out _ hB9).1.1, (HC.out _ hB9).1.2.1, (HC.out _ hB9).1.2.2.1, (HC.out _ hB9).1.2.2.2, (HC.out _ hB9).2.1, (HC.out _ hB9).2.2.1, (HC.out _ hB9).2.2.2.1, (HC.out _ hB9).2.2.2.2⟩ (fun hHeld => ?_)
       clear hK K
       refine norm_ ?_ (hq_7_8_9_10_11 ⟨u7, w'.heap.size⟩ _ ⟨hB9, trivial, ⟨hB.size, n11⟩⟩); (· simp only [putAll, Act.put, List.setIfInBounds_toArray, List.set_cons_zero, List.set_cons_succ, i64_w, i32_w])
     refine join_ (σ := Nat × Nat) 6 (bs 14 2175) (fun ⟨_, g11⟩ => [(9, .pointer (some ⟨g11, 0, none⟩))]) (fun ⟨_, g11⟩ w' => Below W1.heap.size W1 w' ∧ (W1.heap.size ≤ g11 ∧ w'.heap[g11]? = some (.cells #[.int .i64 0, .int .i64 0, .int .i64 0, .int .i64 0] 40))) ?_ (fun hq_11 => ?_)
     ·rintro ⟨u7, g11⟩ w' ⟨hB, f11⟩
      refine norm_ (a' := ?_) ?_ ?_; rotate_left; (· simp only [putAll, Act.put, List.setIfInBounds_toArray, List.set_cons_zero, List.set_cons_succ, i64_w, i32_w]; rfl)
      refine one_ (i := 7) (N := some 29) (bs 14 2303) rfl rfl (by kernel_rfl) (by decide) (fun K hK => ?_)
      ·
       refine goesV_ 22 Try.func35 (by kernel_rfl) rfl #[.agg #[.int .i64 a.f0.f0, .int .i64 a.f0.f1, .int .i64 a.f1.f0, .int .i64 a.f1.f1], .agg #[.int .i64 X.f0.f0, .int .i64 X.f0.f1, .int .i64 X.f1.f0, .int .i64 X.f1.f1]] (by rfl) rfl rfl (by rfl) (by simp only [List.map_toArray, List.map_cons, List.map_nil]; rfl) ?_
       with_reducible refine (touch2 a X B tb w' HAV.out HX.out HT.out).mono ?_
       rintro e w9 ⟨u7, rfl, hb9⟩
       refine ⟨_, rfl, ?_⟩
       have hB9 := hB.trans (hb9.mono hB.size)
       refine hK.out _ _ ⟨(HC.out _ hB9).1.1, (HC.out _ hB9).1.2.1, (HC.out _ hB9).1.2.2.1, (HC.out _ hB9).1.2.2.2, (HC.out _ hB9).2.1, (HC.out _ hB9).2.2.1, (HC.out _ hB9).2.2.2.1, (HC.out _ hB9).2.2.2.2⟩ (fun hHeld => ?_)
       clear hK K
       refine norm_ (a' := ?_) ?_ ?_; rotate_left; (· show Act.put _ (some 29) _ = _; simp only [putAll, Act.put, List.setIfInBounds_toArray, List.set_cons_zero, List.set_cons_succ, i64_w, i32_w]; rfl)
       refine pure_ (i := 8) (N := some 21) (v := ?_) (a' := ?_) (bs 14 2559) rfl rfl (by kernel_rfl) (fun _ _ _ h => h) (Or.inl ⟨by rfl, ?_⟩) ?_ ?_; rotate_left; (· intro w'; go_simp; first | done | with_reducible rfl); rotate_left; (· simp only [Act.put, List.setIfInBounds_toArray, List.set_cons_zero, List.set_cons_succ, i64_w, i32_w]; rfl)
       refine pure_ (i := 9) (N := some 30) (v := ?_) (a' := ?_) (bs 14 3071) rfl rfl (by kernel_rfl) (fun _ _ _ h => h) (Or.inl ⟨by rfl, ?_⟩) ?_ ?_; rotate_left; (· intro w'; go_simp; first | done | with_reducible rfl); rotate_left; (· simp only [Act.put, List.setIfInBounds_toArray, List.set_cons_zero, List.set_cons_succ, i64_w, i32_w]; rfl)
       refine pure_ (i := 10) (N := some 31) (v := ?_) (a' := ?_) (bs 14 4095) rfl rfl (by kernel_rfl) (fun _ _ _ h => h) (Or.inl ⟨by rfl, ?_⟩) ?_ ?_; rotate_left; (· intro w'; go_simp; first | done | with_reducible rfl); rotate_left; (· simp only [Act.put, List.setIfInBounds_toArray, List.set_cons_zero, List.set_cons_succ, i64_w, i32_w]; rfl)
       refine norm_ ?_ (hq_7_8_9_10_11 ⟨u7, g11⟩ _ ⟨hB9, trivial, ⟨f11.1, blk_below f11.2 hb9⟩⟩); (· simp only [putAll, Act.put, List.setIfInBounds_toArray, List.set_cons_zero, List.set_cons_succ, i64_w, i32_w])
     have hB := below_drew' (Below.refl _ W1.drew)
     refine two_ (i := 7) (j := 11) (Ni := some 29) (Nj := some 9) (bs 14 255) (bs 14 2175) rfl rfl rfl rfl (by kernel_rfl) (by decide) (by decide) (fun K hK => ?_) (fun K hK => ?_)
     ·
      refine goesV_ 22 Try.func35 (by kernel_rfl) rfl #[.agg #[.int .i64 a.f0.f0, .int .i64 a.f0.f1, .int .i64 a.f1.f0, .int .i64 a.f1.f1], .agg #[.int .i64 X.f0.f0, .int .i64 X.f0.f1, .int .i64 X.f1.f0, .int .i64 X.f1.f1]] (by rfl) rfl rfl (by rfl) (by simp only [List.map_toArray, List.map_cons, List.map_nil]; rfl) ?_
      with_reducible refine (touch2 a X B tb W1.drew HAV.out HX.out HT.out).mono ?_
      rintro e w9 ⟨u7, rfl, hb9⟩
      refine ⟨_, rfl, ?_⟩
      have hB9 := hB.trans (hb9.mono hB.size)
      refine hK.out _ _ ⟨(HC.out _ hB9).1.1, (HC.out _ hB9).1.2.1, (HC.out _ hB9).1.2.2.1, (HC.out _ hB9).1.2.2.2, (HC.out _ hB9).2.1, (HC.out _ hB9).2.2.1, (HC.out _ hB9).2.2.2.1, (HC.out _ hB9).2.2.2.2⟩ (fun hHeld => ?_)
      clear hK K
      refine norm_ (a' := ?_) ?_ ?_; rotate_left; (· show Act.put _ (some 29) _ = _; simp only [putAll, Act.put, List.setIfInBounds_toArray, List.set_cons_zero, List.set_cons_succ, i64_w, i32_w]; rfl)
      refine pure_ (i := 8) (N := some 21) (v := ?_) (a' := ?_) (bs 14 511) rfl rfl (by kernel_rfl) (fun _ _ _ h => h) (Or.inl ⟨by rfl, ?_⟩) ?_ ?_; rotate_left; (· intro w'; go_simp; first | done | with_reducible rfl); rotate_left; (· simp only [Act.put, List.setIfInBounds_toArray, List.set_cons_zero, List.set_cons_succ, i64_w, i32_w]; rfl)
      refine pure_ (i := 9) (N := some 30) (v := ?_) (a' := ?_) (bs 14 1023) rfl rfl (by kernel_rfl) (fun _ _ _ h => h) (Or.inl ⟨by rfl, ?_⟩) ?_ ?_; rotate_left; (· intro w'; go_simp; first | done | with_reducible rfl); rotate_left; (· simp only [Act.put, List.setIfInBounds_toArray, List.set_cons_zero, List.set_cons_succ, i64_w, i32_w]; rfl)
      refine pure_ (i := 10) (N := some 31) (v := ?_) (a' := ?_) (bs 14 2047) rfl rfl (by kernel_rfl) (fun _ _ _ h => h) (Or.inl ⟨by rfl, ?_⟩) ?_ ?_; rotate_left; (· intro w'; go_simp; first | done | with_reducible rfl); rotate_left; (· simp only [Act.put, List.setIfInBounds_toArray, List.set_cons_zero, List.set_cons_succ, i64_w, i32_w]; rfl)
      refine norm_ ?_ (hq_7_8_9_10 ⟨u7, 0⟩ _ ⟨hB9, trivial⟩); (· simp only [putAll, Act.put, List.setIfInBounds_toArray, List.set_cons_zero, List.set_cons_succ, i64_w, i32_w])
     ·
      refine value_ (v := .pointer (some ⟨W1.drew.heap.size, 0, none⟩)) (w1 := W1.drew.alloc (.cells #[.int .i64 0, .int .i64 0, .int .i64 0, .int .i64 0] 40)) (by rfl) rfl ?_ ?_
      ·go_simp
      have hb9 : Below W1.drew.heap.size W1.drew (W1.drew.alloc (.cells #[.int .i64 0, .int .i64 0, .int .i64 0, .int .i64 0] 40)) := below_alloc (Below.refl _ _) _
      have n11 := blk_new W1.drew (.cells #[.int .i64 0, .int .i64 0, .int .i64 0, .int .i64 0] 40)
      have hB9 := hB.trans (hb9.mono hB.size)
      refine hK.out _ _ ⟨(HC.out _ hB9).1.1, (HC.out _ hB9).1.2.1, (HC.out _ hB9).1.2.2.1, (HC.out _ hB9).1.2.2.2, (HC.out _ hB9).2.1, (HC.out _ hB9).2.2.1, (HC.out _ hB9).2.2.2.1, (HC.out _ hB9).2.2.2.2⟩ (fun hHeld => ?_)
      clear hK K
      refine norm_ ?_ (hq_11 ⟨0, W1.drew.heap.size⟩ _ ⟨hB9, ⟨hB.size, n11⟩⟩); (· simp only [putAll, Act.put, List.setIfInBounds_toArray, List.set_cons_zero, List.set_cons_succ, i64_w, i32_w])
    rintro ⟨u7, g11⟩ w' ⟨hB, f7, f11⟩
    refine norm_ (a' := ?_) ?_ ?_; rotate_left; (· simp only [putAll, Act.put, List.setIfInBounds_toArray, List.set_cons_zero, List.set_cons_succ, i64_w, i32_w]; rfl)
    have hHeld : w'.cell? ⟨g, j * 4, none⟩ = some (.int .i64 a.f0.f0) ∧ w'.cell? ⟨g, j * 4 + 1, none⟩ = some (.int .i64 a.f0.f1) ∧ w'.cell? ⟨g, j * 4 + 2, none⟩ = some (.int .i64 a.f1.f0) ∧ w'.cell? ⟨g, j * 4 + 3, none⟩ = some (.int .i64 a.f1.f1) ∧ w'.cell? ⟨G, 0, none⟩ = some (.int .i64 X.f0.f0) ∧ w'.cell? ⟨G, 1, none⟩ = some (.int .i64 X.f0.f1) ∧ w'.cell? ⟨G, 2, none⟩ = some (.int .i64 X.f1.f0) ∧ w'.cell? ⟨G, 3, none⟩ = some (.int .i64 X.f1.f1) := ⟨(HC.out _ hB).1.1, (HC.out _ hB).1.2.1, (HC.out _ hB).1.2.2.1, (HC.out _ hB).1.2.2.2, (HC.out _ hB).2.1, (HC.out _ hB).2.2.1, (HC.out _ hB).2.2.2.1, (HC.out _ hB).2.2.2.2⟩
    refine zL 12 none 14 8191 (fun K hK => ?_)
    obtain ⟨s0, s1, s2, s3⟩ := sn_cells f11.2
    obtain ⟨fa, fb, fc, fd⟩ := sn_free (s := z4) f11.2
    refine skip_ (w1 := ?_) (by rfl) rfl ?_ ?_
    rotate_left
    ·(go_simp; with_reducible rfl)
    refine hK.out _ _ ?_
    clear hK K
    refine zP 13 10 14 16383 ?_
    refine done_ (by kernel_rfl) ?_
    have hz := blk_four (x := .int .i64 B.f0.f0) (y := .int .i64 B.f0.f1) (z := .int .i64 B.f1.f0) (u := .int .i64 B.f1.f1) f11.2
    have hbF : Below W1.heap.size W1 ((((w'.setCell ⟨g11, 0, none⟩ (.int .i64 B.f0.f0)).setCell ⟨g11, 1, none⟩ (.int .i64 B.f0.f1)).setCell ⟨g11, 2, none⟩ (.int .i64 B.f1.f0)).setCell ⟨g11, 3, none⟩ (.int .i64 B.f1.f1)) := (((hB.setCell f11.1 _).setCell f11.1 _).setCell f11.1 _).setCell f11.1 _
    generalize hFW : (((w'.setCell ⟨g11, 0, none⟩ (.int .i64 B.f0.f0)).setCell ⟨g11, 1, none⟩ (.int .i64 B.f0.f1)).setCell ⟨g11, 2, none⟩ (.int .i64 B.f1.f0)).setCell ⟨g11, 3, none⟩ (.int .i64 B.f1.f1) = FW at *
    have HF := Aside0.mk (And.intro (show FW.heap[g11]? = some (snO B) from hz) hbF)
    have HFX := Aside0.mk (And.intro (blk_below HX1.out hbF) (And.intro (show Js w FW (.slice (some ⟨g, 0, none⟩) (pre ++ [a]).length cap) (pre ++ [a]) from ⟨Kd.R_below HJ.out.r hbF, HJ.out.below.trans (hbF.mono HJ.out.below.size)⟩) (HG.out.2.1.below hbF)))
    have HFJ := Aside0.mk f11.1
    clear hz hbF hFW hB f7 f11 hHeld HB HC hb0
    cases htb : tb
    ·subst htb
     have HV3 := Aside0.mk (show V = (pre ++ [a]) ++ jnS X (l.drop (i + 1).toNat) by
      rw [HV2.out, HE.out, jnS, HT.out, if_neg (show ¬ ((B, false) : Sn × Bool).2 = true from Bool.false_ne_true), List.append_assoc]
      rfl)
     obtain ⟨x0, x1, x2, x3⟩ := sn_at HFX.out.1
     have HFR := Aside0.mk (show Js w FW (.slice (some ⟨g, 0, none⟩) n cap) (pre ++ [a]) by rw [HNJ.out.1]; exact HFX.out.2.1)
     have HB1 := Aside0.mk (show (pre ++ [a]).length ≤ 1000000 by have := hi.out; have := HR.out; omega)
     go_wp2_with (first | ((with_reducible refine gate_builtin (b := .append) (xs := #[.tmp 38, .tmp 40]) rfl ?_); at_builtin; refine Kd.R_append k40 (w0 := w) w.heap.size rfl (.tmp 38) (.tmp 40) 22 40 (.agg #[(.int .i64 0), (.int .i64 0), (.int .i64 0), (.int .i64 0)]) 32 rfl Try.underlying22 info40 rfl (by decide) (by omega) (.slice (some ⟨g, 0, none⟩) n cap) (pre ++ [a]) X [.int .i64 X.f0.f0, .int .i64 X.f0.f1, .int .i64 X.f1.f0, .int .i64 X.f1.f1] (fun _ => True) (fun _ => False) rfl (by first | (go_simp; done) | (go_simp; rfl)) (k40_mkM _ _ _ X) (fun _ hk => hk.elim) (fun k hk => trivial) HFR.out.r HFR.out.below HFR.out.below.size (by have := HB1.out; omega) ?_; intro v9 w9' ho hb hg hat; have HS6 := Aside0.mk (show Js w w9' v9 (pre ++ [a] ++ [X]) from ⟨ho, hb⟩); clear ho hb hg hat))
     go_roundg k1
     case measure => omega
     case rel => exact ⟨pre ++ [a] ++ [X], i + 1, by rw [hwi], ⟨by have := hi.out; omega, by have := hi.out; omega, by have := hi.out; simp only [List.length_append, List.length_cons, List.length_nil] at this ⊢; omega⟩, ⟨HS6.out, fun s hs => by
      rcases List.mem_append.1 hs with hs | hs
      ·exact HO.out s hs
      ·rw [List.mem_singleton.1 hs]
       exact HX.out⟩, ⟨.inr ⟨pre ++ [a], X, rfl, HV3.out⟩⟩⟩
    ·subst htb
     have HV3 := Aside0.mk (show V = pre ++ jnS B (l.drop (i + 1).toNat) by
      rw [HV2.out, HE.out, jnS, HT.out, if_pos rfl])
     obtain ⟨x0, x1, x2, x3⟩ := sn_at HF.out.1
     have HFC := Aside0.mk (HFX.out.2.2.cells (i := j) (p := a) (by rw [HNJ.out.2.1]; simp))
     obtain ⟨y0, y1, y2, y3, hfz⟩ := HFC.out
     obtain ⟨z0, z1, z2, z3⟩ := And.intro (hfz (j * 4)) (And.intro (hfz (j * 4 + 1)) (And.intro (hfz (j * 4 + 2)) (hfz (j * 4 + 3))))
     clear hfz
     go_upto_region 11 with fail
     generalize hW2 : (((FW.setCell ⟨g, j * 4, none⟩ (.int .i64 B.f0.f0)).setCell ⟨g, j * 4 + 1, none⟩ (.int .i64 B.f0.f1)).setCell ⟨g, j * 4 + 2, none⟩ (.int .i64 B.f1.f0)).setCell ⟨g, j * 4 + 3, none⟩ (.int .i64 B.f1.f1) = W2
     have HS6 := Aside0.mk (show Js w W2 (.slice (some ⟨g, 0, none⟩) n cap) (pre ++ [B]) by
      have hs := HFX.out.2.2.set j B (by rw [HNJ.out.2.1]; simp)
      have he : (pre ++ [a]).set j B = pre ++ [B] := by rw [HNJ.out.2.1, List.set_append_right _ _ (Nat.le_refl _)]; simp
      have hW : FW.setCells g (j * 4) (encS B) = W2 := hW2
      rw [he, hW] at hs
      have hn : n = (pre ++ [B]).length := by rw [HNJ.out.1]; simp
      rw [hn]
      refine ⟨blk_R hs HG.out.1, ?_⟩
      rw [← hW2]
      exact (((HFX.out.2.1.below.setCell HG.out.1 _).setCell HG.out.1 _).setCell HG.out.1 _).setCell HG.out.1 _)
     clear hW2 HFC y0 y1 y2 y3 z0 z1 z2 z3 x0 x1 x2 x3
     go_wp2_with fail
     go_roundg k1
     case measure => omega
     case rel => exact ⟨pre ++ [B], i + 1, by rw [hwi], ⟨by have := hi.out; omega, by have := hi.out; omega, by have := hi.out; simp only [List.length_append, List.length_cons, List.length_nil] at this ⊢; omega⟩, ⟨HS6.out, fun s hs => by
      rcases List.mem_append.1 hs with hs | hs
      ·exact HO.out s (by simp [hs])
      ·rw [List.mem_singleton.1 hs]
       have := tch_v HAV.out HX.out
       rw [HT.out] at this
       exact this⟩, ⟨.inr ⟨pre, B, rfl, HV3.out⟩⟩⟩
  ·have hlb : decide (i < (l.length : Int)) = false := decide_eq_false hlt
   have HE := Aside0.mk (show V = out by
    have hd : l.drop i.toNat = [] := List.drop_of_length_le (by have := hi.out; omega)
    rcases hL.out with ⟨h1, h2⟩ | ⟨pre, a, h1, h2⟩
    ·rw [HV.out, h1]
     have : l.length = 0 := by have := hi.out; omega
     rw [List.eq_nil_of_length_eq_zero this]
     rfl
    ·rw [h2, hd, h1]
     rfl)
   have HJ := Aside0.mk hM.out.1
   replace hlt := eq_false hlt
   clear hL hM hi
   go_wp2_with fail
   go_ret
   exact ⟨_, rfl, by rw [HE.out]; exact HJ.out⟩
end Go.Proofs.Ytekommcfpjonmaa.Xn
namespace Go.Proofs.Ytekommcfpjonmaa.Xp
open Go.RowKit Go Go.Proofs.YtekommcfpjonmaaW.PrintWords Go.Proofs.YtekommcfpjonmaaW.PrintLast Go.Proofs.YtekommcfpjonmaaW.PrintMore Go.Proofs.Ytekommcfpjonmaa.Mn Go.Proofs.Ytekommcfpjonmaa.Nd Go.Proofs.Ytekommcfpjonmaa.Z Go.Proofs.Ytekommcfpjonmaa.Ea Go.Proofs.Ytekommcfpjonmaa.Rf Go.Proofs.Ytekommcfpjonmaa.E Go.Proofs.Ytekommcfpjonmaa.Sg Go.Proofs.Ytekommcfpjonmaa.Sx Go.Proofs.Ytekommcfpjonmaa.Sy Go.Proofs.Ytekommcfpjonmaa.Xv Go.Proofs.Ytekommcfpjonmaa.Xj Go.Proofs.Ytekommcfpjonmaa.Xk Go.Proofs.Ytekommcfpjonmaa.Xs Go.Proofs.Ytekommcfpjonmaa.Xn
set_option linter.unusedVariables false
set_option linter.unusedSimpArgs false
theorem lowT_n {t : Tm} (h : vT t = true) (w : World) : Calls Try.prog 29 #[.int .i64 t.f0, .int .i64 t.f1] w (ValP w (.agg #[.int .i64 (lT (qT t)).f0, .int .i64 (lT (qT t)).f1])) := by
 have hv := vT_is h
 obtain ⟨k, hk⟩ := lowest_f t.f0 t.f1 (by omega) (by omega) (by omega) (by omega)
 have hl := rat_low (a := t.f0) (b := t.f1) (by omega)
 unfold Ra.ratN Ra.ratD at hl
 rw [if_neg (by omega), if_neg (by omega)] at hl
 rw [hl.1, hl.2] at hk
 exact exact_lowest.calls k _ _ _ _ w hk
theorem vS_low {s : Sn} (h : vS s = true) : vS (lS (qS s)) = true := by
 have h1 := vS_is h
 unfold vS lS
 simp only [Bool.and_eq_true, Bool.not_eq_true', decide_eq_false_iff_not]
 refine ⟨vT_low h1.1, vT_low h1.2.1, ?_⟩
 rw [qT_lT, qT_lT]
 exact Rat.not_lt.2 h1.2.2
theorem lowF_v : ∀ {l : List Sn}, (∀ s ∈ l, vS s = true) → ∀ s ∈ lowF l, vS s = true
 | [], _, s, hs => by simp [lowF, full] at hs
 | x :: l, h, s, hs => by
  rw [lowF_cons] at hs
  split at hs
  ·rcases List.mem_cons.1 hs with rfl | hs
   ·exact vS_low (h x (by simp))
   ·exact lowF_v (fun s hs => h s (by simp [hs])) s hs
  ·exact lowF_v (fun s hs => h s (by simp [hs])) s hs
theorem lowF_len : ∀ l : List Sn, (lowF l).length ≤ l.length
 | [] => by simp [lowF, full]
 | x :: l => by
  rw [lowF_cons]
  have := lowF_len l
  split <;> simp <;> omega
set_option maxHeartbeats 8000000 in
set_option maxRecDepth 100000 in
theorem clean_n (A0 : Option Addr) (c0 : Nat) (l : List Sn) (w : World) (hr : Kd.C k40 w A0 l.length l) (hl : l.length ≤ 1000000) (hv : ∀ s ∈ l, vS s = true) :
  Calls Try.prog 14 #[.slice A0 l.length c0] w (fun e w' => ∃ v, e = .returned v ∧ Js w w' v (clnL l)) := by
 have hu := Try.underlying40
 have hu2 := Try.underlying24
 have HR := Aside0.mk (And.intro hr (And.intro hl hv))
 obtain ⟨V, hV⟩ : ∃ V, V = clnL l := ⟨_, rfl⟩
 rw [← hV]
 have HV := Aside0.mk hV
 clear hr hl hv hV
 go_enter Try.func14, Try.ntmps14
 go_wp2_with fail
 go_loopg [3, 8] l.length (fun kq v3 v8 w' => ∃ (out : List Sn) (i : Int), v8 = .int .i64 i ∧ Aside0 (0 ≤ i ∧ i + kq = l.length ∧ out.length ≤ i.toNat) ∧ Aside0 (Js w w' v3 out) ∧ Aside0 (lowF l = out ++ lowF (l.drop i.toNat)))
 case atStart => exact ⟨[], 0, rfl, ⟨by simp, by simp, by simp⟩, ⟨⟨Kd.R_nil _ _ _ _ _, Below.refl _ _⟩⟩, ⟨by simp⟩⟩
 case round =>
  obtain ⟨out, i, rfl, hi, hM, hL⟩ := hrel
  by_cases hlt : i < (l.length : Int)
  ·have p0 := hi.out.1
   have HD := Aside0.mk (any_drop (fun _ => true) l p0 hlt).2
   have HE := Aside0.mk (show l.drop i.toNat = rd_T40 l i :: l.drop (i + 1).toNat by
    have hn : i.toNat < l.length := by omega
    have hi2 : (i + 1).toNat = i.toNat + 1 := by omega
    have hg : rd_T40 l i = l[i.toNat] := by
     unfold rd_T40
     rw [List.getD_eq_getElem?_getD, List.getElem?_eq_getElem hn]
     rfl
    rw [hi2, hg, List.drop_eq_getElem_cons hn])
   obtain ⟨ad, hA, q0, q1, q2, q3⟩ := at_T40 (Kd.C_below HR.out.1 hM.out.below) i p0 hlt
   obtain ⟨k1, rfl⟩ : ∃ k, gk = k + 1 := ⟨gk - 1, by have := hi.out.2; omega⟩
   have hwi : wrap64 (i + 1) = i + 1 := by
    have := HR.out.2.1
    exact w64 (by omega) (by omega)
   have HX := Aside0.mk (HR.out.2.2 _ HD.out)
   generalize rd_T40 l i = X at *
   replace p0 := eq_true p0
   replace hlt := eq_true hlt
   subst hA
   go_upto_region 5 with fail
   have hB := Aside0.mk (show Below wr.heap.size wr (wr.alloc (snO X)) from below_alloc (Below.refl _ wr) _)
   have hX := Aside0.mk (show (wr.alloc (snO X)).heap[wr.heap.size]? = some (snO X) from blk_new wr _)
   unfold snO at hB hX
   generalize hW1 : World.alloc wr _ = W1 at hB hX
   have HX1 := Aside0.mk (show W1.heap[wr.heap.size]? = some (snO X) from hX.out)
   have HJ := Aside0.mk (show Js w W1 u3 out from ⟨Kd.R_below hM.out.r hB.out, hM.out.below.trans (hB.out.mono hM.out.below.size)⟩)
   clear hX hB hM hW1 q0 q1 q2 q3
   generalize wr.heap.size = G at *
   obtain ⟨q0, q1, q2, q3⟩ := sn_at HX1.out
   have HT := Aside0.mk (vS_is HX.out)
   go_wp2_with fail
   refine (cmpT_n HT.out.1 HT.out.2.1 W1).mono ?_
   rintro e w4 ⟨rfl, hb4⟩
   have HX4 := Aside0.mk (And.intro (blk_below HX1.out hb4) (show Js w w4 u3 out from ⟨Kd.R_below HJ.out.r hb4, HJ.out.below.trans (hb4.mono HJ.out.below.size)⟩))
   clear hb4 HX1 HJ q0 q1 q2 q3
   by_cases hc : qT X.f0 < qT X.f1
   ·rw [cq_lt hc]
    have HL2 := Aside0.mk (show lowF l = (out ++ [lS (qS X)]) ++ lowF (l.drop (i + 1).toNat) by
     rw [hL.out, HE.out, lowF_cons, if_pos hc, List.append_assoc]
     rfl)
    have HY := Aside0.mk (show qS X = (qT X.f0, qT X.f1) from rfl)
    clear hc hL
    go_upto_region 6 with fail
    have hb0 : Below w4.heap.size w4 w4.drew := below_drew' (Below.refl _ _)
    refine start_ (n := 19) (S := fun w' => w'.cell? ⟨G, 0, none⟩ = some (.int .i64 X.f0.f0) ∧ w'.cell? ⟨G, 1, none⟩ = some (.int .i64 X.f0.f1) ∧ w'.cell? ⟨G, 2, none⟩ = some (.int .i64 X.f1.f0) ∧ w'.cell? ⟨G, 3, none⟩ = some (.int .i64 X.f1.f1)) (ds := [16, 17]) (bs 19 0) (by kernel_rfl) rfl rfl ⟨(sn_at (blk_below HX4.out.1 hb0)).1, (sn_at (blk_below HX4.out.1 hb0)).2.1, (sn_at (blk_below HX4.out.1 hb0)).2.2.1, (sn_at (blk_below HX4.out.1 hb0)).2.2.2⟩ (fun hHeld => ?_)
    refine zP 0 18 19 1 ?_
    refine zP 1 19 19 3 ?_
    refine zP 2 20 19 7 ?_
    refine zP 4 22 19 23 ?_
    refine zP 5 23 19 55 ?_
    refine zP 8 26 19 311 ?_
    refine zP 9 27 19 823 ?_
    refine zP 11 29 19 2871 ?_
    refine zP 12 30 19 6967 ?_
    refine zT 3 21 19 6975 hHeld ?_
    refine zT 6 24 19 7039 hHeld ?_
    refine zT 10 28 19 8063 hHeld ?_
    refine zT 13 31 19 16255 hHeld ?_
    refine zN 7 (some 25) 19 16383 (fun K hK => ?_)
    refine zG Try.func29 #[.int .i64 X.f0.f0, .int .i64 X.f0.f1] ?_
    with_reducible refine (lowT_n HT.out.1 w4.drew).mono ?_
    rintro e w5 ⟨rfl, hb5⟩
    refine ⟨_, rfl, ?_⟩
    have hb5' := below_drew' hb5
    have H5 := Aside0.mk (And.intro (blk_below HX4.out.1 hb5') (show Js w w5 u3 out from ⟨Kd.R_below HX4.out.2.r hb5', HX4.out.2.below.trans (hb5'.mono HX4.out.2.below.size)⟩))
    clear hb5 hb5'
    refine hK.out _ _ ⟨(sn_at H5.out.1).1, (sn_at H5.out.1).2.1, (sn_at H5.out.1).2.2.1, (sn_at H5.out.1).2.2.2⟩ (fun hHeld => ?_)
    clear hK K
    refine zM 25 ?_
    refine zN 14 (some 32) 19 32767 (fun K hK => ?_)
    refine zG Try.func29 #[.int .i64 X.f1.f0, .int .i64 X.f1.f1] ?_
    with_reducible refine (lowT_n HT.out.2.1 w5).mono ?_
    rintro e w6 ⟨rfl, hb6⟩
    refine ⟨_, rfl, ?_⟩
    have H6 := Aside0.mk (And.intro (blk_below H5.out.1 hb6) (show Js w w6 u3 out from ⟨Kd.R_below H5.out.2.r hb6, H5.out.2.below.trans (hb6.mono H5.out.2.below.size)⟩))
    clear hb6
    refine hK.out _ _ ⟨(sn_at H6.out.1).1, (sn_at H6.out.1).2.1, (sn_at H6.out.1).2.2.1, (sn_at H6.out.1).2.2.2⟩ (fun hHeld => ?_)
    clear hK K
    refine zM 32 ?_
    refine zP 15 33 19 65535 ?_
    refine zL 16 (some 34) 19 131071 (fun K hK => ?_)
    refine value_ (v := .slice (some ⟨w6.heap.size, 0, none⟩) 1 1) (w1 := w6.alloc (.cells #[.int .i64 (lT (qT X.f0)).f0, .int .i64 (lT (qT X.f0)).f1, .int .i64 (lT (qT X.f1)).f0, .int .i64 (lT (qT X.f1)).f1] 40)) (by rfl) rfl ?_ ?_
    ·go_simp
    refine hK.out _ _ ?_
    clear hK K
    refine zM 34 ?_
    refine zL 17 (some 35) 19 262143 (fun K hK => ?_)
    refine Kd.R_append_step k40 (w0 := w) w.heap.size (by rfl) (.tmp 18) (.tmp 34) 22 40 (.agg #[(.int .i64 0), (.int .i64 0), (.int .i64 0), (.int .i64 0)]) 32 rfl Try.underlying22 info40 rfl (by decide) (by omega) u3 out (lS (qS X)) [.int .i64 (lT (qT X.f0)).f0, .int .i64 (lT (qT X.f0)).f1, .int .i64 (lT (qT X.f1)).f0, .int .i64 (lT (qT X.f1)).f1] (fun _ => True) (fun _ => False) rfl (by rfl) (k40_mkM _ _ _ (lS (qS X))) (fun _ hk => hk.elim) (fun k hk => trivial) H6.out.2.r H6.out.2.below H6.out.2.below.size (by have := hi.out; have := HR.out; omega) ?_
    intro v9 w9' ho hb hg hat
    have HS6 := Aside0.mk (show Js w w9' v9 (out ++ [lS (qS X)]) from ⟨ho, hb⟩)
    clear ho hb hg hat
    refine hK.out _ _ ?_
    clear hK K
    refine zM 35 ?_
    refine zP 18 3 19 524287 ?_
    refine done_ (by kernel_rfl) ?_
    clear HX4 H5 H6 hb0
    go_wp2_with fail
    go_roundg k1
    case measure => omega
    case rel => exact ⟨out ++ [lS (qS X)], i + 1, by rw [hwi], ⟨by have := hi.out; omega, by have := hi.out; omega, by have := hi.out; simp only [List.length_append, List.length_cons, List.length_nil] at this ⊢; omega⟩, HS6, HL2⟩
   ·obtain ⟨c, hc0, ec⟩ := cq_ge hc
    rw [ec]
    have HL2 := Aside0.mk (show lowF l = out ++ lowF (l.drop (i + 1).toNat) by
     rw [hL.out, HE.out, lowF_cons, if_neg hc])
    have hd : decide (c < 0) = false := decide_eq_false (by omega)
    clear hc ec hL hc0
    go_wp2_with fail
    go_roundg k1
    case measure => omega
    case rel => exact ⟨out, i + 1, by rw [hwi], ⟨by have := hi.out; omega, by have := hi.out; omega, by have := hi.out; omega⟩, ⟨HX4.out.2⟩, HL2⟩
  ·have hlb : decide (i < (l.length : Int)) = false := decide_eq_false hlt
   have HE := Aside0.mk (show lowF l = out by
    have hd : l.drop i.toNat = [] := List.drop_of_length_le (by have := hi.out; omega)
    rw [hL.out, hd]
    simp [lowF, full])
   have HJ := Aside0.mk hM.out
   have HO := Aside0.mk (show (∀ s ∈ out, vS s = true) ∧ out.length ≤ 1000000 by
    rw [← HE.out]
    have := lowF_len l
    have := HR.out.2.1
    exact ⟨lowF_v HR.out.2.2, by omega⟩)
   replace hlt := eq_false hlt
   clear hL hM hi
   rcases R_blk HJ.out.r with ⟨h3, h4⟩ | ⟨g, cap, h3, hg, hblk⟩
   ·subst h3 h4
    have HV2 := Aside0.mk (show mrgS [] = V by rw [HV.out, mrgS_sorted (l := l) (m := []) (by rw [HE.out]) (by simp)])
    have HB := Aside0.mk HJ.out.below
    clear HJ
    go_wp2_with fail
    refine (sort_none none 0 _ wr).mono ?_
    rintro e w5 ⟨rfl, hb5⟩
    have HB5 := Aside0.mk (HB.out.trans (hb5.mono HB.out.size))
    clear hb5 HB
    go_wp2_with fail
    refine (join_n none 0 [] w5 (Kd.C_nil _ _) (by simp) (by simp)).mono ?_
    rintro e w6 ⟨v6, rfl, hj⟩
    have HJ6 := Aside0.mk hj
    clear hj
    go_wp2_with fail
    go_ret
    refine ⟨_, rfl, ?_⟩
    rw [← HV2.out]
    exact ⟨Kd.R_lower HJ6.out.r HB5.out.size, HB5.out.trans (HJ6.out.below.mono HB5.out.size)⟩
   ·subst h3
    have HG := Aside0.mk (And.intro hg hblk)
    have HB := Aside0.mk HJ.out.below
    clear HJ hg hblk
    go_wp2_with fail
    refine (sort_n g cap out wr HG.out.2 HO.out.1 HO.out.2).mono ?_
    rintro e w5 ⟨rfl, d, hp, hs, hk, hb⟩
    have HV2 := Aside0.mk (show mrgS d = V by rw [HV.out, mrgS_sorted (l := l) (by rw [HE.out]; exact hp) hs])
    have HP := Aside0.mk (show (∀ s ∈ d, vS s = true) ∧ d.length ≤ 1000000 from ⟨fun s h => HO.out.1 s (hp.mem_iff.1 h), by rw [hp.length_eq]; exact HO.out.2⟩)
    have HB5 := Aside0.mk (And.intro hk (HB.out.trans (hb _ HG.out.1)))
    have hlen : out.length = d.length := hp.length_eq.symm
    rw [hlen]
    clear hp hs hk hb HB
    go_wp2_with fail
    refine (join_n (some ⟨g, 0, none⟩) cap d w5 (Kd.R_reads' (blk_R HB5.out.1 (Nat.zero_le g))).2.2 HP.out.2 HP.out.1).mono ?_
    rintro e w6 ⟨v6, rfl, hj⟩
    have HJ6 := Aside0.mk hj
    clear hj
    go_wp2_with fail
    go_ret
    refine ⟨_, rfl, ?_⟩
    rw [← HV2.out]
    exact ⟨Kd.R_lower HJ6.out.r HB5.out.2.size, HB5.out.2.trans (HJ6.out.below.mono HB5.out.2.size)⟩
end Go.Proofs.Ytekommcfpjonmaa.Xp
namespace Go.Proofs.Ytekommcfpjonmaa.E
open Go.RowKit Go Go.Proofs.YtekommcfpjonmaaW.PrintWords Go.Proofs.YtekommcfpjonmaaW.PrintLast Go.Proofs.YtekommcfpjonmaaW.PrintMore Go.Proofs.Ytekommcfpjonmaa.Mn Go.Proofs.Ytekommcfpjonmaa.Nd Go.Proofs.Ytekommcfpjonmaa.Z Go.Proofs.Ytekommcfpjonmaa.Ea Go.Proofs.Ytekommcfpjonmaa.Ra Go.Proofs.Ytekommcfpjonmaa.Rb Go.Proofs.Ytekommcfpjonmaa.Rf Go.Proofs.Ytekommcfpjonmaa.Rd Go.Proofs.Ytekommcfpjonmaa.Sg Go.Proofs.Ytekommcfpjonmaa.Sx
set_option linter.unusedVariables false
set_option linter.unusedSimpArgs false
def tmT (q : Rat) : Tm × Int := if vT (lT q) = true then (lT q, 0) else (⟨0, 0⟩, 2)
def addT (a b : Tm) : Tm × Int := if vT a = true ∧ vT b = true then tmT (qT a + qT b) else (⟨0, 0⟩, 4)
def tT (r : Tm × Int) : Value := .tuple #[.agg #[.int .i64 r.1.f0, .int .i64 r.1.f1], .int .i64 r.2]
theorem qq_plus {a b c d : Int} (hb : b ≠ 0) (hd : d ≠ 0) : qq (a * d + c * b) (b * d) = qq a b + qq c d := (Rat.divInt_add_divInt a c hb hd).symm
theorem vLow_q {n d : Int} (hd : d ≠ 0) : vLow n d = tT (tmT (qq n d)) := by
 obtain ⟨h1, h2⟩ := rat_low (a := n) (b := d) hd
 unfold vLow tT tmT vT lT
 rw [h1, h2]
 split <;> rfl
theorem addT_n {a b : Tm} (ha : vT a = true) (hb : vT b = true) (w : World) : Calls Try.prog 13 #[.agg #[.int .i64 a.f0, .int .i64 a.f1], .agg #[.int .i64 b.f0, .int .i64 b.f1]] w (ValP w (tT (tmT (qT a + qT b)))) := by
 have h1 := vT_is ha
 have h2 := vT_is hb
 have h := xadd_n a.f0 a.f1 b.f0 b.f1 w ha hb
 rw [vLow_q (Int.ne_of_gt (Int.mul_pos (show 0 < a.f1 by omega) (show 0 < b.f1 by omega))), qq_plus (by omega) (by omega)] at h
 exact h
theorem AddT_n (a b : Tm) (w : World) : Calls Try.prog 7 #[.agg #[.int .i64 a.f0, .int .i64 a.f1], .agg #[.int .i64 b.f0, .int .i64 b.f1]] w (ValP w (tT (addT a b))) := by
 have h := Add_n a.f0 a.f1 b.f0 b.f1 w
 have e : vAdd a.f0 a.f1 b.f0 b.f1 = tT (addT a b) := by
  unfold vAdd addT
  by_cases hv : vT a = true ∧ vT b = true
  ·rw [if_pos hv]
   have h1 := vT_is hv.1
   have h2 := vT_is hv.2
   have h3 : (valid a.f0 a.f1 && valid b.f0 b.f1) = true := by
    rw [Bool.and_eq_true]
    exact hv
   rw [h3, if_pos rfl, vLow_q (Int.ne_of_gt (Int.mul_pos (show 0 < a.f1 by omega) (show 0 < b.f1 by omega))), qq_plus (by omega) (by omega)]
   rfl
  ·rw [if_neg hv, if_neg (fun h => hv (by rw [Bool.and_eq_true] at h; exact h))]
   rfl
 rw [e] at h
 exact h
def exact_Add.f (n1 d1 n2 d2 : Int) : Option (Int × Int × Int) := some ((addT ⟨n1, d1⟩ ⟨n2, d2⟩).1.f0, (addT ⟨n1, d1⟩ ⟨n2, d2⟩).1.f1, (addT ⟨n1, d1⟩ ⟨n2, d2⟩).2)
theorem exact_Add.calls (a0_0 a0_1 a1_0 a1_1 r1 r2 r3 : Int) (w : World) (h : exact_Add.f a0_0 a0_1 a1_0 a1_1 = some (r1, r2, r3)) :
  Calls Try.prog 7 #[.agg #[.int .i64 a0_0, .int .i64 a0_1], .agg #[.int .i64 a1_0, .int .i64 a1_1]] w fun e w' => e = .returned (.tuple #[.agg #[.int .i64 r1, .int .i64 r2], .int .i64 r3]) ∧ Below w.heap.size w w' := by
 have h1 := Option.some.inj h
 simp only [Prod.mk.injEq] at h1
 obtain ⟨rfl, rfl, rfl⟩ := h1
 exact AddT_n ⟨a0_0, a0_1⟩ ⟨a1_0, a1_1⟩ w
def dioramalaw02_awake.f : Option Bool := some true
theorem dioramalaw02_awake.calls (r : Bool) (w : World) (h : dioramalaw02_awake.f = some r) :
  Calls Try.prog 5 #[] w fun e w' => e = .returned (.bool r) ∧ Below w.heap.size w w' := by
 obtain rfl := Option.some.inj h
 exact Ee.awake_n w
end Go.Proofs.Ytekommcfpjonmaa.E
namespace Go.Proofs.Ytekommcfpjonmaa.E
open Go.RowKit Go Go.Proofs.YtekommcfpjonmaaW.PrintWords Go.Proofs.YtekommcfpjonmaaW.PrintLast Go.Proofs.YtekommcfpjonmaaW.PrintMore Go.Proofs.Ytekommcfpjonmaa.Mn Go.Proofs.Ytekommcfpjonmaa.Nd Go.Proofs.Ytekommcfpjonmaa.Z Go.Proofs.Ytekommcfpjonmaa.Ea Go.Proofs.Ytekommcfpjonmaa.Rf Go.Proofs.Ytekommcfpjonmaa.Sg Go.Proofs.Ytekommcfpjonmaa.Sx Go.Proofs.Ytekommcfpjonmaa.Sy Go.Proofs.Ytekommcfpjonmaa.Xv Go.Proofs.Ytekommcfpjonmaa.Xj Go.Proofs.Ytekommcfpjonmaa.Xn Go.Proofs.Ytekommcfpjonmaa.Xp
set_option linter.unusedVariables false
set_option linter.unusedSimpArgs false
def shfR (t : Tm) : List Sn → List Sn → List Sn × Int
 | out, [] => (clnL out, 0)
 | out, s :: r => if (tmT (qT s.f0 + qT t)).2 = 0 then (if (tmT (qT s.f1 + qT t)).2 = 0 then shfR t (out ++ [⟨(tmT (qT s.f0 + qT t)).1, (tmT (qT s.f1 + qT t)).1⟩]) r else ([], 2)) else ([], 2)
def shfV (l : List Sn) (t : Tm) : List Sn × Int := if allV l = true ∧ vT t = true then shfR t [] l else ([], 4)
theorem tmT_v {q : Rat} (h : (tmT q).2 = 0) : (tmT q).1 = lT q ∧ vT (lT q) = true := by
 unfold tmT at h ⊢
 by_cases hv : vT (lT q) = true
 ·rw [if_pos hv]
  exact ⟨rfl, hv⟩
 ·rw [if_neg hv] at h
  cases h
theorem sum_n {a b : Tm} (ha : vT a = true) (hb : vT b = true) {N D E : Int} (h : tmT (qT a + qT b) = (⟨N, D⟩, E)) (w : World) : Calls Try.prog 13 #[.agg #[.int .i64 a.f0, .int .i64 a.f1], .agg #[.int .i64 b.f0, .int .i64 b.f1]] w (ValP w (.tuple #[.agg #[.int .i64 N, .int .i64 D], .int .i64 E])) := by
 have := addT_n ha hb w
 rw [h] at this
 exact this
structure Jt (w W : World) (t : Tm) (v : Value) (out : List Sn) : Prop where
 r : Kd.R k40 40 W w.heap.size (fun k => k ≠ w.heap.size) v out
 below : Below w.heap.size w W
 box : W.heap[w.heap.size]? = some (.cells #[.int .i64 t.f0, .int .i64 t.f1] 24 (0, 0))
theorem Jt.step {w W W2 : World} {t : Tm} {v : Value} {out : List Sn} (h : Jt w W t v out) (hb : Below W.heap.size W W2) : Jt w W2 t v out :=
 ⟨Kd.R_below h.r hb, h.below.trans (hb.mono h.below.size), blk_below h.box hb⟩
set_option maxHeartbeats 8000000 in
set_option maxRecDepth 100000 in
theorem shift_n (A0 : Option Addr) (c0 : Nat) (l : List Sn) (t : Tm) (w : World) (hr : Kd.C k40 w A0 l.length l) (hl : l.length ≤ 1000000) :
  Calls Try.prog 6 #[.slice A0 l.length c0, .agg #[.int .i64 t.f0, .int .i64 t.f1]] w (fun e w' => ∃ v, e = .returned (.tuple #[v, .int .i64 (shfV l t).2]) ∧ Js w w' v (shfV l t).1) := by
 have hu := Try.underlying40
 have hu2 := Try.underlying24
 have HR := Aside0.mk (And.intro hr hl)
 have hT := Aside0.mk (show (w.alloc (.cells #[.int .i64 t.f0, .int .i64 t.f1] 24 (0, 0))).heap[w.heap.size]? = some (.cells #[.int .i64 t.f0, .int .i64 t.f1] 24 (0, 0)) from blk_new w _)
 have hB := Aside0.mk (show Below w.heap.size w (w.alloc (.cells #[.int .i64 t.f0, .int .i64 t.f1] 24 (0, 0))) from below_alloc (Below.refl _ w) _)
 have HV := Aside0.mk (show shfV l t = if allV l = true ∧ vT t = true then shfR t [] l else ([], 4) from rfl)
 generalize shfV l t = V at *
 clear hr hl
 go_enter Try.func6, Try.ntmps6
 go_upto_region 1 with fail
 generalize World.alloc w _ = W at *
 obtain ⟨t0, t1, _, _⟩ := xc2 hT
 go_wp2_with fail
 refine (validSpans_n A0 c0 l W (Kd.C_below HR.out.1 hB.out) HR.out.2).mono ?_
 rintro e w3 ⟨rfl, hb3⟩
 have hB3 := Aside0.mk (hB.out.trans (hb3.mono hB.out.size))
 have hT3 := Aside0.mk (blk_below hT.out hb3)
 clear hb3 hB hT t0 t1
 obtain ⟨t0, t1, _, _⟩ := xc2 hT3
 obtain ⟨b, hb⟩ : ∃ b : Bool, b = allV l := ⟨_, rfl⟩
 rw [← hb]
 cases b with
 | false =>
  have HV2 := Aside0.mk (show V = ([], 4) by rw [HV.out, ← hb, if_neg (fun h => by cases h.1)])
  clear hb HV
  go_wp2_with fail
  go_ret2
  exact ⟨_, by rw [HV2.out]; rfl, by rw [HV2.out]; exact Kd.R_nil _ _ _ _ _, hB3.out⟩
 | true =>
  have HA := Aside0.mk hb
  clear hb
  go_wp2_with fail
  refine (Ea.Valid_n t.f0 t.f1 w3).mono ?_
  rintro e w4 ⟨rfl, hb4⟩
  have hB4 := Aside0.mk (hB3.out.trans (hb4.mono hB3.out.size))
  have hT4 := Aside0.mk (blk_below hT3.out hb4)
  clear hb4 hB3 hT3 t0 t1
  obtain ⟨b, hb⟩ : ∃ b : Bool, b = Ea.valid t.f0 t.f1 := ⟨_, rfl⟩
  rw [← hb]
  cases b with
  | false =>
   have HV2 := Aside0.mk (show V = ([], 4) by rw [HV.out, if_neg (fun h => by have := h.2; unfold vT at this; rw [← hb] at this; cases this)])
   clear hb HV
   go_wp2_with fail
   go_ret2
   exact ⟨_, by rw [HV2.out]; rfl, by rw [HV2.out]; exact Kd.R_nil _ _ _ _ _, hB4.out⟩
  | true =>
   have HT := Aside0.mk (show vT t = true from hb.symm)
   have HV2 := Aside0.mk (show V = shfR t [] l by rw [HV.out, if_pos ⟨HA.out.symm, HT.out⟩])
   have HAV := Aside0.mk (show ∀ s ∈ l, vS s = true from fun s hs => List.all_eq_true.1 HA.out.symm s hs)
   clear hb HV HA
   go_wp2_with fail
   go_loopg [6, 23] l.length (fun kq v6 v23 w' => ∃ (out : List Sn) (i : Int), v23 = .int .i64 i ∧ Aside0 (0 ≤ i ∧ i + kq = l.length ∧ out.length ≤ i.toNat) ∧ Aside0 (Jt w w' t v6 out ∧ ∀ s ∈ out, vS s = true) ∧ Aside0 (V = shfR t out (l.drop i.toNat)))
   case atStart => exact ⟨[], 0, rfl, ⟨by simp, by simp, by simp⟩, ⟨⟨Kd.R_nil _ _ _ _ _, hB4.out, hT4.out⟩, by simp⟩, ⟨by simpa using HV2.out⟩⟩
   case round =>
    clear hB4 hT4 HV2
    obtain ⟨out, i, rfl, hi, hM, hL⟩ := hrel
    by_cases hlt : i < (l.length : Int)
    ·have p0 := hi.out.1
     have HD := Aside0.mk (any_drop (fun _ => true) l p0 hlt).2
     have HE := Aside0.mk (show l.drop i.toNat = rd_T40 l i :: l.drop (i + 1).toNat by
      have hn : i.toNat < l.length := by omega
      have hi2 : (i + 1).toNat = i.toNat + 1 := by omega
      have hg : rd_T40 l i = l[i.toNat] := by
       unfold rd_T40
       rw [List.getD_eq_getElem?_getD, List.getElem?_eq_getElem hn]
       rfl
      rw [hi2, hg, List.drop_eq_getElem_cons hn])
     obtain ⟨ad, hA, q0, q1, q2, q3⟩ := at_T40 (Kd.C_below HR.out.1 hM.out.1.below) i p0 hlt
     obtain ⟨k1, rfl⟩ : ∃ k, gk = k + 1 := ⟨gk - 1, by have := hi.out.2; omega⟩
     have hwi : wrap64 (i + 1) = i + 1 := by
      have := HR.out.2
      exact w64 (by omega) (by omega)
     have HX := Aside0.mk (vS_is (HAV.out _ HD.out))
     generalize rd_T40 l i = X at *
     replace p0 := eq_true p0
     replace hlt := eq_true hlt
     subst hA
     have HL2 := Aside0.mk (show V = shfR t out (X :: l.drop (i + 1).toNat) by rw [hL.out, HE.out])
     obtain ⟨⟨⟨N0, D0⟩, E0⟩, h0⟩ : ∃ r, tmT (qT X.f0 + qT t) = r := ⟨_, rfl⟩
     obtain ⟨⟨⟨N1, D1⟩, E1⟩, h1⟩ : ∃ r, tmT (qT X.f1 + qT t) = r := ⟨_, rfl⟩
     have H0 := Aside0.mk (And.intro h0 h1)
     clear h0 h1 hL
     go_upto_region 7 with fail
     have hB := Aside0.mk (show Below wr.heap.size wr (wr.alloc (snO X)) from below_alloc (Below.refl _ wr) _)
     have hX := Aside0.mk (show (wr.alloc (snO X)).heap[wr.heap.size]? = some (snO X) from blk_new wr _)
     unfold snO at hB hX
     generalize hW1 : World.alloc wr _ = W1 at hB hX
     have HS := Aside0.mk (And.intro hX.out (hM.out.1.step hB.out))
     have HO := Aside0.mk hM.out.2
     clear hX hB hM hW1 q0 q1 q2 q3
     generalize wr.heap.size = G at *
     obtain ⟨q0, q1, q2, q3⟩ := sn_at (s := X) HS.out.1
     obtain ⟨t0, t1, _, _⟩ := xc2 (Aside0.mk HS.out.2.box)
     go_wp2_with fail
     refine (sum_n HX.out.1 HT.out H0.out.1 W1).mono ?_
     rintro e w5 ⟨rfl, hb5⟩
     have HS5 := Aside0.mk (And.intro (blk_below HS.out.1 hb5) (HS.out.2.step hb5))
     clear hb5 HS q0 q1 q2 q3 t0 t1
     go_upto_region 8 with fail
     have hB := Aside0.mk (show Below w5.heap.size w5 (w5.alloc (.cells #[.int .i64 N0, .int .i64 D0] 24 (0, 0))) from below_alloc (Below.refl _ w5) _)
     have hX := Aside0.mk (blk_new w5 (.cells #[.int .i64 N0, .int .i64 D0] 24 (0, 0)))
     generalize hW1 : World.alloc w5 _ = W6 at hB hX
     have HS6 := Aside0.mk (And.intro (blk_below HS5.out.1 hB.out) (And.intro hX.out (HS5.out.2.step hB.out)))
     clear hX hB hW1 HS5
     generalize w5.heap.size = G9 at *
     obtain ⟨q0, q1, q2, q3⟩ := sn_at (s := X) HS6.out.1
     obtain ⟨t0, t1, _, _⟩ := xc2 (Aside0.mk HS6.out.2.2.box)
     go_wp2_with fail
     refine (sum_n HX.out.2.1 HT.out H0.out.2 W6).mono ?_
     rintro e w7 ⟨rfl, hb7⟩
     have HS7 := Aside0.mk (And.intro (blk_below HS6.out.2.1 hb7) (HS6.out.2.2.step hb7))
     clear hb7 HS6 q0 q1 q2 q3 t0 t1
     go_upto_region 9 with fail
     have hB := Aside0.mk (show Below w7.heap.size w7 (w7.alloc (.cells #[.int .i64 N1, .int .i64 D1] 24 (0, 0))) from below_alloc (Below.refl _ w7) _)
     have hX := Aside0.mk (blk_new w7 (.cells #[.int .i64 N1, .int .i64 D1] 24 (0, 0)))
     generalize hW1 : World.alloc w7 _ = W8 at hB hX
     have HS8 := Aside0.mk (And.intro (blk_below HS7.out.1 hB.out) (And.intro hX.out (HS7.out.2.step hB.out)))
     clear hX hB hW1 HS7
     generalize w7.heap.size = G11 at *
     by_cases h0 : E0 = 0
     ·subst h0
      by_cases h1 : E1 = 0
      ·subst h1
       have HV3 := Aside0.mk (show V = shfR t (out ++ [⟨⟨N0, D0⟩, ⟨N1, D1⟩⟩]) (l.drop (i + 1).toNat) by
        rw [HL2.out, shfR, H0.out.1, H0.out.2, if_pos rfl, if_pos rfl])
       have HVS := Aside0.mk (show vS ⟨⟨N0, D0⟩, ⟨N1, D1⟩⟩ = true by
        have k0 := tmT_v (q := qT X.f0 + qT t) (by rw [H0.out.1])
        have k1 := tmT_v (q := qT X.f1 + qT t) (by rw [H0.out.2])
        rw [H0.out.1] at k0
        rw [H0.out.2] at k1
        have e0 : (⟨N0, D0⟩ : Tm) = lT (qT X.f0 + qT t) := k0.1
        have e1 : (⟨N1, D1⟩ : Tm) = lT (qT X.f1 + qT t) := k1.1
        unfold vS
        simp only [e0, e1, k0.2, k1.2, Bool.true_and, qT_lT, Bool.not_eq_true', decide_eq_false_iff_not]
        have := HX.out.2.2
        grind)
       clear HL2
       obtain ⟨a0, a1, _, _⟩ := xc2 (Aside0.mk HS8.out.1)
       obtain ⟨b0, b1, _, _⟩ := xc2 (Aside0.mk HS8.out.2.1)
       go_wp2_with (first | ((with_reducible refine gate_builtin (b := .append) (xs := #[.tmp 47, .tmp 51]) rfl ?_); at_builtin; refine Kd.R_append k40 (w0 := w) w.heap.size rfl (.tmp 47) (.tmp 51) 22 40 (.agg #[(.int .i64 0), (.int .i64 0), (.int .i64 0), (.int .i64 0)]) 32 rfl Try.underlying22 info40 rfl (by decide) (by omega) u6 out (⟨⟨N0, D0⟩, ⟨N1, D1⟩⟩ : Sn) [.int .i64 N0, .int .i64 D0, .int .i64 N1, .int .i64 D1] (fun k => k ≠ w.heap.size) (fun _ => False) rfl (by first | (go_simp; done) | (go_simp; rfl)) (k40_mkM _ _ _ (⟨⟨N0, D0⟩, ⟨N1, D1⟩⟩ : Sn)) (fun _ hk => hk.elim) (fun k hk he => by have := lt_of_some HS8.out.2.2.box; omega) HS8.out.2.2.r HS8.out.2.2.below HS8.out.2.2.below.size (by have := hi.out; have := HR.out; omega) ?_; intro v9 w9' ho hb hg hat; have HS9 := Aside0.mk (show Jt w w9' t v9 (out ++ [(⟨⟨N0, D0⟩, ⟨N1, D1⟩⟩ : Sn)]) from ⟨ho, hb, blk_grown HS8.out.2.2.box hg (fun he => HS8.out.2.2.r.1 _ he.symm rfl)⟩); clear ho hb hg hat))
       go_roundg k1
       case measure => omega
       case rel => exact ⟨out ++ [⟨⟨N0, D0⟩, ⟨N1, D1⟩⟩], i + 1, by rw [hwi], ⟨by have := hi.out; omega, by have := hi.out; omega, by have := hi.out; simp only [List.length_append, List.length_cons, List.length_nil] at this ⊢; omega⟩, ⟨HS9.out, fun s hs => by
        rcases List.mem_append.1 hs with hs | hs
        ·exact HO.out s hs
        ·rw [List.mem_singleton.1 hs]
         exact HVS.out⟩, HV3⟩
      ·have hb1 : (E1 != 0) = true := bne_iff_ne.mpr h1
       have HV3 := Aside0.mk (show V = ([], 2) by rw [HL2.out, shfR, H0.out.1, H0.out.2, if_pos rfl, if_neg h1])
       clear HL2 h1
       go_wp2_with fail
       go_ret2
       exact ⟨_, by rw [HV3.out]; rfl, by rw [HV3.out]; exact Kd.R_nil _ _ _ _ _, HS8.out.2.2.below⟩
     ·have hb0 : (E0 != 0) = true := bne_iff_ne.mpr h0
      have HV3 := Aside0.mk (show V = ([], 2) by rw [HL2.out, shfR, H0.out.1, if_neg h0])
      clear HL2 h0
      go_wp2_with fail
      go_ret2
      exact ⟨_, by rw [HV3.out]; rfl, by rw [HV3.out]; exact Kd.R_nil _ _ _ _ _, HS8.out.2.2.below⟩
    ·have hlb : decide (i < (l.length : Int)) = false := decide_eq_false hlt
     have HE := Aside0.mk (show V = (clnL out, 0) by
      have hd : l.drop i.toNat = [] := List.drop_of_length_le (by have := hi.out; omega)
      rw [hL.out, hd, shfR])
     have HJ := Aside0.mk hM.out
     have HN := Aside0.mk (show out.length ≤ 1000000 by have := hi.out; have := HR.out; omega)
     replace hlt := eq_false hlt
     clear hL hM hi
     obtain ⟨A1, c1, h3⟩ := Kd.R_slice HJ.out.1.r
     subst h3
     go_wp2_with fail
     refine (clean_n A1 c1 out wr (Kd.R_reads' HJ.out.1.r).2.2 HN.out HJ.out.2).mono ?_
     rintro e w6 ⟨v6, rfl, hj⟩
     have HJ6 := Aside0.mk hj
     clear hj
     go_wp2_with fail
     go_ret2
     refine ⟨_, by rw [HE.out]; rfl, ?_⟩
     rw [HE.out]
     exact ⟨Kd.R_lower HJ6.out.r HJ.out.1.below.size, HJ.out.1.below.trans (HJ6.out.below.mono HJ.out.1.below.size)⟩
def exact_Shift.f (l : List Sn) (n d : Int) : Option (List Sn × Int) := if l.length ≤ 1000000 then some (shfV l ⟨n, d⟩) else none
theorem exact_Shift.calls (A0 : Option Addr) (c0 : Nat) (l0 : List Sn) (a1_0 a1_1 : Int) (r1 : List Sn) (r2 : Int) (w : World) (hr0 : Kd.C k40 w A0 l0.length l0) (hc0 : l0.length ≤ c0) (h : exact_Shift.f l0 a1_0 a1_1 = some (r1, r2)) :
  Calls Try.prog 6 #[.slice A0 l0.length c0, .agg #[.int .i64 a1_0, .int .i64 a1_1]] w fun e w' => ∃ v, e = .returned (.tuple #[v, .int .i64 r2]) ∧ Kd.R k40 40 w' w.heap.size (fun _ => True) v r1 ∧ Below w.heap.size w w' := by
 unfold exact_Shift.f at h
 by_cases hl : l0.length ≤ 1000000
 ·rw [if_pos hl] at h
  have h1 := Option.some.inj h
  refine (shift_n A0 c0 l0 ⟨a1_0, a1_1⟩ w hr0 hl).mono ?_
  rw [h1]
  rintro e w' ⟨v, rfl, hj⟩
  exact ⟨v, rfl, hj.r, hj.below⟩
 ·rw [if_neg hl] at h
  cases h
end Go.Proofs.Ytekommcfpjonmaa.E
namespace Go.Proofs.Ytekommcfpjonmaa.E
open Go.RowKit Go Go.Proofs.YtekommcfpjonmaaW.PrintWords Go.Proofs.YtekommcfpjonmaaW.PrintLast Go.Proofs.YtekommcfpjonmaaW.PrintMore Go.Proofs.Ytekommcfpjonmaa.Mn Go.Proofs.Ytekommcfpjonmaa.Nd Go.Proofs.Ytekommcfpjonmaa.Z Go.Proofs.Ytekommcfpjonmaa.Ea Go.Proofs.Ytekommcfpjonmaa.Rf Go.Proofs.Ytekommcfpjonmaa.Sg Go.Proofs.Ytekommcfpjonmaa.Sx Go.Proofs.Ytekommcfpjonmaa.Sy Go.Proofs.Ytekommcfpjonmaa.Xv Go.Proofs.Ytekommcfpjonmaa.Xj
set_option linter.unusedVariables false
set_option linter.unusedSimpArgs false
def hasB (t : Tm) (x : Sn) : Bool := !decide (qT t < qT x.f0) && decide (qT t < qT x.f1)
def hasV (l : List Sn) (t : Tm) : Bool × Int := if allV l = true ∧ vT t = true then (l.any (hasB t), 0) else (false, 4)
def exact_Has.f (l : List Sn) (n d : Int) : Option (Bool × Int) := if l.length ≤ 1000000 then some (hasV l ⟨n, d⟩) else none
set_option maxHeartbeats 4000000 in
set_option maxRecDepth 100000 in
theorem in_n (s : Sn) (t : Tm) (g : Nat) (w : World) (hs : vS s = true) (ht : vT t = true) (hg : w.heap[g]? = some (.cells #[.int .i64 t.f0, .int .i64 t.f1] 24 (0, 0))) :
  Calls Try.prog 17 #[.agg #[.int .i64 s.f0.f0, .int .i64 s.f0.f1, .int .i64 s.f1.f0, .int .i64 s.f1.f1], .pointer (some ⟨g, 0, none⟩)] w (ValP w (.bool (hasB t s))) := by
 have hu := Try.underlying40
 have hu2 := Try.underlying24
 have hB := Aside0.mk (Bs.start w s)
 have HS := Aside0.mk (And.intro (vS_is hs) ht)
 have hT := Aside0.mk (show (w.alloc (.cells #[.int .i64 s.f0.f0, .int .i64 s.f0.f1, .int .i64 s.f1.f0, .int .i64 s.f1.f1] 40 (0, 0))).heap[g]? = some (.cells #[.int .i64 t.f0, .int .i64 t.f1] 24 (0, 0)) from blk_alloc hg _)
 have HV := Aside0.mk (show hasB t s = (!decide (qT t < qT s.f0) && decide (qT t < qT s.f1)) from rfl)
 generalize hasB t s = V at *
 clear hs ht hg
 go_enter Try.func17, Try.ntmps17
 go_upto_region 1 with fail
 generalize World.alloc w _ = W at *
 obtain ⟨q0, q1, q2, q3⟩ := sn_cells hB.out.c
 obtain ⟨t0, t1, _, _⟩ := xc2 hT
 go_wp2_with fail
 refine (cmpT_n HS.out.1.1 HS.out.2 W).mono ?_
 rintro e w3 ⟨rfl, hb3⟩
 have hB3 := Aside0.mk (hB.out.step hb3)
 have hT3 := Aside0.mk (blk_below hT.out hb3)
 clear hb3 hB hT q0 q1 q2 q3 t0 t1
 obtain ⟨q0, q1, q2, q3⟩ := sn_cells hB3.out.c
 obtain ⟨t0, t1, _, _⟩ := xc2 hT3
 by_cases hc : qT t < qT s.f0
 ·rw [cq_gt hc]
  have HV2 := Aside0.mk (show V = false by rw [HV.out, decide_eq_true hc]; rfl)
  clear HV hc
  go_wp2_with fail
  go_ret
  exact ⟨ret_b HV2.out.symm, hB3.out.below⟩
 ·obtain ⟨c, hc0, ec⟩ := cq_le hc
  rw [ec]
  have HV2 := Aside0.mk (show V = decide (qT t < qT s.f1) by rw [HV.out, decide_eq_false hc]; simp)
  have hd : decide (c ≤ 0) = true := decide_eq_true hc0
  clear HV hc ec hc0
  go_wp2_with fail
  refine (cmpT_n HS.out.2 HS.out.1.2.1 w3).mono ?_
  rintro e w4 ⟨rfl, hb4⟩
  have hB4 := Aside0.mk (hB3.out.step hb4)
  clear hb4 hB3 hT3 q0 q1 q2 q3 t0 t1
  by_cases hc : qT t < qT s.f1
  ·rw [cq_lt hc]
   rw [decide_eq_true hc] at HV2
   clear hc
   go_wp2_with fail
   go_ret
   exact ⟨ret_b HV2.out.symm, hB4.out.below⟩
  ·obtain ⟨c2, hc2, ec⟩ := cq_ge hc
   rw [ec]
   rw [decide_eq_false hc] at HV2
   have hd2 : decide (c2 < 0) = false := decide_eq_false (by omega)
   clear hc ec
   go_wp2_with fail
   go_ret
   exact ⟨ret_b HV2.out.symm, hB4.out.below⟩
set_option maxHeartbeats 4000000 in
set_option maxRecDepth 100000 in
theorem has_n (A0 : Option Addr) (c0 : Nat) (l : List Sn) (t : Tm) (w : World) (hr : Kd.C k40 w A0 l.length l) (hl : l.length ≤ 1000000) :
  Calls Try.prog 8 #[.slice A0 l.length c0, .agg #[.int .i64 t.f0, .int .i64 t.f1]] w (ValP w (.tuple #[.bool (hasV l t).1, .int .i64 (hasV l t).2])) := by
 have hu := Try.underlying40
 have hu2 := Try.underlying24
 have HR := Aside0.mk (And.intro hr hl)
 have hT := Aside0.mk (show (w.alloc (.cells #[.int .i64 t.f0, .int .i64 t.f1] 24 (0, 0))).heap[w.heap.size]? = some (.cells #[.int .i64 t.f0, .int .i64 t.f1] 24 (0, 0)) from blk_new w _)
 have hB := Aside0.mk (show Below w.heap.size w (w.alloc (.cells #[.int .i64 t.f0, .int .i64 t.f1] 24 (0, 0))) from below_alloc (Below.refl _ w) _)
 have HV := Aside0.mk (show hasV l t = if allV l = true ∧ vT t = true then (l.any (hasB t), 0) else (false, 4) from rfl)
 generalize hasV l t = V at *
 clear hr hl
 go_enter Try.func8, Try.ntmps8
 go_upto_region 1 with fail
 generalize World.alloc w _ = W at *
 obtain ⟨t0, t1, _, _⟩ := xc2 hT
 go_wp2_with fail
 refine (validSpans_n A0 c0 l W (Kd.C_below HR.out.1 hB.out) HR.out.2).mono ?_
 rintro e w3 ⟨rfl, hb3⟩
 have hB3 := Aside0.mk (hB.out.trans (hb3.mono hB.out.size))
 have hT3 := Aside0.mk (blk_below hT.out hb3)
 clear hb3 hB hT t0 t1
 obtain ⟨t0, t1, _, _⟩ := xc2 hT3
 obtain ⟨b, hb⟩ : ∃ b : Bool, b = allV l := ⟨_, rfl⟩
 rw [← hb]
 cases b with
 | false =>
  have HV2 := Aside0.mk (show V = (false, 4) by rw [HV.out, ← hb, if_neg (fun h => by cases h.1)])
  clear hb HV
  go_wp2_with fail
  go_ret2
  exact ⟨by rw [HV2.out]; rfl, hB3.out⟩
 | true =>
  have HA := Aside0.mk hb
  clear hb
  go_wp2_with fail
  refine (Ea.Valid_n t.f0 t.f1 w3).mono ?_
  rintro e w4 ⟨rfl, hb4⟩
  have hB4 := Aside0.mk (hB3.out.trans (hb4.mono hB3.out.size))
  have hT4 := Aside0.mk (blk_below hT3.out hb4)
  clear hb4 hB3 hT3 t0 t1
  obtain ⟨t0, t1, _, _⟩ := xc2 hT4
  obtain ⟨b, hb⟩ : ∃ b : Bool, b = Ea.valid t.f0 t.f1 := ⟨_, rfl⟩
  rw [← hb]
  cases b with
  | false =>
   have HV2 := Aside0.mk (show V = (false, 4) by rw [HV.out, if_neg (fun h => by have := h.2; unfold vT at this; rw [← hb] at this; cases this)])
   clear hb HV
   go_wp2_with fail
   go_ret2
   exact ⟨by rw [HV2.out]; rfl, hB4.out⟩
  | true =>
   have HT := Aside0.mk (show vT t = true from hb.symm)
   have HV2 := Aside0.mk (show V = (l.any (hasB t), 0) by rw [HV.out, if_pos ⟨HA.out.symm, HT.out⟩])
   have HX := Aside0.mk (fun W2 (hW : Below w4.heap.size w4 W2) => has1_n 17 (.pointer (some ⟨w.heap.size, 0, none⟩)) (hasB t) A0 c0 l W2 (Kd.C_below HR.out.1 (hB4.out.trans (hW.mono hB4.out.size))) HR.out.2 (enters_of Try.func17 (by kernel_rfl) rfl)
    (fun x hx W3 hW3 => in_n x t _ W3 (List.all_eq_true.1 HA.out.symm x hx) HT.out (blk_below (blk_below hT4.out hW) hW3)))
   clear hb HV
   go_wp2_with fail
   refine (HX.out _ (Below.refl _ _)).mono ?_
   rintro e w5 ⟨rfl, hb5⟩
   have hB5 := Aside0.mk (hB4.out.trans (hb5.mono hB4.out.size))
   generalize l.any (hasB t) = X at *
   clear hb5 hB4 hT4 t0 t1
   go_wp2_with fail
   go_ret2
   exact ⟨by rw [HV2.out]; rfl, hB5.out⟩
theorem exact_Has.calls (A0 : Option Addr) (c0 : Nat) (l0 : List Sn) (a1_0 a1_1 : Int) (r1 : Bool) (r2 : Int) (w : World) (hr0 : Kd.C k40 w A0 l0.length l0) (hc0 : l0.length ≤ c0) (h : exact_Has.f l0 a1_0 a1_1 = some (r1, r2)) :
  Calls Try.prog 8 #[.slice A0 l0.length c0, .agg #[.int .i64 a1_0, .int .i64 a1_1]] w fun e w' => e = .returned (.tuple #[.bool r1, .int .i64 r2]) ∧ Below w.heap.size w w' := by
 unfold exact_Has.f at h
 by_cases hl : l0.length ≤ 1000000
 ·rw [if_pos hl] at h
  have h1 := Option.some.inj h
  have := has_n A0 c0 l0 ⟨a1_0, a1_1⟩ w hr0 hl
  rw [h1] at this
  exact this
 ·rw [if_neg hl] at h
  cases h
end Go.Proofs.Ytekommcfpjonmaa.E
namespace Go.Proofs.Ytekommcfpjonmaa.Sz
open Go.RowKit Go Go.Proofs.YtekommcfpjonmaaW.PrintWords Go.Proofs.YtekommcfpjonmaaW.PrintLast Go.Proofs.YtekommcfpjonmaaW.PrintMore Go.Proofs.Ytekommcfpjonmaa.Mn Go.Proofs.Ytekommcfpjonmaa.Rf Go.Proofs.Ytekommcfpjonmaa.E Go.Proofs.Ytekommcfpjonmaa.Sg Go.Proofs.Ytekommcfpjonmaa.Sx Go.Proofs.Ytekommcfpjonmaa.Sy
set_option linter.unusedVariables false
set_option linter.unusedSimpArgs false
theorem jn_ends : ∀ (r : List Sq) (a s : Sq), s ∈ jn a r → (∃ x ∈ a :: r, x.1 = s.1) ∧ ∃ x ∈ a :: r, x.2 = s.2
 | [], a, s, h => by
  rw [jn] at h
  obtain rfl := List.mem_singleton.1 h
  exact ⟨⟨s, by simp, rfl⟩, ⟨s, by simp, rfl⟩⟩
 | x :: r, a, s, h => by
  rw [jn] at h
  split at h
  ·rcases List.mem_cons.1 h with rfl | h
   ·exact ⟨⟨s, by simp, rfl⟩, ⟨s, by simp, rfl⟩⟩
   ·obtain ⟨⟨y, hy, e1⟩, ⟨z, hz, e2⟩⟩ := jn_ends r x s h
    exact ⟨⟨y, List.mem_cons_of_mem _ hy, e1⟩, ⟨z, List.mem_cons_of_mem _ hz, e2⟩⟩
  ·obtain ⟨⟨y, hy, e1⟩, ⟨z, hz, e2⟩⟩ := jn_ends r _ s h
   constructor
   ·rcases List.mem_cons.1 hy with rfl | hy
    ·exact ⟨a, by simp, e1⟩
    ·exact ⟨y, by simp [hy], e1⟩
   ·rcases List.mem_cons.1 hz with rfl | hz
    ·unfold mxR at e2
     simp only at e2
     split at e2
     ·exact ⟨x, by simp, e2⟩
     ·exact ⟨a, by simp, e2⟩
    ·exact ⟨z, by simp [hz], e2⟩
theorem cnl_ends {l : List Sq} {s : Sq} (h : s ∈ cnl l) : (∃ x ∈ l, x.1 = s.1) ∧ ∃ x ∈ l, x.2 = s.2 := by
 have key : ∀ m : List Sq, s ∈ mrg m → (∃ x ∈ m, x.1 = s.1) ∧ ∃ x ∈ m, x.2 = s.2 := fun m hm => by
  cases m with
  | nil => cases hm
  | cons a r => exact jn_ends r a s hm
 obtain ⟨⟨x, hx, e1⟩, ⟨y, hy, e2⟩⟩ := key _ h
 exact ⟨⟨x, (List.mem_filter.1 (srt_mem.1 hx)).1, e1⟩, ⟨y, (List.mem_filter.1 (srt_mem.1 hy)).1, e2⟩⟩
theorem cn_lt : ∀ {l : List Sq}, Cn l → ∀ s ∈ l, s.1 < s.2
 | a :: l, h, s, hs => by
  rcases List.mem_cons.1 hs with rfl | hs
  ·exact h.1
  ·exact cn_lt h.2.2 s hs
theorem clnL_v {l : List Sn} (h : ∀ s ∈ l, vS s = true) : ∀ s ∈ clnL l, vS s = true := by
 intro s hs
 obtain ⟨q, hq, rfl⟩ := List.mem_map.1 hs
 obtain ⟨⟨x', hx', e1⟩, ⟨y', hy', e2⟩⟩ := cnl_ends hq
 obtain ⟨x, hx, rfl⟩ := List.mem_map.1 hx'
 obtain ⟨y, hy, rfl⟩ := List.mem_map.1 hy'
 have h1 := vT_low (vS_is (h x hx)).1
 have h2 := vT_low (vS_is (h y hy)).2.1
 have e1' : qT x.f0 = q.1 := e1
 have e2' : qT y.f1 = q.2 := e2
 have hlt := cn_lt (cnl_cn _) q hq
 rw [e1'] at h1
 rw [e2'] at h2
 unfold vS lS
 simp only [Bool.and_eq_true, Bool.not_eq_true', decide_eq_false_iff_not]
 refine ⟨h1, h2, ?_⟩
 rw [qT_lT, qT_lT]
 grind
theorem jn_len : ∀ (r : List Sq) (a : Sq), (jn a r).length ≤ r.length + 1
 | [], a => by simp [jn]
 | x :: r, a => by
  rw [jn]
  split
  ·have := jn_len r x
   simp only [List.length_cons]
   omega
  ·have := jn_len r (a.1, mxR a.2 x.2)
   simp only [List.length_cons]
   omega
theorem ins_len (a : Sq) : ∀ l : List Sq, (ins a l).length = l.length + 1
 | [] => rfl
 | x :: l => by
  rw [ins]
  split
  ·rfl
  ·simp only [List.length_cons, ins_len a l]
theorem srt_len : ∀ l : List Sq, (srt l).length = l.length
 | [] => rfl
 | a :: l => by rw [srt, ins_len, srt_len l, List.length_cons]
theorem clnL_len (l : List Sn) : (clnL l).length ≤ l.length := by
 unfold clnL cnl
 rw [List.length_map]
 have h1 : (full (l.map qS)).length ≤ l.length := by
  have := List.length_filter_le (fun s : Sq => decide (s.1 < s.2)) (l.map qS)
  rw [List.length_map] at this
  exact this
 have h2 := srt_len (full (l.map qS))
 generalize srt (full (l.map qS)) = m at *
 cases m with
 | nil => simp [mrg]
 | cons a r =>
  have := jn_len r a
  simp only [List.length_cons] at h2
  show (jn a r).length ≤ _
  omega
theorem allV_of {l : List Sn} (h : ∀ s ∈ l, vS s = true) : allV l = true := List.all_eq_true.2 h
theorem of_allV {l : List Sn} (h : allV l = true) : ∀ s ∈ l, vS s = true := List.all_eq_true.1 h
theorem map_cln (l : List Sn) : (clnL l).map qS = cnl (l.map qS) := map_lS _
theorem any_in (t : Tm) (l : List Sn) : l.any (hasB t) = true ↔ inS (l.map qS) (qT t) := by
 rw [List.any_eq_true]
 unfold inS hasB
 constructor
 ·rintro ⟨x, hx, h⟩
  simp only [Bool.and_eq_true, Bool.not_eq_true', decide_eq_false_iff_not, decide_eq_true_eq] at h
  exact ⟨qS x, List.mem_map.2 ⟨x, hx, rfl⟩, Rat.not_lt.1 h.1, h.2⟩
 ·rintro ⟨s, hs, h⟩
  obtain ⟨x, hx, rfl⟩ := List.mem_map.1 hs
  refine ⟨x, hx, ?_⟩
  simp only [Bool.and_eq_true, Bool.not_eq_true', decide_eq_false_iff_not, decide_eq_true_eq]
  exact ⟨Rat.not_lt.2 h.1, h.2⟩
theorem cln_any (t : Tm) (l : List Sn) : (clnL l).any (hasB t) = l.any (hasB t) := by
 have h : (clnL l).any (hasB t) = true ↔ l.any (hasB t) = true := by
  rw [any_in, any_in, map_cln]
  exact cnl_in _ _
 rw [Bool.eq_iff_iff]
 exact h
def mvq (d : Rat) (s : Sq) : Sq := (s.1 + d, s.2 + d)
theorem mv_in (d q : Rat) (l : List Sq) : inS (l.map (mvq d)) (q + d) ↔ inS l q := by
 unfold inS mvq
 constructor
 ·rintro ⟨s, hs, h⟩
  obtain ⟨x, hx, rfl⟩ := List.mem_map.1 hs
  exact ⟨x, hx, by grind, by grind⟩
 ·rintro ⟨x, hx, h⟩
  exact ⟨_, List.mem_map.2 ⟨x, hx, rfl⟩, by grind, by grind⟩
theorem shf_ok {t : Tm} : ∀ (l out : List Sn), (∀ s ∈ l, vS s = true) → (∀ s ∈ out, vS s = true) → (shfR t out l).2 = 0 → ∃ m : List Sn, (shfR t out l).1 = clnL m ∧ m.map qS = out.map qS ++ (l.map qS).map (mvq (qT t)) ∧ ∀ s ∈ m, vS s = true
 | [], out, _, ho, _ => ⟨out, rfl, by simp, ho⟩
 | s :: l, out, hl, ho, h => by
  rw [shfR] at h ⊢
  split at h
  ·rename_i h0
   split at h
   ·rename_i h1
    rw [if_pos h0, if_pos h1]
    have k0 := tmT_v h0
    have k1 := tmT_v h1
    have hs := vS_is (hl s (by simp))
    have hv : vS ⟨(tmT (qT s.f0 + qT t)).1, (tmT (qT s.f1 + qT t)).1⟩ = true := by
     unfold vS
     simp only [k0.1, k1.1, k0.2, k1.2, Bool.true_and, qT_lT, Bool.not_eq_true', decide_eq_false_iff_not]
     have := hs.2.2
     grind
    obtain ⟨m, e1, e2, e3⟩ := shf_ok l (out ++ [⟨(tmT (qT s.f0 + qT t)).1, (tmT (qT s.f1 + qT t)).1⟩]) (fun s hs => hl s (by simp [hs])) (fun x hx => by
     rcases List.mem_append.1 hx with hx | hx
     ·exact ho x hx
     ·rw [List.mem_singleton.1 hx]
      exact hv) h
    refine ⟨m, e1, ?_, e3⟩
    rw [e2, List.map_append, List.append_assoc]
    congr 1
    simp only [List.map_cons, List.map_nil, List.cons_append, List.nil_append, List.cons.injEq, and_true]
    unfold qS mvq
    rw [k0.1, k1.1]
    simp only [qT_lT]
   ·cases h
  ·cases h
theorem shf_len {t : Tm} {l : List Sn} (hl : ∀ s ∈ l, vS s = true) (h : (shfR t [] l).2 = 0) : (shfR t [] l).1.length ≤ l.length := by
 obtain ⟨m, k1, k2, _⟩ := shf_ok l [] hl (by simp) h
 have := congrArg List.length k2
 simp only [List.length_map, List.map_nil, List.nil_append] at this
 have h2 := clnL_len m
 rw [k1]
 omega
end Go.Proofs.Ytekommcfpjonmaa.Sz
namespace Go.Proofs.Ytekommcfpjonmaa.E
open Go.Proofs.Ytekommcfpjonmaa.Z Go.RowKit Go.Proofs.YtekommcfpjonmaaW.PrintWords Go.Proofs.YtekommcfpjonmaaW.PrintLast Go.Proofs.YtekommcfpjonmaaW.PrintMore
attribute [local go_sem] max2_int min2_int max_two min_two max_three min_three max_four min_four
set_option linter.unusedVariables false
set_option linter.unusedSimpArgs false
def dioramalaw02_ExactMoves.j0 : Nat → List (S40) → Bool → Bool → Int → Int → Option (Bool)
  | 0, _, _, _, _, _ => none
  | k + 1, x7, x11, x45, x119000, x119001 => if x45 = true then ((dioramalaw02_awake.f).bind fun t121 => (some t121)) else ((exact_Has.f x7 x119000 x119001).bind fun bt122 => (if bt122.2 = 0 then (if (x11 == bt122.1) = true then ((dioramalaw02_awake.f).bind fun t124 => (some t124)) else (some false)) else (some false)))
def dioramalaw02_ExactMoves.f (k : Nat) (l0 : List (S40)) (a1_0 : Int) (a1_1 : Int) (a2_0 : Int) (a2_1 : Int) : Option (Bool) := (dioramalaw02_many.f l0).bind fun t109 => (if t109 = true then ((dioramalaw02_awake.f).bind fun t110 => (some t110)) else ((exact_Shift.f l0 a1_0 a1_1).bind fun bt111 => ((exact_Add.f a2_0 a2_1 a1_0 a1_1).bind fun bt115 => ((exact_Has.f l0 a2_0 a2_1).bind fun bt119 => (if bt111.2 = 0 then (if bt115.2.2 = 0 then (dioramalaw02_ExactMoves.j0 k bt111.1 bt119.1 (bt119.2 != 0) bt115.1 bt115.2.1) else (dioramalaw02_ExactMoves.j0 k bt111.1 bt119.1 true bt115.1 bt115.2.1)) else (dioramalaw02_ExactMoves.j0 k bt111.1 bt119.1 true bt115.1 bt115.2.1))))))
set_option maxHeartbeats 8000000 in
set_option maxRecDepth 100000 in
theorem dioramalaw02_ExactMoves.calls (k : Nat) (A0 : Option Addr) (c0 : Nat) (l0 : List (S40)) (a1_0 : Int) (a1_1 : Int) (a2_0 : Int) (a2_1 : Int) (r : Bool) (w : World) (hr0 : Kd.C k40 w A0 l0.length l0) (hc0 : l0.length ≤ c0) (h : dioramalaw02_ExactMoves.f k l0 a1_0 a1_1 a2_0 a2_1 = some r) :
  Calls Try.prog 3 #[.slice A0 l0.length c0, .agg #[.int .i64 a1_0, .int .i64 a1_1], .agg #[.int .i64 a2_0, .int .i64 a2_1]] w fun e w' => e = .returned (.bool r) ∧ Below w.heap.size w w' := by
 have hu24 := Try.underlying24; have HR0 := Aside0.mk hr0; have HC0 := Aside0.mk hc0; clear hr0 hc0; have HB := Aside0.mk (Below.refl w.heap.size w); have H : ((dioramalaw02_many.f l0).bind fun t109 => (if t109 = true then ((dioramalaw02_awake.f).bind fun t110 => (some t110)) else ((exact_Shift.f l0 a1_0 a1_1).bind fun bt111 => ((exact_Add.f a2_0 a2_1 a1_0 a1_1).bind fun bt115 => ((exact_Has.f l0 a2_0 a2_1).bind fun bt119 => (if bt111.2 = 0 then (if bt115.2.2 = 0 then (dioramalaw02_ExactMoves.j0 k bt111.1 bt119.1 (bt119.2 != 0) bt115.1 bt115.2.1) else (dioramalaw02_ExactMoves.j0 k bt111.1 bt119.1 true bt115.1 bt115.2.1)) else (dioramalaw02_ExactMoves.j0 k bt111.1 bt119.1 true bt115.1 bt115.2.1))))))) = some r := h
 clear h; obtain ⟨t109, A4, H⟩ := ob H
 by_cases c5 : t109 = true
 ·subst c5; rw [if_pos rfl] at H; obtain ⟨t110, A6, H⟩ := ob H; obtain rfl := Option.some.inj H
  go_enter Try.func3, Try.ntmps3
  go_wp2_with (first | ((with_reducible refine gate_dst (N := 4) rfl ?_); refine zB 4 24 #[.int .i64 a1_0, .int .i64 a1_1] ?_; intro gb107 hg w7 hbox hb; have BK107 := Aside0.mk hbox; have GW107 := gz hg; have GE107 := gz hg; replace HB := bp hb; clear hb hbox hg) | ((with_reducible refine gate_dst (N := 5) rfl ?_); refine zB 5 24 #[.int .i64 a2_0, .int .i64 a2_1] ?_; intro gb108 hg w8 hbox hb; have BK108 := Aside0.mk hbox; have GW108 := gz hg; have GE108 := gz hg; replace HB := bp hb; have NB107_108 := Aside0.mk ((by rw [hg]; exact Nat.ne_of_lt (bl BK107) : gb107 ≠ gb108)); have NB108_107 := Aside0.mk ((by rw [hg]; exact Nat.ne_of_gt (bl BK107) : gb108 ≠ gb107)); replace BK107 := kb BK107 hb; clear hb hbox hg) | ((with_reducible refine gate_callee (f := 4) rfl ?_); refine zC 16 Try.func4 #[.slice A0 l0.length c0] ?_; (with_reducible refine (dioramalaw02_many.calls _ _ l0 true _ ?side1 ?side2 A4.out).mono ?_); (case side1 => exact cz HR0); (case side2 => exact HC0.out); rintro e w' ⟨rfl, ⟨nd, rfl⟩⟩; refine ⟨_, rfl, ?_⟩) | ((with_reducible refine gate_callee (f := 5) rfl ?_); refine zC 17 Try.func5 #[] ?_; (with_reducible refine (dioramalaw02_awake.calls  t110 _ A6.out).mono ?_); rintro e w9 ⟨rfl, hb⟩; refine ⟨_, rfl, ?_⟩; replace BK107 := kb BK107 hb; replace BK108 := kb BK108 hb; replace HB := bp hb; clear hb))
  go_ret
  exact ⟨ez, bz⟩
 ·obtain rfl := bf c5; rw [if_neg (show ¬ (false = true) by decide)] at H; obtain ⟨⟨t111, t114⟩, A10, H⟩ := ob H
  (try dsimp only at H)
  obtain ⟨⟨t115, t116, t117⟩, A11, H⟩ := ob H
  (try dsimp only at H)
  obtain ⟨⟨t119, t120⟩, A12, H⟩ := ob H
  (try dsimp only at H)
  have HC13 := Aside0.mk H; clear H
  go_enter Try.func3, Try.ntmps3
  go_upto_region 6 with (first | ((with_reducible refine gate_dst (N := 4) rfl ?_); refine zB 4 24 #[.int .i64 a1_0, .int .i64 a1_1] ?_; intro gb107 hg w14 hbox hb; have BK107 := Aside0.mk hbox; have GW107 := gz hg; have GE107 := gz hg; replace HB := bp hb; clear hb hbox hg) | ((with_reducible refine gate_dst (N := 5) rfl ?_); refine zB 5 24 #[.int .i64 a2_0, .int .i64 a2_1] ?_; intro gb108 hg w15 hbox hb; have BK108 := Aside0.mk hbox; have GW108 := gz hg; have GE108 := gz hg; replace HB := bp hb; have NB107_108 := Aside0.mk ((by rw [hg]; exact Nat.ne_of_lt (bl BK107) : gb107 ≠ gb108)); have NB108_107 := Aside0.mk ((by rw [hg]; exact Nat.ne_of_gt (bl BK107) : gb108 ≠ gb107)); replace BK107 := kb BK107 hb; clear hb hbox hg) | ((with_reducible refine gate_callee (f := 4) rfl ?_); refine zC 16 Try.func4 #[.slice A0 l0.length c0] ?_; (with_reducible refine (dioramalaw02_many.calls _ _ l0 false _ ?side1 ?side2 A4.out).mono ?_); (case side1 => exact cz HR0); (case side2 => exact HC0.out); rintro e w' ⟨rfl, ⟨nd, rfl⟩⟩; refine ⟨_, rfl, ?_⟩; (try (rw [drewN_self w15]; generalize hq_ : World.drewN w15 _ = w15; have n0_ : Aside0 (w15.heap[gb107]? = some (.cells #[.int .i64 a1_0, .int .i64 a1_1] 24 (0, 0))) := ⟨by rw [← hq_]; exact kz⟩; have n1_ : Aside0 (w15.heap[gb108]? = some (.cells #[.int .i64 a2_0, .int .i64 a2_1] 24 (0, 0))) := ⟨by rw [← hq_]; exact kz⟩; have n2_ : Aside0 (Below w.heap.size w w15) := ⟨by rw [← hq_]; exact bz⟩; clear BK107 BK108 HB hq_; have BK107 := n0_; have BK108 := n1_; have HB := n2_; clear n0_ n1_ n2_)); have hnb16 := NB107_108.out; have hnc16 := NB108_107.out; obtain ⟨hcz17_0, hcz17_1, hfz17_0, hfz17_1⟩ := xc2 BK107) | ((with_reducible refine gate_callee (f := 6) rfl ?_); refine zC 21 Try.func6 #[.slice A0 l0.length c0, .agg #[.int .i64 a1_0, .int .i64 a1_1]] ?_; (with_reducible refine (exact_Shift.calls _ _ l0 a1_0 a1_1 t111 t114 _ ?side1 ?side2 A10.out).mono ?_); (case side1 => exact cz HR0); (case side2 => exact HC0.out); rintro e w18 ⟨v112, rfl, ho0, hb⟩; refine ⟨_, rfl, ?_⟩; have HO113 := Aside0.mk (Kd.R_lower ho0 sz); replace BK107 := kb BK107 hb; replace BK108 := kb BK108 hb; replace HB := bp hb; clear hb ho0; obtain ⟨hcz19_0, hcz19_1, hfz19_0, hfz19_1⟩ := xc2 BK108; obtain ⟨hcz20_0, hcz20_1, hfz20_0, hfz20_1⟩ := xc2 BK107) | ((with_reducible refine gate_callee (f := 7) rfl ?_); refine zC 27 Try.func7 #[.agg #[.int .i64 a2_0, .int .i64 a2_1], .agg #[.int .i64 a1_0, .int .i64 a1_1]] ?_; (with_reducible refine (exact_Add.calls a2_0 a2_1 a1_0 a1_1 t115 t116 t117 _ A11.out).mono ?_); rintro e w21 ⟨rfl, hb⟩; refine ⟨_, rfl, ?_⟩; replace HO113 := Aside0.mk (Kd.R_below (rz HO113) hb); replace BK107 := kb BK107 hb; replace BK108 := kb BK108 hb; replace HB := bp hb; clear hb) | ((with_reducible refine gate_dst (N := 9) rfl ?_); refine zB 9 24 #[.int .i64 0, .int .i64 0] ?_; intro gb118 hg w22 hbox hb; replace HO113 := Aside0.mk (Kd.R_below (rz HO113) hb); have BK118 := Aside0.mk hbox; have GW118 := gz hg; have GE118 := gz hg; replace HB := bp hb; have NB107_118 := Aside0.mk ((by rw [hg]; exact Nat.ne_of_lt (bl BK107) : gb107 ≠ gb118)); have NB118_107 := Aside0.mk ((by rw [hg]; exact Nat.ne_of_gt (bl BK107) : gb118 ≠ gb107)); replace BK107 := kb BK107 hb; have NB108_118 := Aside0.mk ((by rw [hg]; exact Nat.ne_of_lt (bl BK108) : gb108 ≠ gb118)); have NB118_108 := Aside0.mk ((by rw [hg]; exact Nat.ne_of_gt (bl BK108) : gb118 ≠ gb108)); replace BK108 := kb BK108 hb; clear hb hbox hg; have hnb23 := NB118_107.out; have hnc23 := NB107_118.out; have hnb24 := NB118_108.out; have hnc24 := NB108_118.out; obtain ⟨hcz25_0, hcz25_1, hfz25_0, hfz25_1⟩ := xc2 BK118; obtain ⟨hcz26_0, hcz26_1, hfz26_0, hfz26_1⟩ := xc2 BK108) | ((with_reducible refine gate_callee (f := 8) rfl ?_); refine zC 33 Try.func8 #[.slice A0 l0.length c0, .agg #[.int .i64 a2_0, .int .i64 a2_1]] ?_; (with_reducible refine (exact_Has.calls _ _ l0 a2_0 a2_1 t119 t120 _ ?side1 ?side2 A12.out).mono ?_); (case side1 => exact Kd.C_below HR0.out bz); (case side2 => exact HC0.out); rintro e w27 ⟨rfl, hb⟩; refine ⟨_, rfl, ?_⟩; replace HO113 := Aside0.mk (Kd.R_below (by (with_reducible repeat (first | apply Kd.R_alloc | apply Kd.R_drewN | apply Kd.R_drew)); exact (Kd.R_mono (Kd.R_far (p := ⟨gb118, 1, none⟩) (Kd.R_far (p := ⟨gb118, 0, none⟩) (Kd.R_types HO113.out BK118.out (by decide)) (fun _ hk => hk.2) (.int .i64 t115)) (fun _ hk => hk.2) (.int .i64 t116)) (fun _ h_ => h_.1))) hb); replace BK107 := Aside0.mk (blk_below (g := gb107) (o := .cells #[.int .i64 a1_0, .int .i64 a1_1] 24 (0, 0)) (by (with_reducible repeat (first | refine blk_drewN ?_ _ | refine blk_drew ?_ | refine blk_alloc ?_ _)); refine blk_far ?_ NB107_118.out _; (with_reducible repeat (first | refine blk_drewN ?_ _ | refine blk_drew ?_ | refine blk_alloc ?_ _)); refine blk_far ?_ NB107_118.out _; (with_reducible repeat (first | refine blk_drewN ?_ _ | refine blk_drew ?_ | refine blk_alloc ?_ _)); exact BK107.out) hb); replace BK108 := Aside0.mk (blk_below (g := gb108) (o := .cells #[.int .i64 a2_0, .int .i64 a2_1] 24 (0, 0)) (by (with_reducible repeat (first | refine blk_drewN ?_ _ | refine blk_drew ?_ | refine blk_alloc ?_ _)); refine blk_far ?_ NB108_118.out _; (with_reducible repeat (first | refine blk_drewN ?_ _ | refine blk_drew ?_ | refine blk_alloc ?_ _)); refine blk_far ?_ NB108_118.out _; (with_reducible repeat (first | refine blk_drewN ?_ _ | refine blk_drew ?_ | refine blk_alloc ?_ _)); exact BK108.out) hb); replace BK118 := Aside0.mk (blk_below (g := gb118) (o := .cells #[.int .i64 t115, .int .i64 t116] 24 (0, 0)) (by (with_reducible repeat (first | refine blk_drewN ?_ _ | refine blk_drew ?_ | refine blk_alloc ?_ _)); refine blk_put (cs := #[.int .i64 t115, .int .i64 0]) ?_ 1 _ rfl; (with_reducible repeat (first | refine blk_drewN ?_ _ | refine blk_drew ?_ | refine blk_alloc ?_ _)); refine blk_put (cs := #[.int .i64 0, .int .i64 0]) ?_ 0 _ rfl; (with_reducible repeat (first | refine blk_drewN ?_ _ | refine blk_drew ?_ | refine blk_alloc ?_ _)); exact BK118.out) hb); replace HB := bp hb; clear hb))
  (try simp only [Act.put, List.setIfInBounds_toArray, List.set_cons_zero, List.set_cons_succ])
  go_cut [45] (fun v45 wc => ∃ (kq : Nat) (x45_12 : Bool), v45 = .bool x45_12 ∧ Aside0 (dioramalaw02_ExactMoves.j0 kq t111 t119 x45_12 t115 t116 = some r) ∧ Aside0 (kq ≤ k) ∧ Aside0 (Kd.R k40 40 wc w.heap.size (fun _ => True) v112 t111) ∧ Aside0 (wc.heap[gb107]? = some (.cells #[.int .i64 a1_0, .int .i64 a1_1] 24 (0, 0))) ∧ Aside0 (wc.heap[gb108]? = some (.cells #[.int .i64 a2_0, .int .i64 a2_1] 24 (0, 0))) ∧ Aside0 (wc.heap[gb118]? = some (.cells #[.int .i64 t115, .int .i64 t116] 24 (0, 0))) ∧ Aside0 (Below w.heap.size w wc))
  case first =>
   have H := HC13.out; clear HC13
   by_cases c28 : t114 = 0
   ·rw [if_pos c28] at H; have c28b0 : (t114 == 0) = true := beq_iff_eq.mpr c28; have c28b1 : (t114 != 0) = false := bne_eq_false_iff_eq.mpr c28; clear c28
    (first | rw [c28b0] | (simp only [i64_w, i32_w]; rw [c28b0]) | skip)
    by_cases c29 : t117 = 0
    ·rw [if_pos c29] at H; have c29b0 : (t117 == 0) = true := beq_iff_eq.mpr c29; have c29b1 : (t117 != 0) = false := bne_eq_false_iff_eq.mpr c29; clear c29; have H' := Aside0.mk H; clear H
     go_wp2
     go_meet
     case rel => exact ⟨_, ((t120 != 0)), jz, H', ⟨by first | omega | exact Nat.le_refl _⟩, ⟨rz HO113⟩, ⟨kz⟩, ⟨kz⟩, ⟨kz⟩, ⟨bz⟩⟩
    ·rw [if_neg c29] at H; have c29b0 : (t117 == 0) = false := beq_eq_false_iff_ne.mpr c29; have c29b1 : (t117 != 0) = true := bne_iff_ne.mpr c29; have H' := Aside0.mk H; clear H
     go_wp2
     go_meet
     case rel => exact ⟨_, (true), jz, H', ⟨by first | omega | exact Nat.le_refl _⟩, ⟨rz HO113⟩, ⟨kz⟩, ⟨kz⟩, ⟨kz⟩, ⟨bz⟩⟩
   ·rw [if_neg c28] at H; have c28b0 : (t114 == 0) = false := beq_eq_false_iff_ne.mpr c28; have c28b1 : (t114 != 0) = true := bne_iff_ne.mpr c28
    (first | rw [c28b0] | (simp only [i64_w, i32_w]; rw [c28b0]) | skip)
    have H' := Aside0.mk H; clear H
    go_wp2
    go_meet
    case rel => exact ⟨_, (true), jz, H', ⟨by first | omega | exact Nat.le_refl _⟩, ⟨rz HO113⟩, ⟨kz⟩, ⟨kz⟩, ⟨kz⟩, ⟨bz⟩⟩
  case rest =>
   clear HC13
   try clear c1
   try clear c2
   try clear p2
   try clear c3
   try clear c4
   try clear c5
   try clear c6
   try clear c7
   try clear c8
   try clear c16
   try clear c23
   try clear c24
   try clear c28
   try clear c28b0
   try clear c28b1
   try clear c29
   try clear c29b0
   try clear c29b1
   try clear hcz17_0
   try clear hcz17_1
   try clear hcz19_0
   try clear hcz19_1
   try clear hcz20_0
   try clear hcz20_1
   try clear hcz25_0
   try clear hcz25_1
   try clear hcz26_0
   try clear hcz26_1
   try clear hfz17_0
   try clear hfz17_1
   try clear hfz19_0
   try clear hfz19_1
   try clear hfz20_0
   try clear hfz20_1
   try clear hfz25_0
   try clear hfz25_1
   try clear hfz26_0
   try clear hfz26_1
   obtain ⟨kq, x45_12, rfl, HA, HJ12, HO_7, BK107, BK108, BK118, HB⟩ := hcut
   cases kq with
   | zero => exact absurd HA.out (by simp [dioramalaw02_ExactMoves.j0])
   | succ kj12 =>
    have H := HA.out; clear HA; simp only [dioramalaw02_ExactMoves.j0] at H
    by_cases c30 : x45_12 = true
    ·subst c30; rw [if_pos rfl] at H; obtain ⟨t121, A31, H⟩ := ob H; obtain rfl := Option.some.inj H
     go_wp2_with (first | ((with_reducible refine gate_callee (f := 5) rfl ?_); refine zC 46 Try.func5 #[] ?_; (with_reducible refine (dioramalaw02_awake.calls  t121 _ A31.out).mono ?_); rintro e w32 ⟨rfl, hb⟩; refine ⟨_, rfl, ?_⟩; replace HO_7 := Aside0.mk (Kd.R_below (rz HO_7) hb); replace BK107 := kb BK107 hb; replace BK108 := kb BK108 hb; replace BK118 := kb BK118 hb; replace HB := bp hb; clear hb))
     go_ret
     exact ⟨ez, bz⟩
    ·obtain rfl := bf c30; rw [if_neg (show ¬ (false = true) by decide)] at H; obtain ⟨⟨t122, t123⟩, A33, H⟩ := ob H
     (try dsimp only at H)
     by_cases c34 : t123 = 0
     ·rw [if_pos c34] at H; have c34b0 : (t123 == 0) = true := beq_iff_eq.mpr c34; have c34b1 : (t123 != 0) = false := bne_eq_false_iff_eq.mpr c34; clear c34
      by_cases c35 : (t119 == t122) = true
      ·rw [if_pos c35] at H; have c35b0 : (t119 == t122) = true := c35
       (try (have c35b1 : decide (t119 = t122) = true := by simpa using c35))
       (try (have c35b2 : (t119 == t122) = true := by simpa using c35))
       clear c35; obtain ⟨t124, A36, H⟩ := ob H; obtain rfl := Option.some.inj H; have hnb37 := NB118_107.out; have hnc37 := NB107_118.out; have hnb38 := NB118_108.out; have hnc38 := NB108_118.out; obtain ⟨hcz39_0, hcz39_1, hfz39_0, hfz39_1⟩ := xc2 BK118; obtain ⟨Ao40, co40, eo40⟩ := Kd.R_slice HO_7.out; subst eo40
       go_wp2_with (first | ((with_reducible refine gate_callee (f := 8) rfl ?_); refine zC 50 Try.func8 #[.slice Ao40 t111.length co40, .agg #[.int .i64 t115, .int .i64 t116]] ?_; (with_reducible refine (exact_Has.calls _ _ t111 t115 t116 t122 t123 _ ?side1 ?side2 A33.out).mono ?_); (case side1 => exact cr HO_7); (case side2 => exact (Kd.R_reads' HO_7.out).2.1); rintro e w41 ⟨rfl, hb⟩; refine ⟨_, rfl, ?_⟩; replace HO_7 := Aside0.mk (Kd.R_below (rz HO_7) hb); replace BK107 := kb BK107 hb; replace BK108 := kb BK108 hb; replace BK118 := kb BK118 hb; replace HB := bp hb; clear hb) | (go_at_call 5; (with_reducible refine (dioramalaw02_awake.calls  t124 _ A36.out).mono ?_); rintro e w42 ⟨rfl, hb⟩; replace HO_7 := Aside0.mk (Kd.R_below (rz HO_7) hb); replace BK107 := kb BK107 hb; replace BK108 := kb BK108 hb; replace BK118 := kb BK118 hb; replace HB := bp hb; clear hb))
       go_ret
       exact ⟨ez, bz⟩
      ·rw [if_neg c35] at H; have c35b0 : (t119 == t122) = false := by simpa using c35
       (try (have c35b1 : decide (t119 = t122) = false := by simpa using c35))
       (try (have c35b2 : (t119 == t122) = false := by simpa using c35))
       (try (have c35b3 : ¬ (t119 = t122) := by simpa using c35))
       clear c35; obtain rfl := Option.some.inj H; have hnb43 := NB118_107.out; have hnc43 := NB107_118.out; have hnb44 := NB118_108.out; have hnc44 := NB108_118.out; obtain ⟨hcz45_0, hcz45_1, hfz45_0, hfz45_1⟩ := xc2 BK118; obtain ⟨Ao46, co46, eo46⟩ := Kd.R_slice HO_7.out; subst eo46
       go_wp2_with (first | ((with_reducible refine gate_callee (f := 8) rfl ?_); refine zC 50 Try.func8 #[.slice Ao46 t111.length co46, .agg #[.int .i64 t115, .int .i64 t116]] ?_; (with_reducible refine (exact_Has.calls _ _ t111 t115 t116 t122 t123 _ ?side1 ?side2 A33.out).mono ?_); (case side1 => exact cr HO_7); (case side2 => exact (Kd.R_reads' HO_7.out).2.1); rintro e w47 ⟨rfl, hb⟩; refine ⟨_, rfl, ?_⟩; replace HO_7 := Aside0.mk (Kd.R_below (rz HO_7) hb); replace BK107 := kb BK107 hb; replace BK108 := kb BK108 hb; replace BK118 := kb BK118 hb; replace HB := bp hb; clear hb))
       go_ret
       exact ⟨ez, bz⟩
     ·rw [if_neg c34] at H; have c34b0 : (t123 == 0) = false := beq_eq_false_iff_ne.mpr c34; have c34b1 : (t123 != 0) = true := bne_iff_ne.mpr c34; obtain rfl := Option.some.inj H; have hnb48 := NB118_107.out; have hnc48 := NB107_118.out; have hnb49 := NB118_108.out; have hnc49 := NB108_118.out; obtain ⟨hcz50_0, hcz50_1, hfz50_0, hfz50_1⟩ := xc2 BK118; obtain ⟨Ao51, co51, eo51⟩ := Kd.R_slice HO_7.out; subst eo51
      go_wp2_with (first | ((with_reducible refine gate_callee (f := 8) rfl ?_); refine zC 50 Try.func8 #[.slice Ao51 t111.length co51, .agg #[.int .i64 t115, .int .i64 t116]] ?_; (with_reducible refine (exact_Has.calls _ _ t111 t115 t116 t122 t123 _ ?side1 ?side2 A33.out).mono ?_); (case side1 => exact cr HO_7); (case side2 => exact (Kd.R_reads' HO_7.out).2.1); rintro e w52 ⟨rfl, hb⟩; refine ⟨_, rfl, ?_⟩; replace HO_7 := Aside0.mk (Kd.R_below (rz HO_7) hb); replace BK107 := kb BK107 hb; replace BK108 := kb BK108 hb; replace BK118 := kb BK118 hb; replace HB := bp hb; clear hb))
      go_ret
      exact ⟨ez, bz⟩
end Go.Proofs.Ytekommcfpjonmaa.E

namespace Go.Proofs.Ytekommcfpjonmaa.Mv
open Go.RowKit Go Go.Proofs.YtekommcfpjonmaaW.PrintWords Go.Proofs.YtekommcfpjonmaaW.PrintLast Go.Proofs.YtekommcfpjonmaaW.PrintMore Go.Proofs.Ytekommcfpjonmaa.Mn Go.Proofs.Ytekommcfpjonmaa.Rf Go.Proofs.Ytekommcfpjonmaa.E Go.Proofs.Ytekommcfpjonmaa.Sg Go.Proofs.Ytekommcfpjonmaa.Sx Go.Proofs.Ytekommcfpjonmaa.Sy Go.Proofs.Ytekommcfpjonmaa.Sz Go.Proofs.Ytekommcfpjonmaa.Os
set_option linter.unusedVariables false
set_option linter.unusedSimpArgs false
theorem moves_has {l : List Sn} {b t : Tm} (h1 : (shfV l b).2 = 0) (h2 : (addT t b).2 = 0) (h3 : (hasV l t).2 = 0) : hasV (shfV l b).1 (addT t b).1 = ((hasV l t).1, 0) := by
 have hv : allV l = true ∧ vT b = true := by
  unfold shfV at h1
  by_cases hc : allV l = true ∧ vT b = true
  ·exact hc
  ·rw [if_neg hc] at h1
   cases h1
 have ht : vT t = true := by
  unfold hasV at h3
  by_cases hc : allV l = true ∧ vT t = true
  ·exact hc.2
  ·rw [if_neg hc] at h3
   cases h3
 have e1 : shfV l b = shfR b [] l := if_pos hv
 have e2 : addT t b = tmT (qT t + qT b) := if_pos ⟨ht, hv.2⟩
 have e3 : hasV l t = (l.any (hasB t), 0) := if_pos ⟨hv.1, ht⟩
 rw [e1] at h1 ⊢
 rw [e2] at h2 ⊢
 rw [e3]
 obtain ⟨m, k1, k2, k3⟩ := shf_ok l [] (of_allV hv.1) (by simp) h1
 obtain ⟨k4, k5⟩ := tmT_v h2
 rw [k1, k4]
 unfold hasV
 rw [if_pos ⟨allV_of (clnL_v k3), k5⟩, cln_any]
 simp only
 congr 1
 rw [Bool.eq_iff_iff, any_in, any_in, k2, qT_lT]
 simp only [List.map_nil, List.nil_append]
 exact mv_in _ _ _
theorem pure_Mv (l : List Sn) (b0 b1 t0 t1 : Int) : dioramalaw02_ExactMoves.f 1 l b0 b1 t0 t1 = some true := by
 have aw : dioramalaw02_awake.f = some true := rfl
 have off : ∀ m x p q, dioramalaw02_ExactMoves.j0 1 m x true p q = some true := fun m x p q => by
  simp only [dioramalaw02_ExactMoves.j0, if_true, aw, Option.bind_some]
 unfold dioramalaw02_ExactMoves.f dioramalaw02_many.f
 simp only [Option.bind_some, aw]
 by_cases hm : (l.length : Int) > 40
 ·rw [if_pos (decide_eq_true hm)]
 ·rw [if_neg (fun h => hm (of_decide_eq_true h))]
  have hl : l.length ≤ 1000000 := by omega
  have f1 : exact_Shift.f l b0 b1 = some (shfV l ⟨b0, b1⟩) := if_pos hl
  have f2 : exact_Add.f t0 t1 b0 b1 = some ((addT ⟨t0, t1⟩ ⟨b0, b1⟩).1.f0, (addT ⟨t0, t1⟩ ⟨b0, b1⟩).1.f1, (addT ⟨t0, t1⟩ ⟨b0, b1⟩).2) := rfl
  have f3 : exact_Has.f l t0 t1 = some (hasV l ⟨t0, t1⟩) := if_pos hl
  rw [f1, f2, f3]
  simp only [Option.bind_some]
  by_cases h1 : (shfV l ⟨b0, b1⟩).2 = 0
  ·rw [if_pos h1]
   by_cases h2 : (addT ⟨t0, t1⟩ ⟨b0, b1⟩).2 = 0
   ·rw [if_pos h2]
    by_cases h3 : (hasV l ⟨t0, t1⟩).2 = 0
    ·rw [h3]
     have hh := moves_has h1 h2 h3
     have hlen : (shfV l ⟨b0, b1⟩).1.length ≤ 1000000 := by
      have hv : allV l = true ∧ vT (⟨b0, b1⟩ : Tm) = true := by
       unfold shfV at h1
       by_cases hc : allV l = true ∧ vT (⟨b0, b1⟩ : Tm) = true
       ·exact hc
       ·rw [if_neg hc] at h1
        cases h1
      have e1 : shfV l ⟨b0, b1⟩ = shfR ⟨b0, b1⟩ [] l := if_pos hv
      rw [e1] at h1 ⊢
      have := shf_len (of_allV hv.1) h1
      omega
     have f4 : exact_Has.f (shfV l ⟨b0, b1⟩).1 (addT ⟨t0, t1⟩ ⟨b0, b1⟩).1.f0 (addT ⟨t0, t1⟩ ⟨b0, b1⟩).1.f1 = some ((hasV l ⟨t0, t1⟩).1, 0) := (if_pos hlen).trans (congrArg some hh)
     rw [show ((0 : Int) != 0) = false from rfl]
     simp only [dioramalaw02_ExactMoves.j0]
     rw [if_neg (by decide), f4]
     simp only [Option.bind_some, if_true, beq_self_eq_true, aw]
    ·rw [show ((hasV l ⟨t0, t1⟩).2 != 0) = true by simpa using h3]
     exact off _ _ _ _
   ·rw [if_neg h2]
    exact off _ _ _ _
  ·rw [if_neg h1]
   exact off _ _ _ _
theorem walk_Mv (a : Option Addr) (len c : Nat) (l : List Sn) (b0 b1 t0 t1 : Int) (w : World) (h : Sps w a len c l) (_ : (Lit.int .i64 b0).wf = true) (_ : (Lit.int .i64 b1).wf = true) (_ : (Lit.int .i64 t0).wf = true) (_ : (Lit.int .i64 t1).wf = true) :
  Calls Try.prog 3 #[.slice a len c, .agg #[.int .i64 b0, .int .i64 b1], .agg #[.int .i64 t0, .int .i64 t1]] w (fun e w' => e = .returned (.bool true) ∧ Below w.heap.size w w') := by
 rw [← h.n]
 exact dioramalaw02_ExactMoves.calls 1 a c l b0 b1 t0 t1 true w h.c h.h (pure_Mv l b0 b1 t0 t1)
end Go.Proofs.Ytekommcfpjonmaa.Mv

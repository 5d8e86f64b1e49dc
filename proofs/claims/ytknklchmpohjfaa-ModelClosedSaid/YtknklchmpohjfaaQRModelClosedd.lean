/-
  What comes in, opened by kinds: whole numbers, bools, strings, rows and structures, one in another. A track that comes in. model.CheckTrack, told as a function of a track. What a sample needs, as a set of numbers: a dependence that leads to smaller numbers alone, followed to its end; what the code's walk and the chapter's loop compute of it. The needs of a sample as a list, and where decoding begins: plain laws. What the samples of a checked track need: plain. A map from numbers to bools that a call has made, told as a set of numbers: made, asked, stored into, kept. The code's walk over what a sample needs: a function value that calls itself, with a map of its own. model.needs: the map's members in ascending order. Whether a movie of tracks alone is small. Whether a movie of one track is small, told as a function of the track. What the calls of package num do to numbers in memory: set, SetInt64, NewInt, Mul. The sum of limbs: the walk of num.addMag. What the calls of package num do to numbers in memory: CmpAbs, Cmp, Sign, Int64, Add, Sub. Limbs moved up by some bits: the walk of num.shift.
-/
import Derived.Test.YtknklchmpohjfaaChecked
import Derived.Test.YtknklchmpohjfaaQRModelClosedWWords
import Derived.Lib.SmallJoins
import Derived.ProofKit
import Derived.Deep.Slices
import Derived.Deep.Fields
import Derived.ChangeSame
import Derived.Test.YtknklchmpohjfaaQRModelClosedc
import Derived.Test.YtknklchmpohjfaaQRModelCloseda
import Derived.WalkKit
import Derived.Maps.OwnOps
import Derived.Maps.OwnSet
import Derived.Maps.Views
import Derived.Below
import Derived.Shelf.Abstract
import Derived.Laws.EntriesVeiled
import Derived.Outline
namespace Go.Proofs.Ytknklchmpohjfaa.Op
open Go.ChangeShapes Go.WideShapes Go.ChangeAt Go.RowKit Go.Joins Go.Deep Go.Proofs.YtknklchmpohjfaaW.PrintWords
set_option linter.unusedVariables false
theorem list_of {α : Type} (P : Nat → α → Prop) (n : Nat) (h : ∀ i, i < n → ∃ x, P i x) : ∃ l : List α, l.length = n ∧ ∀ i x, l[i]? = some x → P i x := by
 induction n with
 | zero => exact ⟨[], rfl, by simp⟩
 | succ n ih =>
  obtain ⟨l, hl, hp⟩ := ih (fun i hi => h i (by omega))
  obtain ⟨x, hx⟩ := h n (by omega)
  refine ⟨l ++ [x], by simp [hl], fun i y hy => ?_⟩
  by_cases hi : i < l.length
  ·rw [List.getElem?_append_left hi] at hy
   exact hp i y hy
  ·have hi2 : i = l.length := by
    have := (List.getElem?_eq_some_iff.1 hy).1
    simp only [List.length_append, List.length_cons, List.length_nil] at this
    omega
   subst hi2
   simp only [Nat.le_refl, List.getElem?_append_right, Nat.sub_self, List.getElem?_cons_zero, Option.some.injEq] at hy
   subst hy
   rw [hl]
   exact hx
section
variable {H : Type} (enc : TypeId × Value → H) (P : Program) (w : World) (base : Nat) (spare : Nat → Bool) (held : Bool)
def Opens {α : Type} (d : Kd α) (W : α → Prop) (t : TypeId) : Prop := ∀ (fuel : Nat) (cs : List Value) (x : DataW H × List MemPlace), DataW.trod enc P w base spare held fuel t cs = some x → ∃ z, d.K w z cs ∧ W z
def OpensF {α : Type} (d : Kd α) (W : α → Prop) (fs : List (TypeId × Nat)) (at_ : Nat) : Prop := ∀ cs : List Value, cs.length = at_ + d.sz → (∀ f ∈ fs, ∃ (fuel : Nat) (x : DataW H × List MemPlace), DataW.trod enc P w base spare held fuel f.1 ((cs.drop f.2).take (P.cellsOf f.1)) = some x) → ∃ z, d.K w z (cs.drop at_) ∧ W z
variable {enc P w base spare held}
theorem opens_int {t : TypeId} {k : IntKind} (ht : P.underlying t = some (.int k)) : Opens enc P w base spare held (Kd.int k) (fun z => (Lit.int k z).wf = true) t := by
 intro fuel cs x h
 obtain ⟨z, rfl, _, hw⟩ := DataW.trod_int ht h
 exact ⟨z, rfl, hw⟩
theorem opens_bool {t : TypeId} (ht : P.underlying t = some .bool) : Opens enc P w base spare held Kd.bool (fun _ => True) t := by
 intro fuel cs x h
 obtain ⟨z, rfl, _⟩ := DataW.trod_bool ht h
 exact ⟨z, rfl, trivial⟩
theorem opens_string {t : TypeId} (ht : P.underlying t = some .string) : Opens enc P w base spare held Kd.string (fun z => z.size ≤ maxLen) t := by
 intro fuel cs x h
 obtain ⟨z, rfl, _, hw⟩ := DataW.trod_string ht h
 exact ⟨z, rfl, hw⟩
theorem opens_slice {α : Type} {d : Kd α} {W : α → Prop} {t e : TypeId} (ht : P.underlying t = some (.slice e)) (hc : P.cellsOf e = d.sz) (he : Opens enc P w base spare held d W e) : Opens enc P w base spare held (Kd.slice e d) (fun l => l.length ≤ maxLen ∧ ∀ x ∈ l, W x) t := by
 intro fuel cs x h
 rcases open_slice ht h with ⟨rfl, _⟩ | ⟨x, len, cap, m, k, D, Pl, rfl, _, hl, hm, hmm, _, hi⟩
 ·exact ⟨[], ⟨none, 0, rfl, Nat.le_refl _, Kd.C_nil _ _⟩, by simp, by simp⟩
 ·have hlm : len ≤ m := by rw [hmm]; split <;> omega
  obtain ⟨L, hL, hp⟩ := list_of (fun i z => ∃ cs', d.K w z cs' ∧ (∀ j u, cs'[j]? = some u → w.cell? (x.add (i * d.sz + j)) = some u) ∧ W z) len (fun i hlt => by
   obtain ⟨cs', hc', ht'⟩ := hi i (by omega)
   obtain ⟨z, hK, hw⟩ := he _ _ _ ht'
   rw [hc] at hc'
   obtain ⟨_, _, hat⟩ := World.cells?_some hc'
   refine ⟨z, cs', hK, fun j u hu => ?_, hw⟩
   have hj : j < d.sz := by
    have := (List.getElem?_eq_some_iff.1 hu).1
    rw [d.K_len hK] at this
    exact this
   have := hat j hj
   rw [← Go.Deep.add_add, this, hu])
  subst hL
  refine ⟨L, ⟨some x, cap, rfl, hl, ⟨rfl, by have := hm; unfold maxLen at this; omega, fun _ => ⟨x, rfl, fun j p hj => ?_⟩⟩⟩, by omega, fun z hz => ?_⟩
  ·obtain ⟨cs', h1, h2, _⟩ := hp j p hj
   exact ⟨cs', d.K_len h1, h1, h2⟩
  ·obtain ⟨i, hi2, he2⟩ := List.getElem_of_mem hz
   obtain ⟨_, _, _, h3⟩ := hp i z (by rw [List.getElem?_eq_getElem hi2, he2])
   exact h3
theorem opens_iso {α β : Type} {d : Kd α} {f : β → α} {W : α → Prop} {t : TypeId} (g : α → β) (hg : ∀ z, f (g z) = z) (h : Opens enc P w base spare held d W t) : Opens enc P w base spare held (Kd.iso d f) (fun x => W (f x)) t := by
 intro fuel cs x hx
 obtain ⟨z, hK, hW⟩ := h fuel cs x hx
 refine ⟨g z, ?_, ?_⟩
 ·show d.K w (f (g z)) cs
  rw [hg]
  exact hK
 ·show W (f (g z))
  rw [hg]
  exact hW
theorem opens_last {α : Type} {d : Kd α} {W : α → Prop} {t : TypeId} {s : Nat} (hc : P.cellsOf t = d.sz) (h : Opens enc P w base spare held d W t) : OpensF enc P w base spare held d W [(t, s)] s := by
 intro cs hl hf
 obtain ⟨fuel, x, hx⟩ := hf (t, s) (by simp)
 simp only at hx
 rw [hc, List.take_of_length_le (by rw [List.length_drop]; omega)] at hx
 exact h _ _ _ hx
theorem opens_pair {α β : Type} {a : Kd α} {b : Kd β} {Wa : α → Prop} {Wb : β → Prop} {t : TypeId} {s s2 : Nat} {fs : List (TypeId × Nat)} (hc : P.cellsOf t = a.sz) (hs : s2 = s + a.sz) (ha : Opens enc P w base spare held a Wa t) (hb : OpensF enc P w base spare held b Wb fs s2) : OpensF enc P w base spare held (Kd.pair a b) (fun z => Wa z.1 ∧ Wb z.2) ((t, s) :: fs) s := by
 intro cs hl hf
 have hsz : (Kd.pair a b).sz = a.sz + b.sz := rfl
 obtain ⟨fuel, x, hx⟩ := hf (t, s) (by simp)
 simp only at hx
 rw [hc] at hx
 obtain ⟨z0, k0, w0⟩ := ha _ _ _ hx
 obtain ⟨z1, k1, w1⟩ := hb cs (by omega) (fun f h => hf f (by simp [h]))
 refine ⟨(z0, z1), ⟨_, _, ?_, k0, k1⟩, w0, w1⟩
 rw [hs, ← List.drop_drop, List.take_append_drop]
theorem opens_struct {α : Type} {d : Kd α} {W : α → Prop} {t : TypeId} {fs : Array Field} (l : List (TypeId × Nat)) (ht : P.underlying t = some (.struct fs)) (hc : P.cellsOf t = d.sz) (hl : fs.toList.map (fun f => (f.type, f.offset)) = l) (h : OpensF enc P w base spare held d W l 0) : Opens enc P w base spare held d W t := by
 intro fuel cs x hx
 obtain ⟨xs, k, _, _, hlen, hxs, hg⟩ := DataW.trod_struct ht hx
 obtain ⟨z, hK, hW⟩ := h cs (by omega) (fun f hf => by
  rw [← hl] at hf
  obtain ⟨F, hF, rfl⟩ := List.mem_map.1 hf
  obtain ⟨i, hi, he⟩ := List.getElem_of_mem hF
  have h1 := hg i F (by rw [← Array.getElem?_toList, List.getElem?_eq_getElem hi, he])
  have hi2 : i < xs.length := by rw [hxs, ← Array.length_toList]; exact hi
  rw [List.getElem?_eq_getElem hi2] at h1
  exact ⟨k, _, h1⟩)
 rw [List.drop_zero] at hK
 exact ⟨z, hK, hW⟩
theorem open_given {α : Type} {d : Kd α} {W : α → Prop} {t : TypeId} {fs : Array Field} {r : Reach} {b0 : Nat} {v : Value} {x : DataW H} {p : List MemPlace} (hs : P.underlying t = some (.struct fs)) (ho : Opens enc P w base spare held d W t) (hv : Value.okWide P w r b0 t v) (h : DataW.Trod enc P w base spare held t v x p) : ∃ cs z, v = .agg cs ∧ d.K w z cs.toList ∧ W z := by
 obtain ⟨cs, rfl, hsz⟩ := okWide_struct hs hv
 obtain ⟨fuel, hf⟩ := h
 obtain ⟨z, hK, hW⟩ := ho _ _ _ hf
 exact ⟨cs, z, rfl, by simpa [Value.cells] using hK, hW⟩
end
end Go.Proofs.Ytknklchmpohjfaa.Op
namespace Go.Proofs.Ytknklchmpohjfaa.Ho
open Go.ChangeShapes Go.WideShapes Go.ChangeAt Go.RowKit Go Go.Proofs.YtknklchmpohjfaaW.PrintWords Go.Proofs.YtknklchmpohjfaaW.PrintLast Go.Proofs.YtknklchmpohjfaaW.PrintMore Go.Proofs.Ytknklchmpohjfaa.Mn Go.Proofs.Ytknklchmpohjfaa.E Go.Proofs.Ytknklchmpohjfaa.Tk Go.Proofs.Ytknklchmpohjfaa.Tw Go.Proofs.Ytknklchmpohjfaa.Op
set_option linter.unusedVariables false
set_option linter.unusedSimpArgs false
structure Tr (W : World) (codec : ByteArray) (A4 : Option Addr) (c4 : Nat) (setup : List Int) (lang name : ByteArray) (A8 : Option Addr) (c8 : Nat) (edits : List Ed') (A9 : Option Addr) (c9 : Nat) (refs : List Rf) (A10 : Option Addr) (c10 : Nat) (samples : List Sm) : Prop where
 ok : okB codec lang name refs = true
 h : Hd A4 setup A8 edits A9 refs A10 samples W
 c4 : setup.length ≤ c4
 c8 : edits.length ≤ c8
 c9 : refs.length ≤ c9
 c10 : samples.length ≤ c10
section
variable {H : Type} {enc : TypeId × Value → H} {w : World} {base : Nat} {spare : Nat → Bool} {held : Bool}
theorem laidOut : laidOutB Try.prog = true := by kernel_rfl
theorem own : ownKnob Try.prog.godebug = none := by kernel_rfl
theorem op_int : Opens enc Try.prog w base spare held (Kd.int .i64) (fun z => (Lit.int .i64 z).wf = true) 3 := opens_int Try.underlying3
theorem op_str : Opens enc Try.prog w base spare held Kd.string (fun z => z.size ≤ maxLen) 9 := opens_string Try.underlying9
set_option maxRecDepth 100000 in
theorem op_edit : Opens enc Try.prog w base spare held k86 (fun _ => True) 86 := by
 have h := opens_struct (enc := enc) (w := w) (base := base) (spare := spare) (held := held) [(3, 0), (3, 1), (3, 2), (3, 3)] Try.underlying86 (by kernel_rfl) rfl
  (opens_pair (by kernel_rfl) rfl op_int (opens_pair (by kernel_rfl) rfl op_int (opens_pair (by kernel_rfl) rfl op_int (opens_last (by kernel_rfl) op_int))))
 intro fuel cs x hx
 obtain ⟨z, h1, _⟩ := opens_iso (f := fun x : S86 => (x.f0, x.f1, x.f2, x.f3)) (fun z => ⟨z.1, z.2.1, z.2.2.1, z.2.2.2⟩) (fun z => rfl) h fuel cs x hx
 exact ⟨z, h1, trivial⟩
set_option maxRecDepth 100000 in
theorem op_ref : Opens enc Try.prog w base spare held k68 (fun z => z.f0.size ≤ maxLen) 68 := by
 have h := opens_struct (enc := enc) (w := w) (base := base) (spare := spare) (held := held) [(9, 0), (3, 1)] Try.underlying68 (by kernel_rfl) rfl
  (opens_pair (by kernel_rfl) rfl op_str (opens_last (by kernel_rfl) op_int))
 intro fuel cs x hx
 obtain ⟨z, h1, h2⟩ := opens_iso (f := fun x : S68 => (x.f0, x.f1)) (fun z => ⟨z.1, z.2⟩) (fun z => rfl) h fuel cs x hx
 exact ⟨z, h1, h2.1⟩
set_option maxRecDepth 100000 in
theorem op_sample : Opens enc Try.prog w base spare held k51 (fun _ => True) 51 := by
 have h := opens_struct (enc := enc) (w := w) (base := base) (spare := spare) (held := held) [(3, 0), (3, 1), (3, 2), (4, 3), (41, 4), (35, 5)] Try.underlying51 (by kernel_rfl) rfl
  (opens_pair (by kernel_rfl) rfl op_int (opens_pair (by kernel_rfl) rfl op_int (opens_pair (by kernel_rfl) rfl op_int (opens_pair (by kernel_rfl) rfl (opens_bool Try.underlying4) (opens_pair (by kernel_rfl) rfl (opens_slice Try.underlying41 (by kernel_rfl) op_int) (opens_last (by kernel_rfl) (opens_slice Try.underlying35 (by kernel_rfl) (opens_int Try.underlying5))))))))
 intro fuel cs x hx
 obtain ⟨z, h1, _⟩ := opens_iso (f := fun x : S51 => (x.f0, x.f1, x.f2, x.f3, x.f4, x.f5)) (fun z => ⟨z.1, z.2.1, z.2.2.1, z.2.2.2.1, z.2.2.2.2.1, z.2.2.2.2.2⟩) (fun z => rfl) h fuel cs x hx
 exact ⟨z, h1, trivial⟩
set_option maxRecDepth 100000 in
theorem open_track {r : Reach} {b0 : Nat} {v : Value} {d : DataW H} {p : List MemPlace} (hv : Value.okWide Try.prog w r b0 40 v) (h : DataW.Trod enc Try.prog w base spare held 40 v d p) :
  ∃ id kind codec scale A4 c4 setup lang name pr A8 c8 edits A9 c9 refs A10 c10 samples, v = .agg #[.int .i64 id, .int .i64 kind, .string codec, .int .i64 scale, .slice A4 setup.length c4, .string lang, .string name, .int .i64 pr, .slice A8 edits.length c8, .slice A9 refs.length c9, .slice A10 samples.length c10] ∧ Tr w codec A4 c4 setup lang name A8 c8 edits A9 c9 refs A10 c10 samples := by
 have ho := opens_struct (enc := enc) (w := w) (base := base) (spare := spare) (held := held) [(3, 0), (3, 1), (9, 2), (3, 3), (35, 4), (9, 5), (9, 6), (3, 7), (36, 8), (37, 9), (38, 10)] Try.underlying40 (by kernel_rfl) rfl
  (opens_pair (by kernel_rfl) rfl op_int (opens_pair (by kernel_rfl) rfl op_int (opens_pair (by kernel_rfl) rfl op_str (opens_pair (by kernel_rfl) rfl op_int (opens_pair (by kernel_rfl) rfl (opens_slice Try.underlying35 (by kernel_rfl) (opens_int Try.underlying5)) (opens_pair (by kernel_rfl) rfl op_str (opens_pair (by kernel_rfl) rfl op_str (opens_pair (by kernel_rfl) rfl op_int (opens_pair (by kernel_rfl) rfl (opens_slice Try.underlying36 (by kernel_rfl) op_edit) (opens_pair (by kernel_rfl) rfl (opens_slice Try.underlying37 (by kernel_rfl) op_ref) (opens_last (by kernel_rfl) (opens_slice Try.underlying38 (by kernel_rfl) op_sample))))))))))))
 obtain ⟨cs, z, rfl, hK, hW⟩ := open_given Try.underlying40 ho hv h
 obtain ⟨x0, x1, x2, x3, x4, x5, x6, x7, x8, x9, xa⟩ := z
 obtain ⟨_, _, w2, _, w4, w5, w6, _, w8, w9, wa⟩ := hW
 obtain ⟨l⟩ := cs
 obtain ⟨_, _, e, rfl, ⟨_, _, rfl, rfl, ⟨_, _, rfl, rfl, ⟨_, _, rfl, rfl, ⟨_, _, rfl, ⟨A4, c4, rfl, l4, g4⟩, ⟨_, _, rfl, rfl, ⟨_, _, rfl, rfl, ⟨_, _, rfl, rfl, ⟨_, _, rfl, ⟨A8, c8, rfl, l8, g8⟩, ⟨_, _, rfl, ⟨A9, c9, rfl, l9, g9⟩, ⟨A10, c10, rfl, l10, g10⟩⟩⟩⟩⟩⟩⟩⟩⟩⟩⟩ := hK
 have e' : l = [.int .i64 x0, .int .i64 x1, .string x2, .int .i64 x3, .slice A4 x4.length c4, .string x5, .string x6, .int .i64 x7, .slice A8 x8.length c8, .slice A9 x9.length c9, .slice A10 xa.length c10] := e
 subst e'
 refine ⟨x0, x1, x2, x3, A4, c4, x4, x5, x6, x7, A8, c8, x8, A9, c9, x9, A10, c10, xa, rfl, ⟨?_, ⟨g4, g8, g9, g10⟩, l4, l8, l9, l10⟩⟩
 unfold okB
 simp only [Bool.and_eq_true, decide_eq_true_eq, List.all_eq_true]
 exact ⟨w2, w5, w6, w9.1, w9.2⟩
end
end Go.Proofs.Ytknklchmpohjfaa.Ho
namespace Go.Proofs.Ytknklchmpohjfaa.E
open Go.RowKit Go Go.Proofs.YtknklchmpohjfaaW.PrintWords Go.Proofs.YtknklchmpohjfaaW.PrintLast Go.Proofs.YtknklchmpohjfaaW.PrintMore Go.Proofs.Ytknklchmpohjfaa.Tk Go.Proofs.Ytknklchmpohjfaa.Tw
set_option linter.unusedVariables false
def model_CheckTrack.f (a0_0 : Int) (a0_1 : Int) (a0_2 : ByteArray) (a0_3 : Int) (l0_4 : List Int) (a0_5 : ByteArray) (a0_6 : ByteArray) (a0_7 : Int) (l0_8 : List (S86)) (l0_9 : List (S68)) (l0_10 : List (S51)) : Option (Int) := if okB a0_2 a0_5 a0_6 l0_9 = true then some (chkT a0_0 a0_1 a0_2 a0_3 l0_4 a0_5 a0_6 a0_7 l0_8 l0_9 l0_10) else none
theorem model_CheckTrack.calls (a0_0 : Int) (a0_1 : Int) (a0_2 : ByteArray) (a0_3 : Int) (A0_4 : Option Addr) (c0_4 : Nat) (l0_4 : List Int) (a0_5 : ByteArray) (a0_6 : ByteArray) (a0_7 : Int) (A0_8 : Option Addr) (c0_8 : Nat) (l0_8 : List (S86)) (A0_9 : Option Addr) (c0_9 : Nat) (l0_9 : List (S68)) (A0_10 : Option Addr) (c0_10 : Nat) (l0_10 : List (S51)) (r : Int) (w : World) (hr0_4 : Kd.C (Kd.int .u8) w A0_4 l0_4.length l0_4) (hc0_4 : l0_4.length ≤ c0_4) (hr0_8 : Kd.C k86 w A0_8 l0_8.length l0_8) (hc0_8 : l0_8.length ≤ c0_8) (hr0_9 : Kd.C k68 w A0_9 l0_9.length l0_9) (hc0_9 : l0_9.length ≤ c0_9) (hr0_10 : Kd.C k51 w A0_10 l0_10.length l0_10) (hc0_10 : l0_10.length ≤ c0_10) (h : model_CheckTrack.f a0_0 a0_1 a0_2 a0_3 l0_4 a0_5 a0_6 a0_7 l0_8 l0_9 l0_10 = some r) :
  Calls Try.prog 26 #[.agg #[.int .i64 a0_0, .int .i64 a0_1, .string a0_2, .int .i64 a0_3, .slice A0_4 l0_4.length c0_4, .string a0_5, .string a0_6, .int .i64 a0_7, .slice A0_8 l0_8.length c0_8, .slice A0_9 l0_9.length c0_9, .slice A0_10 l0_10.length c0_10]] w fun e w' => e = .returned (.int .i64 r) ∧ Below w.heap.size w w' := by
 unfold model_CheckTrack.f at h
 split at h
 ·rename_i hok
  have hV : chkT a0_0 a0_1 a0_2 a0_3 l0_4 a0_5 a0_6 a0_7 l0_8 l0_9 l0_10 = r := Option.some.inj h
  have := check_track_n a0_0 a0_1 a0_2 a0_3 A0_4 c0_4 l0_4 a0_5 a0_6 a0_7 A0_8 c0_8 l0_8 A0_9 c0_9 l0_9 A0_10 c0_10 l0_10 hok hc0_4 hc0_8 hc0_9 hc0_10 w ⟨hr0_4, hr0_8, hr0_9, hr0_10⟩
  rw [hV] at this
  exact this
 ·cases h
end Go.Proofs.Ytknklchmpohjfaa.E
namespace Go.Proofs.Ytknklchmpohjfaa.E
open Go.Proofs.Ytknklchmpohjfaa.Z Go.RowKit Go.Proofs.YtknklchmpohjfaaW.PrintWords Go.Proofs.YtknklchmpohjfaaW.PrintLast Go.Proofs.YtknklchmpohjfaaW.PrintMore
attribute [local go_sem] max2_int min2_int max_two min_two max_three min_three max_four min_four
set_option linter.unusedVariables false
set_option linter.unusedSimpArgs false
def model_ready.f (a0_0 : Int) (a0_1 : Int) (a0_2 : ByteArray) (a0_3 : Int) (l0_4 : List Int) (a0_5 : ByteArray) (a0_6 : ByteArray) (a0_7 : Int) (l0_8 : List (S86)) (l0_9 : List (S68)) (l0_10 : List (S51)) (a1 : Int) : Option (Int) := (model_CheckTrack.f a0_0 a0_1 a0_2 a0_3 l0_4 a0_5 a0_6 a0_7 l0_8 l0_9 l0_10).bind fun t104 => (if t104 = 0 then (if a1 < 0 then (some 1) else (if a1 ≥ (l0_10.length : Int) then (some 1) else (some 0))) else (some t104))
set_option maxHeartbeats 8000000 in
set_option maxRecDepth 100000 in
theorem model_ready.calls (a0_0 : Int) (a0_1 : Int) (a0_2 : ByteArray) (a0_3 : Int) (A0_4 : Option Addr) (c0_4 : Nat) (l0_4 : List Int) (a0_5 : ByteArray) (a0_6 : ByteArray) (a0_7 : Int) (A0_8 : Option Addr) (c0_8 : Nat) (l0_8 : List (S86)) (A0_9 : Option Addr) (c0_9 : Nat) (l0_9 : List (S68)) (A0_10 : Option Addr) (c0_10 : Nat) (l0_10 : List (S51)) (a1 : Int) (r : Int) (w : World) (hr0_4 : Kd.C (Kd.int .u8) w A0_4 l0_4.length l0_4) (hc0_4 : l0_4.length ≤ c0_4) (hr0_8 : Kd.C k86 w A0_8 l0_8.length l0_8) (hc0_8 : l0_8.length ≤ c0_8) (hr0_9 : Kd.C k68 w A0_9 l0_9.length l0_9) (hc0_9 : l0_9.length ≤ c0_9) (hr0_10 : Kd.C k51 w A0_10 l0_10.length l0_10) (hc0_10 : l0_10.length ≤ c0_10) (h : model_ready.f a0_0 a0_1 a0_2 a0_3 l0_4 a0_5 a0_6 a0_7 l0_8 l0_9 l0_10 a1 = some r) :
  Calls Try.prog 43 #[.agg #[.int .i64 a0_0, .int .i64 a0_1, .string a0_2, .int .i64 a0_3, .slice A0_4 l0_4.length c0_4, .string a0_5, .string a0_6, .int .i64 a0_7, .slice A0_8 l0_8.length c0_8, .slice A0_9 l0_9.length c0_9, .slice A0_10 l0_10.length c0_10], .int .i64 a1] w fun e w' => e = .returned (.int .i64 r) ∧ Below w.heap.size w w' := by
 have hu40 := Try.underlying40; have HR0_4 := Aside0.mk hr0_4; have HC0_4 := Aside0.mk hc0_4; clear hr0_4 hc0_4; have HR0_8 := Aside0.mk hr0_8; have HC0_8 := Aside0.mk hc0_8; clear hr0_8 hc0_8; have HR0_9 := Aside0.mk hr0_9; have HC0_9 := Aside0.mk hc0_9; clear hr0_9 hc0_9; have HR0_10 := Aside0.mk hr0_10; have HC0_10 := Aside0.mk hc0_10; clear hr0_10 hc0_10; have HB := Aside0.mk (Below.refl w.heap.size w); have H : ((model_CheckTrack.f a0_0 a0_1 a0_2 a0_3 l0_4 a0_5 a0_6 a0_7 l0_8 l0_9 l0_10).bind fun t104 => (if t104 = 0 then (if a1 < 0 then (some 1) else (if a1 ≥ (l0_10.length : Int) then (some 1) else (some 0))) else (some t104))) = some r := h
 clear h; obtain ⟨t104, A3, H⟩ := ob H
 by_cases c4 : t104 = 0
 ·rw [if_pos c4] at H; have c4b0 : (t104 == 0) = true := beq_iff_eq.mpr c4; have c4b1 : (t104 != 0) = false := bne_eq_false_iff_eq.mpr c4; clear c4
  by_cases c5 : a1 < 0
  ·rw [if_pos c5] at H; have c5b0 : decide (a1 < 0) = true := decide_eq_true c5; clear c5; obtain rfl := Option.some.inj H
   go_enter Try.func43, Try.ntmps43
   go_wp2_with (first | ((with_reducible refine gate_dst (N := 2) rfl ?_); refine zB 2 40 #[.int .i64 a0_0, .int .i64 a0_1, .string a0_2, .int .i64 a0_3, .slice A0_4 l0_4.length c0_4, .string a0_5, .string a0_6, .int .i64 a0_7, .slice A0_8 l0_8.length c0_8, .slice A0_9 l0_9.length c0_9, .slice A0_10 l0_10.length c0_10] ?_; intro gb103 hg w6 hbox hb; have BK103 := Aside0.mk hbox; have GW103 := gz hg; have GE103 := gz hg; replace HB := bp hb; clear hb hbox hg; have hcz7_0 : w6.cell? ⟨gb103, 0, none⟩ = some (.int .i64 a0_0) := ct BK103 0; have hcz7_1 : w6.cell? ⟨gb103, 1, none⟩ = some (.int .i64 a0_1) := ct BK103 1; have hcz7_2 : w6.cell? ⟨gb103, 2, none⟩ = some (.string a0_2) := ct BK103 2; have hcz7_3 : w6.cell? ⟨gb103, 3, none⟩ = some (.int .i64 a0_3) := ct BK103 3; have hcz7_4 : w6.cell? ⟨gb103, 4, none⟩ = some (.slice A0_4 l0_4.length c0_4) := ct BK103 4; have hcz7_5 : w6.cell? ⟨gb103, 5, none⟩ = some (.string a0_5) := ct BK103 5; have hcz7_6 : w6.cell? ⟨gb103, 6, none⟩ = some (.string a0_6) := ct BK103 6; have hcz7_7 : w6.cell? ⟨gb103, 7, none⟩ = some (.int .i64 a0_7) := ct BK103 7; have hcz7_8 : w6.cell? ⟨gb103, 8, none⟩ = some (.slice A0_8 l0_8.length c0_8) := ct BK103 8; have hcz7_9 : w6.cell? ⟨gb103, 9, none⟩ = some (.slice A0_9 l0_9.length c0_9) := ct BK103 9; have hcz7_10 : w6.cell? ⟨gb103, 10, none⟩ = some (.slice A0_10 l0_10.length c0_10) := ct BK103 10; have hfz7_0 := blk_frozen BK103.out 0; have hfz7_1 := blk_frozen BK103.out 1; have hfz7_2 := blk_frozen BK103.out 2; have hfz7_3 := blk_frozen BK103.out 3; have hfz7_4 := blk_frozen BK103.out 4; have hfz7_5 := blk_frozen BK103.out 5; have hfz7_6 := blk_frozen BK103.out 6; have hfz7_7 := blk_frozen BK103.out 7; have hfz7_8 := blk_frozen BK103.out 8; have hfz7_9 := blk_frozen BK103.out 9; have hfz7_10 := blk_frozen BK103.out 10) | ((with_reducible refine gate_callee (f := 26) rfl ?_); refine zC 7 Try.func26 #[.agg #[.int .i64 a0_0, .int .i64 a0_1, .string a0_2, .int .i64 a0_3, .slice A0_4 l0_4.length c0_4, .string a0_5, .string a0_6, .int .i64 a0_7, .slice A0_8 l0_8.length c0_8, .slice A0_9 l0_9.length c0_9, .slice A0_10 l0_10.length c0_10]] ?_; (with_reducible refine (model_CheckTrack.calls a0_0 a0_1 a0_2 a0_3 _ _ l0_4 a0_5 a0_6 a0_7 _ _ l0_8 _ _ l0_9 _ _ l0_10 t104 _ ?side1 ?side2 ?side3 ?side4 ?side5 ?side6 ?side7 ?side8 A3.out).mono ?_); (case side1 => exact cz HR0_4); (case side2 => exact HC0_4.out); (case side3 => exact cz HR0_8); (case side4 => exact HC0_8.out); (case side5 => exact cz HR0_9); (case side6 => exact HC0_9.out); (case side7 => exact cz HR0_10); (case side8 => exact HC0_10.out); rintro e w8 ⟨rfl, hb⟩; refine ⟨_, rfl, ?_⟩; replace BK103 := kb BK103 hb; replace HB := bp hb; clear hb))
   go_ret
   exact ⟨ez, bz⟩
  ·rw [if_neg c5] at H; have c5b0 : decide (a1 < 0) = false := decide_eq_false c5; clear c5
   by_cases c9 : a1 ≥ (l0_10.length : Int)
   ·rw [if_pos c9] at H; have c9b0 : decide ((l0_10.length : Int) ≤ a1) = true := decide_eq_true c9; clear c9; obtain rfl := Option.some.inj H
    go_enter Try.func43, Try.ntmps43
    go_wp2_with (first | ((with_reducible refine gate_dst (N := 2) rfl ?_); refine zB 2 40 #[.int .i64 a0_0, .int .i64 a0_1, .string a0_2, .int .i64 a0_3, .slice A0_4 l0_4.length c0_4, .string a0_5, .string a0_6, .int .i64 a0_7, .slice A0_8 l0_8.length c0_8, .slice A0_9 l0_9.length c0_9, .slice A0_10 l0_10.length c0_10] ?_; intro gb103 hg w10 hbox hb; have BK103 := Aside0.mk hbox; have GW103 := gz hg; have GE103 := gz hg; replace HB := bp hb; clear hb hbox hg; have hcz11_0 : w10.cell? ⟨gb103, 0, none⟩ = some (.int .i64 a0_0) := ct BK103 0; have hcz11_1 : w10.cell? ⟨gb103, 1, none⟩ = some (.int .i64 a0_1) := ct BK103 1; have hcz11_2 : w10.cell? ⟨gb103, 2, none⟩ = some (.string a0_2) := ct BK103 2; have hcz11_3 : w10.cell? ⟨gb103, 3, none⟩ = some (.int .i64 a0_3) := ct BK103 3; have hcz11_4 : w10.cell? ⟨gb103, 4, none⟩ = some (.slice A0_4 l0_4.length c0_4) := ct BK103 4; have hcz11_5 : w10.cell? ⟨gb103, 5, none⟩ = some (.string a0_5) := ct BK103 5; have hcz11_6 : w10.cell? ⟨gb103, 6, none⟩ = some (.string a0_6) := ct BK103 6; have hcz11_7 : w10.cell? ⟨gb103, 7, none⟩ = some (.int .i64 a0_7) := ct BK103 7; have hcz11_8 : w10.cell? ⟨gb103, 8, none⟩ = some (.slice A0_8 l0_8.length c0_8) := ct BK103 8; have hcz11_9 : w10.cell? ⟨gb103, 9, none⟩ = some (.slice A0_9 l0_9.length c0_9) := ct BK103 9; have hcz11_10 : w10.cell? ⟨gb103, 10, none⟩ = some (.slice A0_10 l0_10.length c0_10) := ct BK103 10; have hfz11_0 := blk_frozen BK103.out 0; have hfz11_1 := blk_frozen BK103.out 1; have hfz11_2 := blk_frozen BK103.out 2; have hfz11_3 := blk_frozen BK103.out 3; have hfz11_4 := blk_frozen BK103.out 4; have hfz11_5 := blk_frozen BK103.out 5; have hfz11_6 := blk_frozen BK103.out 6; have hfz11_7 := blk_frozen BK103.out 7; have hfz11_8 := blk_frozen BK103.out 8; have hfz11_9 := blk_frozen BK103.out 9; have hfz11_10 := blk_frozen BK103.out 10) | ((with_reducible refine gate_callee (f := 26) rfl ?_); refine zC 7 Try.func26 #[.agg #[.int .i64 a0_0, .int .i64 a0_1, .string a0_2, .int .i64 a0_3, .slice A0_4 l0_4.length c0_4, .string a0_5, .string a0_6, .int .i64 a0_7, .slice A0_8 l0_8.length c0_8, .slice A0_9 l0_9.length c0_9, .slice A0_10 l0_10.length c0_10]] ?_; (with_reducible refine (model_CheckTrack.calls a0_0 a0_1 a0_2 a0_3 _ _ l0_4 a0_5 a0_6 a0_7 _ _ l0_8 _ _ l0_9 _ _ l0_10 t104 _ ?side1 ?side2 ?side3 ?side4 ?side5 ?side6 ?side7 ?side8 A3.out).mono ?_); (case side1 => exact cz HR0_4); (case side2 => exact HC0_4.out); (case side3 => exact cz HR0_8); (case side4 => exact HC0_8.out); (case side5 => exact cz HR0_9); (case side6 => exact HC0_9.out); (case side7 => exact cz HR0_10); (case side8 => exact HC0_10.out); rintro e w12 ⟨rfl, hb⟩; refine ⟨_, rfl, ?_⟩; replace BK103 := kb BK103 hb; replace HB := bp hb; clear hb; have hcz13_0 : w12.cell? ⟨gb103, 0, none⟩ = some (.int .i64 a0_0) := ct BK103 0; have hcz13_1 : w12.cell? ⟨gb103, 1, none⟩ = some (.int .i64 a0_1) := ct BK103 1; have hcz13_2 : w12.cell? ⟨gb103, 2, none⟩ = some (.string a0_2) := ct BK103 2; have hcz13_3 : w12.cell? ⟨gb103, 3, none⟩ = some (.int .i64 a0_3) := ct BK103 3; have hcz13_4 : w12.cell? ⟨gb103, 4, none⟩ = some (.slice A0_4 l0_4.length c0_4) := ct BK103 4; have hcz13_5 : w12.cell? ⟨gb103, 5, none⟩ = some (.string a0_5) := ct BK103 5; have hcz13_6 : w12.cell? ⟨gb103, 6, none⟩ = some (.string a0_6) := ct BK103 6; have hcz13_7 : w12.cell? ⟨gb103, 7, none⟩ = some (.int .i64 a0_7) := ct BK103 7; have hcz13_8 : w12.cell? ⟨gb103, 8, none⟩ = some (.slice A0_8 l0_8.length c0_8) := ct BK103 8; have hcz13_9 : w12.cell? ⟨gb103, 9, none⟩ = some (.slice A0_9 l0_9.length c0_9) := ct BK103 9; have hcz13_10 : w12.cell? ⟨gb103, 10, none⟩ = some (.slice A0_10 l0_10.length c0_10) := ct BK103 10; have hfz13_0 := blk_frozen BK103.out 0; have hfz13_1 := blk_frozen BK103.out 1; have hfz13_2 := blk_frozen BK103.out 2; have hfz13_3 := blk_frozen BK103.out 3; have hfz13_4 := blk_frozen BK103.out 4; have hfz13_5 := blk_frozen BK103.out 5; have hfz13_6 := blk_frozen BK103.out 6; have hfz13_7 := blk_frozen BK103.out 7; have hfz13_8 := blk_frozen BK103.out 8; have hfz13_9 := blk_frozen BK103.out 9; have hfz13_10 := blk_frozen BK103.out 10))
    go_ret
    exact ⟨ez, bz⟩
   ·rw [if_neg c9] at H; have c9b0 : decide ((l0_10.length : Int) ≤ a1) = false := decide_eq_false c9; clear c9; obtain rfl := Option.some.inj H
    go_enter Try.func43, Try.ntmps43
    go_wp2_with (first | ((with_reducible refine gate_dst (N := 2) rfl ?_); refine zB 2 40 #[.int .i64 a0_0, .int .i64 a0_1, .string a0_2, .int .i64 a0_3, .slice A0_4 l0_4.length c0_4, .string a0_5, .string a0_6, .int .i64 a0_7, .slice A0_8 l0_8.length c0_8, .slice A0_9 l0_9.length c0_9, .slice A0_10 l0_10.length c0_10] ?_; intro gb103 hg w14 hbox hb; have BK103 := Aside0.mk hbox; have GW103 := gz hg; have GE103 := gz hg; replace HB := bp hb; clear hb hbox hg; have hcz15_0 : w14.cell? ⟨gb103, 0, none⟩ = some (.int .i64 a0_0) := ct BK103 0; have hcz15_1 : w14.cell? ⟨gb103, 1, none⟩ = some (.int .i64 a0_1) := ct BK103 1; have hcz15_2 : w14.cell? ⟨gb103, 2, none⟩ = some (.string a0_2) := ct BK103 2; have hcz15_3 : w14.cell? ⟨gb103, 3, none⟩ = some (.int .i64 a0_3) := ct BK103 3; have hcz15_4 : w14.cell? ⟨gb103, 4, none⟩ = some (.slice A0_4 l0_4.length c0_4) := ct BK103 4; have hcz15_5 : w14.cell? ⟨gb103, 5, none⟩ = some (.string a0_5) := ct BK103 5; have hcz15_6 : w14.cell? ⟨gb103, 6, none⟩ = some (.string a0_6) := ct BK103 6; have hcz15_7 : w14.cell? ⟨gb103, 7, none⟩ = some (.int .i64 a0_7) := ct BK103 7; have hcz15_8 : w14.cell? ⟨gb103, 8, none⟩ = some (.slice A0_8 l0_8.length c0_8) := ct BK103 8; have hcz15_9 : w14.cell? ⟨gb103, 9, none⟩ = some (.slice A0_9 l0_9.length c0_9) := ct BK103 9; have hcz15_10 : w14.cell? ⟨gb103, 10, none⟩ = some (.slice A0_10 l0_10.length c0_10) := ct BK103 10; have hfz15_0 := blk_frozen BK103.out 0; have hfz15_1 := blk_frozen BK103.out 1; have hfz15_2 := blk_frozen BK103.out 2; have hfz15_3 := blk_frozen BK103.out 3; have hfz15_4 := blk_frozen BK103.out 4; have hfz15_5 := blk_frozen BK103.out 5; have hfz15_6 := blk_frozen BK103.out 6; have hfz15_7 := blk_frozen BK103.out 7; have hfz15_8 := blk_frozen BK103.out 8; have hfz15_9 := blk_frozen BK103.out 9; have hfz15_10 := blk_frozen BK103.out 10) | ((with_reducible refine gate_callee (f := 26) rfl ?_); refine zC 7 Try.func26 #[.agg #[.int .i64 a0_0, .int .i64 a0_1, .string a0_2, .int .i64 a0_3, .slice A0_4 l0_4.length c0_4, .string a0_5, .string a0_6, .int .i64 a0_7, .slice A0_8 l0_8.length c0_8, .slice A0_9 l0_9.length c0_9, .slice A0_10 l0_10.length c0_10]] ?_; (with_reducible refine (model_CheckTrack.calls a0_0 a0_1 a0_2 a0_3 _ _ l0_4 a0_5 a0_6 a0_7 _ _ l0_8 _ _ l0_9 _ _ l0_10 t104 _ ?side1 ?side2 ?side3 ?side4 ?side5 ?side6 ?side7 ?side8 A3.out).mono ?_); (case side1 => exact cz HR0_4); (case side2 => exact HC0_4.out); (case side3 => exact cz HR0_8); (case side4 => exact HC0_8.out); (case side5 => exact cz HR0_9); (case side6 => exact HC0_9.out); (case side7 => exact cz HR0_10); (case side8 => exact HC0_10.out); rintro e w16 ⟨rfl, hb⟩; refine ⟨_, rfl, ?_⟩; replace BK103 := kb BK103 hb; replace HB := bp hb; clear hb; have hcz17_0 : w16.cell? ⟨gb103, 0, none⟩ = some (.int .i64 a0_0) := ct BK103 0; have hcz17_1 : w16.cell? ⟨gb103, 1, none⟩ = some (.int .i64 a0_1) := ct BK103 1; have hcz17_2 : w16.cell? ⟨gb103, 2, none⟩ = some (.string a0_2) := ct BK103 2; have hcz17_3 : w16.cell? ⟨gb103, 3, none⟩ = some (.int .i64 a0_3) := ct BK103 3; have hcz17_4 : w16.cell? ⟨gb103, 4, none⟩ = some (.slice A0_4 l0_4.length c0_4) := ct BK103 4; have hcz17_5 : w16.cell? ⟨gb103, 5, none⟩ = some (.string a0_5) := ct BK103 5; have hcz17_6 : w16.cell? ⟨gb103, 6, none⟩ = some (.string a0_6) := ct BK103 6; have hcz17_7 : w16.cell? ⟨gb103, 7, none⟩ = some (.int .i64 a0_7) := ct BK103 7; have hcz17_8 : w16.cell? ⟨gb103, 8, none⟩ = some (.slice A0_8 l0_8.length c0_8) := ct BK103 8; have hcz17_9 : w16.cell? ⟨gb103, 9, none⟩ = some (.slice A0_9 l0_9.length c0_9) := ct BK103 9; have hcz17_10 : w16.cell? ⟨gb103, 10, none⟩ = some (.slice A0_10 l0_10.length c0_10) := ct BK103 10; have hfz17_0 := blk_frozen BK103.out 0; have hfz17_1 := blk_frozen BK103.out 1; have hfz17_2 := blk_frozen BK103.out 2; have hfz17_3 := blk_frozen BK103.out 3; have hfz17_4 := blk_frozen BK103.out 4; have hfz17_5 := blk_frozen BK103.out 5; have hfz17_6 := blk_frozen BK103.out 6; have hfz17_7 := blk_frozen BK103.out 7; have hfz17_8 := blk_frozen BK103.out 8; have hfz17_9 := blk_frozen BK103.out 9; have hfz17_10 := blk_frozen BK103.out 10))
    go_ret
    exact ⟨ez, bz⟩
 ·rw [if_neg c4] at H; have c4b0 : (t104 == 0) = false := beq_eq_false_iff_ne.mpr c4; have c4b1 : (t104 != 0) = true := bne_iff_ne.mpr c4; obtain rfl := Option.some.inj H
  go_enter Try.func43, Try.ntmps43
  go_wp2_with (first | ((with_reducible refine gate_dst (N := 2) rfl ?_); refine zB 2 40 #[.int .i64 a0_0, .int .i64 a0_1, .string a0_2, .int .i64 a0_3, .slice A0_4 l0_4.length c0_4, .string a0_5, .string a0_6, .int .i64 a0_7, .slice A0_8 l0_8.length c0_8, .slice A0_9 l0_9.length c0_9, .slice A0_10 l0_10.length c0_10] ?_; intro gb103 hg w18 hbox hb; have BK103 := Aside0.mk hbox; have GW103 := gz hg; have GE103 := gz hg; replace HB := bp hb; clear hb hbox hg; have hcz19_0 : w18.cell? ⟨gb103, 0, none⟩ = some (.int .i64 a0_0) := ct BK103 0; have hcz19_1 : w18.cell? ⟨gb103, 1, none⟩ = some (.int .i64 a0_1) := ct BK103 1; have hcz19_2 : w18.cell? ⟨gb103, 2, none⟩ = some (.string a0_2) := ct BK103 2; have hcz19_3 : w18.cell? ⟨gb103, 3, none⟩ = some (.int .i64 a0_3) := ct BK103 3; have hcz19_4 : w18.cell? ⟨gb103, 4, none⟩ = some (.slice A0_4 l0_4.length c0_4) := ct BK103 4; have hcz19_5 : w18.cell? ⟨gb103, 5, none⟩ = some (.string a0_5) := ct BK103 5; have hcz19_6 : w18.cell? ⟨gb103, 6, none⟩ = some (.string a0_6) := ct BK103 6; have hcz19_7 : w18.cell? ⟨gb103, 7, none⟩ = some (.int .i64 a0_7) := ct BK103 7; have hcz19_8 : w18.cell? ⟨gb103, 8, none⟩ = some (.slice A0_8 l0_8.length c0_8) := ct BK103 8; have hcz19_9 : w18.cell? ⟨gb103, 9, none⟩ = some (.slice A0_9 l0_9.length c0_9) := ct BK103 9; have hcz19_10 : w18.cell? ⟨gb103, 10, none⟩ = some (.slice A0_10 l0_10.length c0_10) := ct BK103 10; have hfz19_0 := blk_frozen BK103.out 0; have hfz19_1 := blk_frozen BK103.out 1; have hfz19_2 := blk_frozen BK103.out 2; have hfz19_3 := blk_frozen BK103.out 3; have hfz19_4 := blk_frozen BK103.out 4; have hfz19_5 := blk_frozen BK103.out 5; have hfz19_6 := blk_frozen BK103.out 6; have hfz19_7 := blk_frozen BK103.out 7; have hfz19_8 := blk_frozen BK103.out 8; have hfz19_9 := blk_frozen BK103.out 9; have hfz19_10 := blk_frozen BK103.out 10) | ((with_reducible refine gate_callee (f := 26) rfl ?_); refine zC 7 Try.func26 #[.agg #[.int .i64 a0_0, .int .i64 a0_1, .string a0_2, .int .i64 a0_3, .slice A0_4 l0_4.length c0_4, .string a0_5, .string a0_6, .int .i64 a0_7, .slice A0_8 l0_8.length c0_8, .slice A0_9 l0_9.length c0_9, .slice A0_10 l0_10.length c0_10]] ?_; (with_reducible refine (model_CheckTrack.calls a0_0 a0_1 a0_2 a0_3 _ _ l0_4 a0_5 a0_6 a0_7 _ _ l0_8 _ _ l0_9 _ _ l0_10 t104 _ ?side1 ?side2 ?side3 ?side4 ?side5 ?side6 ?side7 ?side8 A3.out).mono ?_); (case side1 => exact cz HR0_4); (case side2 => exact HC0_4.out); (case side3 => exact cz HR0_8); (case side4 => exact HC0_8.out); (case side5 => exact cz HR0_9); (case side6 => exact HC0_9.out); (case side7 => exact cz HR0_10); (case side8 => exact HC0_10.out); rintro e w20 ⟨rfl, hb⟩; refine ⟨_, rfl, ?_⟩; replace BK103 := kb BK103 hb; replace HB := bp hb; clear hb))
  go_ret
  exact ⟨ez, bz⟩
end Go.Proofs.Ytknklchmpohjfaa.E
namespace Go.Proofs.Ytknklchmpohjfaa.Nx
set_option linter.unusedVariables false
set_option linter.unusedSimpArgs false
def rch (dp : Int → List Int) : Nat → Int → Int → Bool
 | 0, i, j => decide (j = i)
 | n + 1, i, j => decide (j = i) || (dp i).any (fun d => rch dp n d j)
def rc (dp : Int → List Int) (i j : Int) : Bool := rch dp i.toNat i j
def Dn (dp : Int → List Int) (m : Int) : Prop := ∀ i, 0 ≤ i → i < m → ∀ d ∈ dp i, 0 ≤ d ∧ d < i
variable {dp : Int → List Int} {m : Int}
theorem rch_mono (h : Dn dp m) : ∀ (n k : Nat) (i j : Int), 0 ≤ i → i < m → i.toNat ≤ n → n ≤ k → rch dp n i j = rch dp k i j := by
 intro n
 induction n with
 | zero =>
  intro k i j h0 h1 hi hk
  have hi0 : i = 0 := by omega
  have hnil : dp i = [] := by
   cases hd : dp i with
   | nil => rfl
   | cons d t =>
    have := h i h0 h1 d (by rw [hd]; exact List.mem_cons_self)
    omega
  cases k with
  | zero => rfl
  | succ k => simp [rch, hnil]
 | succ n ih =>
  intro k i j h0 h1 hi hk
  cases k with
  | zero => omega
  | succ k =>
   simp only [rch]
   congr 1
   have : ∀ l : List Int, (∀ d ∈ l, 0 ≤ d ∧ d < i) → l.any (fun d => rch dp n d j) = l.any (fun d => rch dp k d j) := by
    intro l
    induction l with
    | nil => intro _; rfl
    | cons d t iht =>
     intro hl
     have hd := hl d List.mem_cons_self
     simp only [List.any_cons]
     rw [ih k d j hd.1 (by omega) (by omega) (by omega), iht (fun x hx => hl x (List.mem_cons_of_mem _ hx))]
   exact this _ (h i h0 h1)
theorem rc_step (h : Dn dp m) {i : Int} (h0 : 0 ≤ i) (h1 : i < m) (j : Int) : rc dp i j = (decide (j = i) || (dp i).any (fun d => rc dp d j)) := by
 unfold rc
 rw [rch_mono h i.toNat (i.toNat + 1) i j h0 h1 (Nat.le_refl _) (by omega)]
 simp only [rch]
 congr 1
 have : ∀ l : List Int, (∀ d ∈ l, 0 ≤ d ∧ d < i) → l.any (fun d => rch dp i.toNat d j) = l.any (fun d => rch dp d.toNat d j) := by
  intro l
  induction l with
  | nil => intro _; rfl
  | cons d t iht =>
   intro hl
   have hd := hl d List.mem_cons_self
   simp only [List.any_cons]
   rw [← rch_mono h d.toNat i.toNat d j hd.1 (by omega) (Nat.le_refl _) (by omega), iht (fun x hx => hl x (List.mem_cons_of_mem _ hx))]
 exact this _ (h i h0 h1)
theorem rc_self (i : Int) : rc dp i i = true := by
 unfold rc
 cases i.toNat <;> simp [rch]
theorem rc_dep (h : Dn dp m) {i d : Int} (h0 : 0 ≤ i) (h1 : i < m) (hd : d ∈ dp i) {j : Int} (hj : rc dp d j = true) : rc dp i j = true := by
 rw [rc_step h h0 h1]
 simp only [Bool.or_eq_true, List.any_eq_true]
 exact .inr ⟨d, hd, hj⟩
theorem rc_ind (h : Dn dp m) {Q : Int → Int → Prop} (self : ∀ i, 0 ≤ i → i < m → Q i i) (step : ∀ i d j, 0 ≤ i → i < m → d ∈ dp i → rc dp d j = true → Q d j → Q i j) : ∀ (n : Nat) (i j : Int), i.toNat ≤ n → 0 ≤ i → i < m → rc dp i j = true → Q i j := by
 intro n
 induction n with
 | zero =>
  intro i j hn h0 h1 hr
  rw [rc_step h h0 h1] at hr
  simp only [Bool.or_eq_true, List.any_eq_true, decide_eq_true_eq] at hr
  rcases hr with rfl | ⟨d, hd, _⟩
  ·exact self _ h0 h1
  ·have := h i h0 h1 d hd
   omega
 | succ n ih =>
  intro i j hn h0 h1 hr
  rw [rc_step h h0 h1] at hr
  simp only [Bool.or_eq_true, List.any_eq_true, decide_eq_true_eq] at hr
  rcases hr with rfl | ⟨d, hd, hdj⟩
  ·exact self _ h0 h1
  ·have h2 := h i h0 h1 d hd
   exact step i d j h0 h1 hd hdj (ih d j (by omega) h2.1 (by omega) hdj)
theorem rc_trans (h : Dn dp m) {i j l : Int} (h0 : 0 ≤ i) (h1 : i < m) (hr : rc dp i j = true) (hl : rc dp j l = true) : rc dp i l = true :=
 rc_ind h (Q := fun i j => ∀ l, rc dp j l = true → rc dp i l = true) (fun i _ _ l hl => hl) (fun i d j h0 h1 hd _ hq l hl => rc_dep h h0 h1 hd (hq l hl)) i.toNat i j (Nat.le_refl _) h0 h1 hr l hl
def Cld (dp : Int → List Int) (S : Int → Bool) (i : Int) : Prop := ∀ j, 0 ≤ j → j ≤ i → S j = true → ∀ l, rc dp j l = true → S l = true
theorem cld_hit (h : Dn dp m) {S : Int → Bool} {i : Int} (h0 : 0 ≤ i) (hc : Cld dp S i) (hS : S i = true) : (fun j => S j || rc dp i j) = S := by
 funext j
 cases hr : rc dp i j with
 | false => simp
 | true => simp [hc i h0 (Int.le_refl _) hS j hr]
def half (dp : Int → List Int) (S : Int → Bool) (i : Int) (pre : List Int) (j : Int) : Bool := (S j || decide (j = i)) || pre.any (fun d => rc dp d j)
theorem half_nil (S : Int → Bool) (i : Int) : half dp S i [] = (fun j => S j || decide (j = i)) := by funext j; simp [half]
theorem half_step (S : Int → Bool) (i d : Int) (pre : List Int) : (fun j => half dp S i pre j || rc dp d j) = half dp S i (pre ++ [d]) := by
 funext j
 simp [half, List.any_append, Bool.or_assoc]
theorem half_all (h : Dn dp m) {S : Int → Bool} {i : Int} (h0 : 0 ≤ i) (h1 : i < m) : half dp S i (dp i) = (fun j => S j || rc dp i j) := by
 funext j
 rw [rc_step h h0 h1]
 simp [half, Bool.or_assoc]
theorem half_cld (h : Dn dp m) {S : Int → Bool} {i d : Int} {pre : List Int} (h0 : 0 ≤ i) (h1 : i < m) (hp : ∀ x ∈ pre, x ∈ dp i) (hd : d ∈ dp i) (hc : Cld dp S i) : Cld dp (half dp S i pre) d := by
 have hdi := h i h0 h1 d hd
 intro j hj0 hjd hS l hl
 simp only [half, Bool.or_eq_true, List.any_eq_true, decide_eq_true_eq] at hS ⊢
 rcases hS with (hS | rfl) | ⟨x, hx, hxj⟩
 ·exact .inl (.inl (hc j hj0 (by omega) hS l hl))
 ·omega
 ·have hxi := h i h0 h1 x (hp x hx)
  exact .inr ⟨x, hx, rc_trans h hxi.1 (by omega) hxj hl⟩
def cnt (n : Nat) (S : Int → Bool) : Nat := (List.range n).countP (fun j : Nat => S (j : Int))
theorem cnt_le (n : Nat) (S : Int → Bool) : cnt n S ≤ n := by
 have := List.countP_le_length (p := fun j : Nat => S (j : Int)) (l := List.range n)
 simpa [cnt] using this
theorem cnt_ins {n : Nat} {S : Int → Bool} {i : Int} (h0 : 0 ≤ i) (h1 : i < n) (hS : S i = false) : cnt n (fun j => S j || decide (j = i)) = cnt n S + 1 := by
 have key : ∀ n : Nat, (List.range n).countP (fun j : Nat => S (j : Int) || decide ((j : Int) = i)) = (List.range n).countP (fun j : Nat => S (j : Int)) + (if i < n then 1 else 0) := by
  intro n
  induction n with
  | zero => simp; omega
  | succ n ih =>
   rw [List.range_succ, List.countP_append, List.countP_append, ih]
   by_cases hn : (n : Int) = i
   ·subst hn
    simp [hS]
    omega
   ·have e1 : ((n : Int) < ((n + 1 : Nat) : Int)) := by omega
    simp only [List.countP_cons, List.countP_nil, hn, decide_false, Bool.or_false]
    split <;> split <;> split <;> omega
 unfold cnt
 rw [key n, if_pos h1]
end Go.Proofs.Ytknklchmpohjfaa.Nx
namespace Go.Proofs.Ytknklchmpohjfaa.Ny
open Go.Proofs.Ytknklchmpohjfaa.Nx
set_option linter.unusedVariables false
set_option linter.unusedSimpArgs false
def upto (n : Nat) : List Int := (List.range n).map Int.ofNat
theorem mem_upto {n : Nat} {j : Int} : j ∈ upto n ↔ 0 ≤ j ∧ j < n := by
 unfold upto
 simp only [List.mem_map, List.mem_range]
 constructor
 ·rintro ⟨a, ha, rfl⟩
  exact ⟨Int.natCast_nonneg a, by simpa using ha⟩
 ·rintro ⟨h0, h1⟩
  refine ⟨j.toNat, by omega, ?_⟩
  show ((j.toNat : Nat) : Int) = j
  omega
theorem upto_succ (n : Nat) : upto (n + 1) = upto n ++ [(n : Int)] := by
 unfold upto
 rw [List.range_succ, List.map_append]
 rfl
def ndsL (dp : Int → List Int) (n : Nat) (i : Int) : List Int := (upto n).filter (rc dp i)
variable {dp : Int → List Int} {n : Nat}
theorem mem_nds {i j : Int} : j ∈ ndsL dp n i ↔ (0 ≤ j ∧ j < n) ∧ rc dp i j = true := by
 unfold ndsL
 rw [List.mem_filter, mem_upto]
theorem nds_len (i : Int) : (ndsL dp n i).length ≤ n := by
 unfold ndsL
 refine Nat.le_trans (List.length_filter_le _ _) ?_
 simp [upto]
theorem nds_self {i : Int} (h0 : 0 ≤ i) (h1 : i < n) : i ∈ ndsL dp n i := mem_nds.2 ⟨⟨h0, h1⟩, rc_self i⟩
theorem upto_sorted : ∀ n, (upto n).Pairwise (· < ·)
 | 0 => List.Pairwise.nil
 | n + 1 => by
  rw [upto_succ, List.pairwise_append]
  refine ⟨upto_sorted n, List.pairwise_singleton _ _, ?_⟩
  intro a ha b hb
  rw [List.mem_singleton] at hb
  subst hb
  exact (mem_upto.1 ha).2
theorem nds_cons {i : Int} (h0 : 0 ≤ i) (h1 : i < n) : ∃ d t, ndsL dp n i = d :: t ∧ 0 ≤ d ∧ d < n ∧ d ≤ i ∧ ∀ j ∈ t, d < j := by
 have hs : (ndsL dp n i).Pairwise (· < ·) := (upto_sorted n).filter _
 have hi := nds_self (dp := dp) h0 h1
 cases hl : ndsL dp n i with
 | nil => rw [hl] at hi; cases hi
 | cons d t =>
  have hd := (mem_nds.1 (show d ∈ ndsL dp n i by rw [hl]; exact List.mem_cons_self)).1
  rw [hl, List.pairwise_cons] at hs
  refine ⟨d, t, rfl, hd.1, hd.2, ?_, hs.1⟩
  rw [hl] at hi
  rcases List.mem_cons.1 hi with rfl | hi
  ·exact Int.le_refl _
  ·exact Int.le_of_lt (hs.1 i hi)
theorem nds_closed (h : Dn dp n) {i k j : Int} (h0 : 0 ≤ i) (h1 : i < n) (hk : k ∈ ndsL dp n i) (hj : j ∈ ndsL dp n k) : j ∈ ndsL dp n i :=
 mem_nds.2 ⟨(mem_nds.1 hj).1, rc_trans h h0 h1 (mem_nds.1 hk).2 (mem_nds.1 hj).2⟩
theorem nds_alone (h : Dn dp n) {i : Int} (h0 : 0 ≤ i) (h1 : i < n) (hd : dp i = []) : ndsL dp n i = [i] := by
 have hm : ∀ j ∈ ndsL dp n i, j = i := by
  intro j hj
  have := (mem_nds.1 hj).2
  rw [rc_step h h0 h1, hd] at this
  simpa using this
 obtain ⟨d, t, hl, _, _, _, hlt⟩ := nds_cons (dp := dp) h0 h1
 rw [hl] at hm ⊢
 have e := hm d List.mem_cons_self
 subst e
 cases t with
 | nil => rfl
 | cons x t =>
  have := hm x (by simp)
  have := hlt x (by simp)
  omega
def stV (sync : Int → Bool) : Nat → Option Int
 | 0 => none
 | k + 1 => if sync (k : Int) = true then some (k : Int) else stV sync k
theorem stV_is {sync : Int → Bool} : ∀ {k : Nat} {s : Int}, stV sync k = some s → 0 ≤ s ∧ s < k ∧ sync s = true
 | 0, s, h => by cases h
 | k + 1, s, h => by
  rw [stV] at h
  split at h
  ·rename_i hs
   cases h
   exact ⟨Int.natCast_nonneg k, by omega, hs⟩
  ·have := stV_is h
   exact ⟨this.1, by omega, this.2.2⟩
end Go.Proofs.Ytknklchmpohjfaa.Ny
namespace Go.Proofs.Ytknklchmpohjfaa.Gt
open Go.RowKit Go Go.Proofs.YtknklchmpohjfaaW.PrintWords Go.Proofs.YtknklchmpohjfaaW.PrintLast Go.Proofs.YtknklchmpohjfaaW.PrintMore Go.Proofs.Ytknklchmpohjfaa.Mn Go.Proofs.Ytknklchmpohjfaa.E Go.Proofs.Ytknklchmpohjfaa.Tk Go.Proofs.Ytknklchmpohjfaa.Nx Go.Proofs.Ytknklchmpohjfaa.Ny
set_option linter.unusedVariables false
set_option linter.unusedSimpArgs false
def dps (l : List Sm) (i : Int) : List Int := (rd_T51 l i).f4
def syn (l : List Sm) (i : Int) : Bool := (rd_T51 l i).f3
theorem deps_is : ∀ (l : List Int) (i last : Int), -1 ≤ last → depsB i last l = true → ∀ d ∈ l, 0 ≤ d ∧ d < i
 | [], _, _, _, _, d, hd => by cases hd
 | x :: t, i, last, h0, h, d, hd => by
  rw [depsB] at h
  simp only [Bool.and_eq_true, decide_eq_true_eq] at h
  rcases List.mem_cons.1 hd with rfl | hd
  ·omega
  ·exact deps_is t i x (by omega) h.2.2 d hd
theorem smV_dep {i before : Int} {s : Sm} (h : smV i before s = 0) : s.f4.length ≤ 4 ∧ depsB i (-1) s.f4 = true ∧ (s.f3 = true → s.f4 = []) := by
 unfold smV at h
 split at h
 ·split at h
  ·cases h
  ·rename_i hl
   split at h
   ·cases h
   ·split at h
    ·cases h
    ·rename_i hd
     refine ⟨by omega, ?_, fun hs => ?_⟩
     ·cases hb : depsB i (-1) s.f4 with
      | true => rfl
      | false => exact absurd (.inr hb) hd
     ·cases hf : s.f4 with
      | nil => rfl
      | cons x t => exact absurd (.inl ⟨hs, by rw [hf]; simp⟩) hd
 ·cases h
theorem smsV_at : ∀ (l : List Sm) (k : Nat) (before : Int), smsV k before l = 0 → ∀ (j : Nat) (hj : j < l.length), ∃ b, smV ((k + j : Nat) : Int) b l[j] = 0
 | [], _, _, _, j, hj => by simp at hj
 | x :: t, k, before, h, j, hj => by
  rw [smsV] at h
  by_cases h0 : smV k before x = 0
  ·rw [if_pos h0] at h
   cases j with
   | zero => exact ⟨before, h0⟩
   | succ j =>
    obtain ⟨b, hb⟩ := smsV_at t (k + 1) x.f0 h j (by simpa using hj)
    exact ⟨b, by rw [show k + (j + 1) = k + 1 + j by omega]; exact hb⟩
  ·rw [if_neg h0] at h
   exact absurd h h0
theorem rd_get (l : List Sm) {i : Int} (h0 : 0 ≤ i) (h1 : i < (l.length : Int)) : ∃ hn : i.toNat < l.length, rd_T51 l i = l[i.toNat] := by
 have hn : i.toNat < l.length := by omega
 refine ⟨hn, ?_⟩
 unfold rd_T51
 rw [List.getD_eq_getElem?_getD, List.getElem?_eq_getElem hn]
 rfl
theorem at_ok {l : List Sm} (h : smsV 0 0 l = 0) {i : Int} (h0 : 0 ≤ i) (h1 : i < (l.length : Int)) : (dps l i).length ≤ 4 ∧ depsB i (-1) (dps l i) = true ∧ (syn l i = true → dps l i = []) := by
 obtain ⟨hn, hg⟩ := rd_get l h0 h1
 obtain ⟨b, hb⟩ := smsV_at l 0 0 h i.toNat hn
 have hi : ((0 + i.toNat : Nat) : Int) = i := by omega
 rw [hi] at hb
 unfold dps syn
 rw [hg]
 exact smV_dep hb
theorem dn_of {l : List Sm} (h : smsV 0 0 l = 0) : Dn (dps l) (l.length : Int) := fun i h0 h1 => deps_is _ i (-1) (by omega) (at_ok h h0 h1).2.1
theorem chk_smp {id kind : Int} {codec : ByteArray} {scale : Int} {setup : List Int} {lang name : ByteArray} {pr : Int} {edits : List Ed'} {refs : List Rf} {samples : List Sm} (h : chkT id kind codec scale setup lang name pr edits refs samples = 0) : samples.length ≤ 400 ∧ smsV 0 0 samples = 0 := by
 unfold chkT at h
 split at h
 ·split at h
  ·cases h
  ·rename_i hl
   split at h
   ·unfold limB at hl
    simp only [Bool.or_eq_true, decide_eq_true_eq] at hl
    exact ⟨by omega, h⟩
   ·cases h
 ·cases h
end Go.Proofs.Ytknklchmpohjfaa.Gt
namespace Go.Proofs.Ytknklchmpohjfaa.Mp
open Go Go.Maps Go.RowKit
set_option linter.unusedVariables false
set_option linter.unusedSimpArgs false
theorem plainElem_bool_inv {H : Type} {P : Program} {e : TypeId} (he : P.underlying e = some .bool) {v : Value} {z : DataW H × List MemPlace} (h : plainElem P e v = some z) : ∃ x, v = .bool x ∧ z = (.lit (.bool x), []) := by
 unfold plainElem at h
 rw [he] at h
 cases v <;> simp at h
 exact ⟨_, rfl, h.symm⟩
section
variable {P : Program} {k e t : TypeId} {W W' : World} {b n : Nat}
structure SetM {κ : Type} (lit : κ → Lit) (P : Program) (k e : TypeId) (W : World) (b n : Nat) (S : κ → Bool) : Prop where
 h : ∃ D : DataW Unit, W.ownsMap P k (plainElem P e) b n D ∧ ∀ i, D.atKey (lit i) (.lit (.bool false)) = .lit (.bool (S i))
variable {κ : Type} {lit : κ → Lit} {S : κ → Bool}
theorem SetM.made (W : World) : SetM lit P k e (W.alloc (.map #[] 0)) W.heap.size 0 (fun _ => false) :=
 ⟨.map [], World.ownsMap_made W P k _, fun i => rfl⟩
theorem SetM.of (h : SetM lit P k e W b n S) (hb : W'.heap[b]? = W.heap[b]?) : SetM lit P k e W' b n S := by
 obtain ⟨D, ⟨es, clock, hw, F, hs, hD⟩, hat⟩ := h.h
 exact ⟨D, ⟨es, clock, hb.trans hw, F, hs, hD⟩, hat⟩
theorem SetM.lt (h : SetM lit P k e W b n S) : b < W.heap.size := by
 obtain ⟨D, ho, _⟩ := h.h
 exact ho.lt
theorem SetM.mono (h : SetM lit P k e W b n S) {m : Nat} (hm : n ≤ m) : SetM lit P k e W b m S := by
 obtain ⟨D, ho, hat⟩ := h.h
 exact ⟨D, ho.mono hm, hat⟩
theorem SetM.below (h : SetM lit P k e W b n S) (hb : Below W.heap.size W W') : SetM lit P k e W' b n S := h.of (hb.block b h.lt)
theorem SetM.look (h : SetM lit P k e W b n S) (K : Keyed P k) (ht : P.underlying t = some (.map k e)) (he : P.underlying e = some .bool) (hz : (zeroValue e).run P W = .ok (.bool false) W) {key : Value} {i : κ} (hkey : keyOf P k key = some (lit i)) :
  (Instr.lookup t (.map (some b)) key false).run P W = .ok (.bool (S i)) W := by
 obtain ⟨D, ho, hat⟩ := h.h
 obtain ⟨v, ps, hrun, hv⟩ := ho.lookup K ht hz (plainElem_bool he false) hkey
 obtain ⟨x, rfl, hx⟩ := plainElem_bool_inv he hv
 rw [hat i] at hx
 simp only [Prod.mk.injEq, DataW.lit.injEq, Lit.bool.injEq] at hx
 rw [hrun, hx.1]
theorem SetM.put [DecidableEq κ] (h : SetM lit P k e W b n S) (inj : ∀ i j, lit i = lit j → i = j) (K : Keyed P k) (ht : P.underlying t = some (.map k e)) (he : P.underlying e = some .bool) (hn : n < maxLen) {key : Value} {i : κ} (hkey : keyOf P k key = some (lit i)) (hl : WideAt.IsKeyLit (lit i)) :
  ∃ W', (Instr.mapUpdate t (.map (some b)) key (.bool true)).run P W = .ok () W' ∧ SetM lit P k e W' b (n + 1) (fun j => S j || decide (j = i)) ∧ W.grownBy W' (some b) := by
 obtain ⟨D, ho, hat⟩ := h.h
 obtain ⟨W', hrun, ho', hg⟩ := ho.update K ht hn hkey (plainElem_bool he true)
 refine ⟨W', hrun, ⟨_, ho', fun j => ?_⟩, hg⟩
 by_cases hj : j = i
 ·subst hj
  rw [atKey_put_same ho.isMap hl]
  simp
 ·rw [atKey_put_other (fun hh => hj (inj _ _ hh)), hat j]
  simp [hj]
end
end Go.Proofs.Ytknklchmpohjfaa.Mp
namespace Go.Proofs.Ytknklchmpohjfaa.Gb
open Go.Maps Go.RowKit Go Go.Proofs.YtknklchmpohjfaaW.PrintWords Go.Proofs.YtknklchmpohjfaaW.PrintLast Go.Proofs.YtknklchmpohjfaaW.PrintMore Go.Proofs.Ytknklchmpohjfaa.Mn Go.Proofs.Ytknklchmpohjfaa.Nd Go.Proofs.Ytknklchmpohjfaa.Z Go.Proofs.Ytknklchmpohjfaa.E Go.Proofs.Ytknklchmpohjfaa.Tk Go.Proofs.Ytknklchmpohjfaa.Tw Go.Proofs.Ytknklchmpohjfaa.Mp Go.Proofs.Ytknklchmpohjfaa.Nx Go.Proofs.Ytknklchmpohjfaa.Ny Go.Proofs.Ytknklchmpohjfaa.Gt
set_option linter.unusedVariables false
set_option linter.unusedSimpArgs false
def iL (i : Int) : Lit := .int .i64 i
theorem iL_inj (i j : Int) (h : iL i = iL j) : i = j := by
 unfold iL at h
 simpa using h
abbrev SetI (W : World) (b n : Nat) (S : Int → Bool) : Prop := SetM iL Try.prog 3 4 W b n S
theorem lawI : Keyed Try.prog 3 := int_keyed Try.underlying3
theorem zeroB (w : World) : (zeroValue 4).run Try.prog w = .ok (.bool false) w := by kernel_rfl
theorem key_of {i : Int} (h0 : 0 ≤ i) (h1 : i < 1000000) : keyOf Try.prog 3 (.int .i64 i) = some (iL i) := keyOf_int_mk Try.underlying3 (WalkArith.wf_i64 (by omega))
theorem SetI.look {W : World} {b n : Nat} {S : Int → Bool} (h : SetI W b n S) {i : Int} (h0 : 0 ≤ i) (h1 : i < 1000000) : (Instr.lookup 92 (.map (some b)) (.int .i64 i) false).run Try.prog W = .ok (.bool (S i)) W :=
 SetM.look h lawI Try.underlying92 Try.underlying4 (zeroB W) (key_of h0 h1)
theorem SetI.put {W : World} {b n : Nat} {S : Int → Bool} (h : SetI W b n S) {i : Int} (h0 : 0 ≤ i) (h1 : i < 1000000) (hn : n ≤ 1000000) : ∃ W', (Instr.mapUpdate 92 (.map (some b)) (.int .i64 i) (.bool true)).run Try.prog W = .ok () W' ∧ SetI W' b (n + 1) (fun j => S j || decide (j = i)) ∧ W.grownBy W' (some b) :=
 SetM.put h iL_inj lawI Try.underlying92 Try.underlying4 (by unfold maxLen; omega) (key_of h0 h1) trivial
structure Wk (w W : World) (gh gt gw b : Nat) (cs : Array Value) : Prop where
 m : W.heap[gh]? = some (.cells #[.map (some b)] 92 (0, 0))
 t : W.heap[gt]? = some (.cells cs 40 (0, 0))
 f : W.heap[gw]? = some (.cells #[.func (.func 60) #[] #[.pointer (some ⟨gh, 0, none⟩), .pointer (some ⟨gt, 0, none⟩), .pointer (some ⟨gw, 0, none⟩)]] 108 (0, 0))
 hm : gh ≠ b
 ht : gt ≠ b
 hf : gw ≠ b
 hb : w.heap.size ≤ b
 below : Below w.heap.size w W
theorem Wk.grown {w W W2 : World} {gh gt gw b : Nat} {cs : Array Value} (h : Wk w W gh gt gw b cs) (hg : W.grownBy W2 (some b)) : Wk w W2 gh gt gw b cs :=
 ⟨blk_grown h.m hg (fun e => h.hm (Option.some.inj e)), blk_grown h.t hg (fun e => h.ht (Option.some.inj e)), blk_grown h.f hg (fun e => h.hf (Option.some.inj e)), h.hm, h.ht, h.hf, h.hb, h.below.grown hg h.below.size (fun k hk => by cases hk; exact h.hb)⟩
theorem grown_trans {W W1 W2 : World} {r : Option Nat} (h : W.grownBy W1 r) (h2 : W1.grownBy W2 r) : W.grownBy W2 r :=
 ⟨h2.os.trans h.os, h2.tape.trans h.tape, h2.output.trans h.output, Nat.le_trans h.size h2.size, fun i hi hne => (h2.block i (Nat.lt_of_lt_of_le hi h.size) hne).trans (h.block i hi hne)⟩
theorem take_next (l : List Int) {t : Int} (h0 : 0 ≤ t) (h1 : t < (l.length : Int)) : l.take (t + 1).toNat = l.take t.toNat ++ [rd l t] ∧ rd l t ∈ l := by
 have hn : t.toNat < l.length := by omega
 have ht : (t + 1).toNat = t.toNat + 1 := by omega
 have hg : rd l t = l[t.toNat] := by
  unfold rd
  rw [List.getD_eq_getElem?_getD, List.getElem?_eq_getElem hn]
  rfl
 rw [ht, hg, List.take_succ_eq_append_getElem hn]
 exact ⟨rfl, List.getElem_mem hn⟩
section
variable (c0 c1 c2 c3 c4 c5 c6 c7 c8 c9 : Value) (A10 : Option Addr) (c10 : Nat) (samples : List Sm)
set_option maxHeartbeats 8000000 in
set_option maxRecDepth 100000 in
theorem walk_n (w : World) (gh gt gw b : Nat) (hs : smsV 0 0 samples = 0) (hl : samples.length ≤ 400) (hr : Kd.C k51 w A10 samples.length samples) : ∀ (m : Nat) (i : Int), i.toNat < m → 0 ≤ i → i < (samples.length : Int) → ∀ (W : World) (S : Int → Bool), Wk w W gh gt gw b #[c0, c1, c2, c3, c4, c5, c6, c7, c8, c9, .slice A10 samples.length c10] → SetI W b (cnt samples.length S) S → Cld (dps samples) S i →
  Calls Try.prog 60 #[.int .i64 i, .pointer (some ⟨gh, 0, none⟩), .pointer (some ⟨gt, 0, none⟩), .pointer (some ⟨gw, 0, none⟩)] W (fun e W' => e = .returned (.tuple #[]) ∧ SetI W' b (cnt samples.length (fun j => S j || rc (dps samples) i j)) (fun j => S j || rc (dps samples) i j) ∧ W.grownBy W' (some b)) := by
 intro m
 induction m with
 | zero => intro i hi; omega
 | succ m ih =>
  intro i hi h0 h1 W S hW hS hC
  have hE := enters_of Try.func60 (by kernel_rfl) rfl
  have hu := Try.underlying40
  have hu2 := Try.underlying51
  have hu3 := Try.underlying92
  have HS := Aside0.mk hS
  have HW := Aside0.mk hW
  have HI := Aside0.mk (And.intro hi (And.intro h0 (And.intro h1 (And.intro hs hl))))
  have HC := Aside0.mk hC
  have IH := Aside0.mk ih
  have HR := Aside0.mk hr
  have hlk := hS.look h0 (by omega)
  have q0 : W.cell? ⟨gh, 0, none⟩ = some (.map (some b)) := (blk_cell hW.m 0).trans rfl
  obtain ⟨B, hB⟩ : ∃ B : Bool, B = S i := ⟨_, rfl⟩
  rw [← hB] at hlk
  clear hi hs hl hC hS hW ih hr
  cases B with
  | true =>
   have HB := Aside0.mk hB
   clear hB
   go_enter Try.func60, Try.ntmps60
   go_wp2_with fail
   refine bodyPost_ret (results_none rfl _ _ _) rfl ?_
   refine ⟨rfl, ?_, World.grownBy.refl _ _⟩
   rw [cld_hit (dn_of HI.out.2.2.2.1) h0 HC.out HB.out.symm]
   exact HS.out
  | false =>
   obtain ⟨W1, hup, hS1, hg1⟩ := HS.out.put h0 (show i < 1000000 by have := HI.out; omega) (by have := cnt_le samples.length S; have := HI.out; omega)
   have HS1 := Aside0.mk (show SetI W1 b (cnt samples.length (half (dps samples) S i [])) (half (dps samples) S i []) by
    rw [half_nil, cnt_ins h0 h1 hB.symm]
    exact hS1)
   have HW1 := Aside0.mk (HW.out.grown hg1)
   have HG1 := Aside0.mk hg1
   obtain ⟨ad, B4, d4, B5, d5, hA, r0, r1, r2, r3, r4, r5, t4, t5, t6, t7⟩ := at_T51 HR.out i h0 h1
   replace r0 := pw_cell_below HW1.out.below r0
   replace r1 := pw_cell_below HW1.out.below r1
   replace r2 := pw_cell_below HW1.out.below r2
   replace r3 := pw_cell_below HW1.out.below r3
   replace r4 := pw_cell_below HW1.out.below r4
   replace r5 := pw_cell_below HW1.out.below r5
   have q1 : W1.cell? ⟨gt, 10, none⟩ = some (.slice A10 samples.length c10) := (blk_cell HW1.out.t 10).trans rfl
   have HD := Aside0.mk (show dps samples i = (rd_T51 samples i).f4 from rfl)
   have HT := Aside0.mk (And.intro (at_ok HI.out.2.2.2.1 h0 h1).1 t5)
   subst hA
   generalize hX : rd_T51 samples i = X at *
   have p0 := eq_true h0
   have p1 := eq_true h1
   clear hB hS1 hg1 t4 t5 t6 t7 hX HS HW
   go_enter Try.func60, Try.ntmps60
   go_wp2_with fail
   clear hlk hup r0 r1 r2 r3 r4 r5 q0 q1
   go_loopg [19] X.f4.length (fun kq v19 w' => ∃ t : Int, v19 = .int .i64 t ∧ Aside0 (0 ≤ t ∧ t + kq = X.f4.length) ∧ Aside0 (SetI w' b (cnt samples.length (half (dps samples) S i (X.f4.take t.toNat))) (half (dps samples) S i (X.f4.take t.toNat))) ∧ Aside0 (W.grownBy w' (some b)) ∧ Aside0 (W1.grownBy w' (some b)))
   case atStart => exact ⟨0, rfl, ⟨by simp⟩, ⟨by simpa using HS1.out⟩, HG1, ⟨World.grownBy.refl _ _⟩⟩
   case round =>
    obtain ⟨t, rfl, ht, hSt, hGt, hG1t⟩ := hrel
    by_cases hlt : t < (X.f4.length : Int)
    ·have hlb : decide (t < (X.f4.length : Int)) = true := decide_eq_true hlt
     have g0 := ht.out.1
     have hWt := Aside0.mk (HW1.out.grown hG1t.out)
     have HN := Aside0.mk (take_next X.f4 g0 hlt)
     obtain ⟨ad2, e2, x0⟩ := Kd.at_int (Kd.C_below HT.out.2 hWt.out.below) t g0 hlt
     have q2 : wr.cell? ⟨gw, 0, none⟩ = some (.func (.func 60) #[] #[.pointer (some ⟨gh, 0, none⟩), .pointer (some ⟨gt, 0, none⟩), .pointer (some ⟨gw, 0, none⟩)]) := (blk_cell hWt.out.f 0).trans rfl
     subst e2
     have HM := Aside0.mk (show rd X.f4 t ∈ dps samples i by rw [HD.out]; exact HN.out.2)
     have HDn := Aside0.mk (dn_of HI.out.2.2.2.1 i h0 h1 _ HM.out)
     have HX := Aside0.mk (IH.out (rd X.f4 t) (by have := HDn.out; have := HI.out; omega) HDn.out.1 (by have := HDn.out; have := HI.out; omega) wr _ hWt.out hSt.out (half_cld (dn_of HI.out.2.2.2.1) h0 h1 (fun x hx => by rw [HD.out]; exact List.mem_of_mem_take hx) HM.out HC.out))
     obtain ⟨k1, rfl⟩ : ∃ k, gk = k + 1 := ⟨gk - 1, by have := ht.out; omega⟩
     have HY := Aside0.mk (And.intro (show wrap64 (t + 1) = t + 1 by have := HT.out.1; rw [HD.out] at this; have := ht.out; exact w64 (by omega) (by omega)) (show 0 ≤ t + 1 ∧ t + 1 + (k1 : Int) = X.f4.length by have := ht.out; omega))
     generalize hd : rd X.f4 t = d at *
     have Hd := Aside0.mk hd
     have g1 := eq_true hlt
     replace g0 := eq_true g0
     clear hd hlt ht
     go_wp2_with fail
     refine HX.out.mono ?_
     rintro e w2 ⟨rfl, hS2, hg2⟩
     have HS2 := Aside0.mk (show SetI w2 b (cnt samples.length (half (dps samples) S i (X.f4.take (t + 1).toNat))) (half (dps samples) S i (X.f4.take (t + 1).toNat)) by
      rw [HN.out.1, ← half_step]
      exact hS2)
     have HG2 := Aside0.mk (grown_trans hGt.out hg2)
     have HG3 := Aside0.mk (grown_trans hG1t.out hg2)
     clear hS2 hg2 x0 q2
     go_wp2_with fail
     go_roundg k1
     case measure => omega
     case rel => exact ⟨t + 1, by rw [HY.out.1], ⟨HY.out.2⟩, HS2, HG2, HG3⟩
    ·have hlb : decide (t < (X.f4.length : Int)) = false := decide_eq_false hlt
     have HE := Aside0.mk (show half (dps samples) S i (X.f4.take t.toNat) = (fun j => S j || rc (dps samples) i j) by
      rw [List.take_of_length_le (by have := ht.out; omega), ← HD.out]
      exact half_all (dn_of HI.out.2.2.2.1) h0 h1)
     have HS2 := Aside0.mk (show SetI wr b (cnt samples.length (fun j => S j || rc (dps samples) i j)) (fun j => S j || rc (dps samples) i j) by
      rw [← HE.out]
      exact hSt.out)
     replace hlt := eq_false hlt
     clear ht hSt
     go_wp2_with fail
     go_end0
     exact ⟨rfl, HS2.out, hGt.out⟩
end
end Go.Proofs.Ytknklchmpohjfaa.Gb
namespace Go.Proofs.Ytknklchmpohjfaa.Gc
open Go.Maps Go.RowKit Go Go.Proofs.YtknklchmpohjfaaW.PrintWords Go.Proofs.YtknklchmpohjfaaW.PrintLast Go.Proofs.YtknklchmpohjfaaW.PrintMore Go.Proofs.Ytknklchmpohjfaa.Mn Go.Proofs.Ytknklchmpohjfaa.Nd Go.Proofs.Ytknklchmpohjfaa.Z Go.Proofs.Ytknklchmpohjfaa.E Go.Proofs.Ytknklchmpohjfaa.Tk Go.Proofs.Ytknklchmpohjfaa.Tw Go.Proofs.Ytknklchmpohjfaa.Mp Go.Proofs.Ytknklchmpohjfaa.Nx Go.Proofs.Ytknklchmpohjfaa.Ny Go.Proofs.Ytknklchmpohjfaa.Gt Go.Proofs.Ytknklchmpohjfaa.Gb
set_option linter.unusedVariables false
set_option linter.unusedSimpArgs false
def stW (W : World) (gt : Nat) : World := ((W.alloc (.map #[] 0)).alloc (.cells #[.map (some W.heap.size)] 92)).alloc (.cells #[.func (.func 60) #[] #[.pointer (some ⟨W.heap.size + 1, 0, none⟩), .pointer (some ⟨gt, 0, none⟩), .pointer (some ⟨W.heap.size + 1 + 1, 0, none⟩)]] 108)
theorem size_alloc (W : World) (o : Obj) : (W.alloc o).heap.size = W.heap.size + 1 := by unfold World.alloc; exact Array.size_push _
theorem st_wk {w W : World} {gt : Nat} {cs : Array Value} (ht : W.heap[gt]? = some (.cells cs 40 (0, 0))) (hb : Below w.heap.size w W) : Wk w (stW W gt) (W.heap.size + 1) gt (W.heap.size + 1 + 1) W.heap.size cs ∧ SetI (stW W gt) W.heap.size 0 (fun _ => false) := by
 have hgt := blk_lt ht
 have e1 : (W.alloc (.map #[] 0)).heap.size = W.heap.size + 1 := size_alloc _ _
 have e2 : ((W.alloc (.map #[] 0)).alloc (.cells #[.map (some W.heap.size)] 92)).heap.size = W.heap.size + 1 + 1 := by rw [size_alloc, size_alloc]
 refine ⟨⟨?_, blk_alloc (blk_alloc (blk_alloc ht _) _) _, ?_, by omega, by omega, by omega, hb.size, ?_⟩, ?_⟩
 ·refine blk_alloc ?_ _
  rw [← e1]
  exact blk_new _ _
 ·have h3 := blk_new ((W.alloc (.map #[] 0)).alloc (.cells #[.map (some W.heap.size)] 92)) (.cells #[.func (.func 60) #[] #[.pointer (some ⟨W.heap.size + 1, 0, none⟩), .pointer (some ⟨gt, 0, none⟩), .pointer (some ⟨W.heap.size + 1 + 1, 0, none⟩)]] 108)
  rw [e2] at h3
  exact h3
 ·have h1 := hb.alloc hb.size (.map #[] 0)
  have h2 := h1.alloc h1.size (.cells #[.map (some W.heap.size)] 92)
  exact h2.alloc h2.size _
 ·refine (SetM.made W).of ?_
  have h0 : (W.alloc (.map #[] 0)).heap[W.heap.size]? = some (.map #[] 0) := blk_new _ _
  exact (blk_alloc (blk_alloc h0 _) _).trans h0.symm
theorem upto_next {k : Int} (h : 0 ≤ k) (p : Int → Bool) : (upto (k + 1).toNat).filter p = (upto k.toNat).filter p ++ (if p k = true then [k] else []) := by
 have e : (k + 1).toNat = k.toNat + 1 := by omega
 rw [e, upto_succ, List.filter_append, show ((k.toNat : Nat) : Int) = k by omega]
 congr 1
 cases h : p k <;> simp [h]
theorem upto_len (n : Nat) (p : Int → Bool) : ((upto n).filter p).length ≤ n := by
 refine Nat.le_trans (List.length_filter_le _ _) ?_
 simp [upto]
theorem cnt_none (n : Nat) : cnt n (fun _ => false) = 0 := by
 unfold cnt
 simp
section
variable (id kind : Int) (codec : ByteArray) (scale : Int) (A4 : Option Addr) (c4 : Nat) (setup : List Int) (lang name : ByteArray) (pr : Int) (A8 : Option Addr) (c8 : Nat) (edits : List Ed') (A9 : Option Addr) (c9 : Nat) (refs : List Rf) (A10 : Option Addr) (c10 : Nat) (samples : List Sm)
set_option maxHeartbeats 16000000 in
set_option maxRecDepth 100000 in
theorem needs_n (i : Int) (w : World) (hs : smsV 0 0 samples = 0) (hl : samples.length ≤ 400) (h0 : 0 ≤ i) (h1 : i < (samples.length : Int)) (hr : Kd.C k51 w A10 samples.length samples) :
  Calls Try.prog 44 #[.agg #[.int .i64 id, .int .i64 kind, .string codec, .int .i64 scale, .slice A4 setup.length c4, .string lang, .string name, .int .i64 pr, .slice A8 edits.length c8, .slice A9 refs.length c9, .slice A10 samples.length c10], .int .i64 i] w (fun e w' => ∃ v, e = .returned v ∧ Kd.R (Kd.int .i64) 3 w' w.heap.size (fun _ => True) v (ndsL (dps samples) samples.length i) ∧ Below w.heap.size w w') := by
 have hu := Try.underlying40
 have hu3 := Try.underlying92
 have hE := enters_of Try.func60 (by kernel_rfl) rfl
 have hmm := @run_makeMap Try.prog
 have HI := Aside0.mk (And.intro hs (And.intro hl (And.intro h0 h1)))
 have HR := Aside0.mk hr
 clear hs hl h0 h1 hr
 go_enter Try.func44, Try.ntmps44
 go_upto_region 1 with (first | ((with_reducible refine gate_dst (N := 2) rfl ?_); refine zB 2 40 #[.int .i64 id, .int .i64 kind, .string codec, .int .i64 scale, .slice A4 setup.length c4, .string lang, .string name, .int .i64 pr, .slice A8 edits.length c8, .slice A9 refs.length c9, .slice A10 samples.length c10] ?_; intro gb hg W0 hbox hb; have HG := Aside0.mk hg; have HT := Aside0.mk hbox; have HB0 := Aside0.mk hb; clear hbox hb hg))
 have HK := Aside0.mk (st_wk (w := w) HT.out HB0.out)
 unfold stW at HK
 go_upto_region 4 with fail
 generalize World.alloc (World.alloc (World.alloc W0 _) _) _ = W1 at HK ⊢
 generalize W0.heap.size = b at *
 have HT1 := Aside0.mk HK.out.1
 have HC := Aside0.mk (walk_n (.int .i64 id) (.int .i64 kind) (.string codec) (.int .i64 scale) (.slice A4 setup.length c4) (.string lang) (.string name) (.int .i64 pr) (.slice A8 edits.length c8) (.slice A9 refs.length c9) A10 c10 samples w (b + 1) gb (b + 1 + 1) b HI.out.1 HI.out.2.1 HR.out (i.toNat + 1) i (by omega) HI.out.2.2.1 HI.out.2.2.2 W1 (fun _ => false) HT1.out (by rw [cnt_none]; exact HK.out.2) (fun j _ _ h => by cases h))
 have q1 : W1.cell? ⟨b + 1 + 1, 0, none⟩ = some (.func (.func 60) #[] #[.pointer (some ⟨b + 1, 0, none⟩), .pointer (some ⟨gb, 0, none⟩), .pointer (some ⟨b + 1 + 1, 0, none⟩)]) := (blk_cell HT1.out.f 0).trans rfl
 clear HK HT HB0
 go_wp2_with fail
 refine HC.out.mono ?_
 rintro e W2 ⟨rfl, hS2, hg2⟩
 obtain ⟨n, hn⟩ : ∃ n, n = cnt samples.length (fun j => false || rc (dps samples) i j) := ⟨_, rfl⟩
 have hS3 : SetI W2 b n (rc (dps samples) i) := by
  rw [hn]
  simpa only [Bool.false_or] using hS2
 have HS := Aside0.mk hS3
 have HW := Aside0.mk (HT1.out.grown hg2)
 have q10 : W2.cell? ⟨gb, 10, none⟩ = some (.slice A10 samples.length c10) := (blk_cell HW.out.t 10).trans rfl
 clear hS2 hS3 hg2 HT1 HC q1 hn
 go_wp2_with fail
 clear q10
 go_loopg [7, 17] samples.length (fun kq v7 v17 w' => ∃ k : Int, v17 = .int .i64 k ∧ Aside0 (0 ≤ k ∧ k + kq = samples.length) ∧ Aside0 (Kd.R (Kd.int .i64) 3 w' W2.heap.size (fun _ => True) v7 ((upto k.toNat).filter (rc (dps samples) i))) ∧ Aside0 (Below W2.heap.size W2 w'))
 case atStart => exact ⟨0, rfl, ⟨by simp⟩, ⟨Kd.R_nil _ _ _ _ _⟩, ⟨Below.refl _ _⟩⟩
 case round =>
  obtain ⟨k, rfl, hk, HO, HB⟩ := hrel
  by_cases hlt : k < (samples.length : Int)
  ·have hlb : decide (k < (samples.length : Int)) = true := decide_eq_true hlt
   have g0 := hk.out.1
   have hlk := SetI.look (SetM.below HS.out HB.out) g0 (show k < 1000000 by have := HI.out; omega)
   have q0 : wr.cell? ⟨b + 1, 0, none⟩ = some (.map (some b)) := (blk_cell (blk_below HW.out.m HB.out) 0).trans rfl
   obtain ⟨k1, rfl⟩ : ∃ m, gk = m + 1 := ⟨gk - 1, by have := hk.out; omega⟩
   have HY := Aside0.mk (And.intro (show wrap64 (k + 1) = k + 1 by have := HI.out; have := hk.out; exact w64 (by omega) (by omega)) (show 0 ≤ k + 1 ∧ k + 1 + (k1 : Int) = samples.length by have := hk.out; omega))
   have HL := Aside0.mk (show ((upto k.toNat).filter (rc (dps samples) i)).length ≤ 400 by have := upto_len k.toNat (rc (dps samples) i); have := HI.out; omega)
   have HN := Aside0.mk (upto_next g0 (rc (dps samples) i))
   obtain ⟨B, hB⟩ : ∃ B : Bool, B = rc (dps samples) i k := ⟨_, rfl⟩
   rw [← hB] at hlk HN
   generalize (upto k.toNat).filter (rc (dps samples) i) = out at *
   clear hk hlt hB
   cases B with
   | true =>
    go_wp2_with (first | ((with_reducible refine gate_builtin (b := .append) (xs := #[.tmp 23, .tmp 25]) rfl ?_); at_builtin; refine Kd.R_append (Kd.int .i64) (w0 := W2) W2.heap.size rfl (.tmp 23) (.tmp 25) 41 3 (.int .i64 0) 8 rfl Try.underlying41 info3 rfl (by decide) (by omega) u7 out k [.int .i64 k] (fun _ => True) (fun _ => False) rfl rfl ?aP (fun _ hk => hk.elim) ?aF ?aO ?aB ?aS ?aL ?_; (case aP => exact rfl); (case aF => exact (fun _ _ => trivial)); (case aO => exact (rz HO)); (case aB => exact bz); (case aS => exact sz); (case aL => have := HL.out; omega); intro v9 w9 ho hb hg hat; have HO9 := Aside0.mk ho; have HB9 := Aside0.mk hb; clear ho hb hg hat))
    go_roundg k1
    case measure => omega
    case rel => exact ⟨k + 1, by rw [HY.out.1], ⟨HY.out.2⟩, ⟨by rw [HN.out]; exact HO9.out⟩, HB9⟩
   | false =>
    go_wp2_with fail
    go_roundg k1
    case measure => omega
    case rel => exact ⟨k + 1, by rw [HY.out.1], ⟨HY.out.2⟩, ⟨by rw [HN.out]; simpa using HO.out⟩, HB⟩
  ·have hlb : decide (k < (samples.length : Int)) = false := decide_eq_false hlt
   have HE := Aside0.mk (show (upto k.toNat).filter (rc (dps samples) i) = ndsL (dps samples) samples.length i by
    rw [show k.toNat = samples.length by have := hk.out; omega]
    rfl)
   replace hlt := eq_false hlt
   clear hk
   go_wp2_with fail
   go_ret
   exact ⟨_, rfl, Kd.R_lower (HE.out ▸ HO.out) HW.out.below.size, HW.out.below.trans (HB.out.mono HW.out.below.size)⟩
end
end Go.Proofs.Ytknklchmpohjfaa.Gc
namespace Go.Proofs.Ytknklchmpohjfaa.E
open Go.RowKit Go Go.Proofs.YtknklchmpohjfaaW.PrintWords Go.Proofs.YtknklchmpohjfaaW.PrintLast Go.Proofs.YtknklchmpohjfaaW.PrintMore Go.Proofs.Ytknklchmpohjfaa.Tk Go.Proofs.Ytknklchmpohjfaa.Ny Go.Proofs.Ytknklchmpohjfaa.Gt Go.Proofs.Ytknklchmpohjfaa.Gc
set_option linter.unusedVariables false
def ndsOk (l : List Sm) (i : Int) : Bool := decide (smsV 0 0 l = 0) && (decide (l.length ≤ 400) && (decide (0 ≤ i) && decide (i < (l.length : Int))))
def model_needs.f (a0_0 : Int) (a0_1 : Int) (a0_2 : ByteArray) (a0_3 : Int) (l0_4 : List Int) (a0_5 : ByteArray) (a0_6 : ByteArray) (a0_7 : Int) (l0_8 : List (S86)) (l0_9 : List (S68)) (l0_10 : List (S51)) (a1 : Int) : Option (List Int) := if ndsOk l0_10 a1 = true then some (ndsL (dps l0_10) l0_10.length a1) else none
theorem model_needs.calls (a0_0 : Int) (a0_1 : Int) (a0_2 : ByteArray) (a0_3 : Int) (A0_4 : Option Addr) (c0_4 : Nat) (l0_4 : List Int) (a0_5 : ByteArray) (a0_6 : ByteArray) (a0_7 : Int) (A0_8 : Option Addr) (c0_8 : Nat) (l0_8 : List (S86)) (A0_9 : Option Addr) (c0_9 : Nat) (l0_9 : List (S68)) (A0_10 : Option Addr) (c0_10 : Nat) (l0_10 : List (S51)) (a1 : Int) (r : List Int) (w : World) (hr0_4 : Kd.C (Kd.int .u8) w A0_4 l0_4.length l0_4) (hc0_4 : l0_4.length ≤ c0_4) (hr0_8 : Kd.C k86 w A0_8 l0_8.length l0_8) (hc0_8 : l0_8.length ≤ c0_8) (hr0_9 : Kd.C k68 w A0_9 l0_9.length l0_9) (hc0_9 : l0_9.length ≤ c0_9) (hr0_10 : Kd.C k51 w A0_10 l0_10.length l0_10) (hc0_10 : l0_10.length ≤ c0_10) (h : model_needs.f a0_0 a0_1 a0_2 a0_3 l0_4 a0_5 a0_6 a0_7 l0_8 l0_9 l0_10 a1 = some r) :
  Calls Try.prog 44 #[.agg #[.int .i64 a0_0, .int .i64 a0_1, .string a0_2, .int .i64 a0_3, .slice A0_4 l0_4.length c0_4, .string a0_5, .string a0_6, .int .i64 a0_7, .slice A0_8 l0_8.length c0_8, .slice A0_9 l0_9.length c0_9, .slice A0_10 l0_10.length c0_10], .int .i64 a1] w fun e w' => ∃ v0_ : Value, e = .returned (v0_) ∧ Kd.R (Kd.int .i64) 3 w' w.heap.size (fun _ => True) v0_ r ∧ Below w.heap.size w w' := by
 unfold model_needs.f at h
 split at h
 ·rename_i hok
  unfold ndsOk at hok
  simp only [Bool.and_eq_true, decide_eq_true_eq] at hok
  have hV : ndsL (dps l0_10) l0_10.length a1 = r := Option.some.inj h
  have := needs_n a0_0 a0_1 a0_2 a0_3 A0_4 c0_4 l0_4 a0_5 a0_6 a0_7 A0_8 c0_8 l0_8 A0_9 c0_9 l0_9 A0_10 c0_10 l0_10 a1 w hok.1 hok.2.1 hok.2.2.1 hok.2.2.2 hr0_10
  rw [hV] at this
  exact this
 ·cases h
end Go.Proofs.Ytknklchmpohjfaa.E
namespace Go.Proofs.Ytknklchmpohjfaa.E
open Go.Proofs.Ytknklchmpohjfaa.Z Go.RowKit Go.Proofs.YtknklchmpohjfaaW.PrintWords Go.Proofs.YtknklchmpohjfaaW.PrintLast Go.Proofs.YtknklchmpohjfaaW.PrintMore
attribute [local go_sem] max2_int min2_int max_two min_two max_three min_three max_four min_four
set_option linter.unusedVariables false
set_option linter.unusedSimpArgs false
def model_Start.l0 : Nat → Int → Int → Int → ByteArray → Int → List Int → ByteArray → ByteArray → Int → List (S86) → List (S68) → List (S51) → Option (Int × Int)
  | 0, _, _, _, _, _, _, _, _, _, _, _, _ => none
  | k + 1, x7, x164000, x164001, x164002, x164003, x164004, x164005, x164006, x164007, x164008, x164009, x164010 => if x7 ≥ 0 then (if 0 ≤ x7 then (if x7 < (x164010.length : Int) then (if (rd_T51 x164010 x7).f3 = true then (some (x7, 0)) else (model_Start.l0 k (wrap64 (x7 - 1)) x164000 x164001 x164002 x164003 x164004 x164005 x164006 x164007 x164008 x164009 x164010)) else (none)) else (none)) else (some (0, 5))
def model_Start.f (k : Nat) (a0_0 : Int) (a0_1 : Int) (a0_2 : ByteArray) (a0_3 : Int) (l0_4 : List Int) (a0_5 : ByteArray) (a0_6 : ByteArray) (a0_7 : Int) (l0_8 : List (S86)) (l0_9 : List (S68)) (l0_10 : List (S51)) (a1 : Int) : Option (Int × Int) := (model_ready.f a0_0 a0_1 a0_2 a0_3 l0_4 a0_5 a0_6 a0_7 l0_8 l0_9 l0_10 a1).bind fun t164 => (if t164 = 0 then ((model_needs.f a0_0 a0_1 a0_2 a0_3 l0_4 a0_5 a0_6 a0_7 l0_8 l0_9 l0_10 a1).bind fun t165 => (if 0 < (t165.length : Int) then (model_Start.l0 k (rd t165 0) a0_0 a0_1 a0_2 a0_3 l0_4 a0_5 a0_6 a0_7 l0_8 l0_9 l0_10) else (none))) else (some (0, t164)))
set_option maxHeartbeats 8000000 in
set_option maxRecDepth 100000 in
theorem model_Start.calls (k : Nat) (a0_0 : Int) (a0_1 : Int) (a0_2 : ByteArray) (a0_3 : Int) (A0_4 : Option Addr) (c0_4 : Nat) (l0_4 : List Int) (a0_5 : ByteArray) (a0_6 : ByteArray) (a0_7 : Int) (A0_8 : Option Addr) (c0_8 : Nat) (l0_8 : List (S86)) (A0_9 : Option Addr) (c0_9 : Nat) (l0_9 : List (S68)) (A0_10 : Option Addr) (c0_10 : Nat) (l0_10 : List (S51)) (a1 : Int) (r1 : Int) (r2 : Int) (w : World) (hr0_4 : Kd.C (Kd.int .u8) w A0_4 l0_4.length l0_4) (hc0_4 : l0_4.length ≤ c0_4) (hr0_8 : Kd.C k86 w A0_8 l0_8.length l0_8) (hc0_8 : l0_8.length ≤ c0_8) (hr0_9 : Kd.C k68 w A0_9 l0_9.length l0_9) (hc0_9 : l0_9.length ≤ c0_9) (hr0_10 : Kd.C k51 w A0_10 l0_10.length l0_10) (hc0_10 : l0_10.length ≤ c0_10) (h : model_Start.f k a0_0 a0_1 a0_2 a0_3 l0_4 a0_5 a0_6 a0_7 l0_8 l0_9 l0_10 a1 = some (r1, r2)) :
  Calls Try.prog 18 #[.agg #[.int .i64 a0_0, .int .i64 a0_1, .string a0_2, .int .i64 a0_3, .slice A0_4 l0_4.length c0_4, .string a0_5, .string a0_6, .int .i64 a0_7, .slice A0_8 l0_8.length c0_8, .slice A0_9 l0_9.length c0_9, .slice A0_10 l0_10.length c0_10], .int .i64 a1] w fun e w' => e = .returned (.tuple #[.int .i64 r1, .int .i64 r2]) ∧ Below w.heap.size w w' := by
 have hu40 := Try.underlying40; have HR0_4 := Aside0.mk hr0_4; have HC0_4 := Aside0.mk hc0_4; clear hr0_4 hc0_4; have HR0_8 := Aside0.mk hr0_8; have HC0_8 := Aside0.mk hc0_8; clear hr0_8 hc0_8; have HR0_9 := Aside0.mk hr0_9; have HC0_9 := Aside0.mk hc0_9; clear hr0_9 hc0_9; have HR0_10 := Aside0.mk hr0_10; have HC0_10 := Aside0.mk hc0_10; clear hr0_10 hc0_10; have HB := Aside0.mk (Below.refl w.heap.size w); have H : ((model_ready.f a0_0 a0_1 a0_2 a0_3 l0_4 a0_5 a0_6 a0_7 l0_8 l0_9 l0_10 a1).bind fun t164 => (if t164 = 0 then ((model_needs.f a0_0 a0_1 a0_2 a0_3 l0_4 a0_5 a0_6 a0_7 l0_8 l0_9 l0_10 a1).bind fun t165 => (if 0 < (t165.length : Int) then (model_Start.l0 k (rd t165 0) a0_0 a0_1 a0_2 a0_3 l0_4 a0_5 a0_6 a0_7 l0_8 l0_9 l0_10) else (none))) else (some (0, t164)))) = some (r1, r2) := h
 clear h; obtain ⟨t164, A3, H⟩ := ob H
 by_cases c4 : t164 = 0
 ·rw [if_pos c4] at H; have c4b0 : (t164 == 0) = true := beq_iff_eq.mpr c4; have c4b1 : (t164 != 0) = false := bne_eq_false_iff_eq.mpr c4; clear c4; obtain ⟨t165, A5, H⟩ := ob H
  by_cases c6 : 0 < (t165.length : Int)
  ·rw [if_pos c6] at H; have c6b0 : decide (0 < (t165.length : Int)) = true := decide_eq_true c6; have c6b1 : decide (0 < t165.length) = true := decide_eq_true (by omega); clear c6; have H' := Aside0.mk H; clear H
   go_enter Try.func18, Try.ntmps18
   go_wp2_with (first | ((with_reducible refine gate_dst (N := 2) rfl ?_); refine zB 2 40 #[.int .i64 a0_0, .int .i64 a0_1, .string a0_2, .int .i64 a0_3, .slice A0_4 l0_4.length c0_4, .string a0_5, .string a0_6, .int .i64 a0_7, .slice A0_8 l0_8.length c0_8, .slice A0_9 l0_9.length c0_9, .slice A0_10 l0_10.length c0_10] ?_; intro gb163 hg w7 hbox hb; have BK163 := Aside0.mk hbox; have GW163 := gz hg; have GE163 := gz hg; replace HB := bp hb; clear hb hbox hg; have hcz8_0 : w7.cell? ⟨gb163, 0, none⟩ = some (.int .i64 a0_0) := ct BK163 0; have hcz8_1 : w7.cell? ⟨gb163, 1, none⟩ = some (.int .i64 a0_1) := ct BK163 1; have hcz8_2 : w7.cell? ⟨gb163, 2, none⟩ = some (.string a0_2) := ct BK163 2; have hcz8_3 : w7.cell? ⟨gb163, 3, none⟩ = some (.int .i64 a0_3) := ct BK163 3; have hcz8_4 : w7.cell? ⟨gb163, 4, none⟩ = some (.slice A0_4 l0_4.length c0_4) := ct BK163 4; have hcz8_5 : w7.cell? ⟨gb163, 5, none⟩ = some (.string a0_5) := ct BK163 5; have hcz8_6 : w7.cell? ⟨gb163, 6, none⟩ = some (.string a0_6) := ct BK163 6; have hcz8_7 : w7.cell? ⟨gb163, 7, none⟩ = some (.int .i64 a0_7) := ct BK163 7; have hcz8_8 : w7.cell? ⟨gb163, 8, none⟩ = some (.slice A0_8 l0_8.length c0_8) := ct BK163 8; have hcz8_9 : w7.cell? ⟨gb163, 9, none⟩ = some (.slice A0_9 l0_9.length c0_9) := ct BK163 9; have hcz8_10 : w7.cell? ⟨gb163, 10, none⟩ = some (.slice A0_10 l0_10.length c0_10) := ct BK163 10; have hfz8_0 := blk_frozen BK163.out 0; have hfz8_1 := blk_frozen BK163.out 1; have hfz8_2 := blk_frozen BK163.out 2; have hfz8_3 := blk_frozen BK163.out 3; have hfz8_4 := blk_frozen BK163.out 4; have hfz8_5 := blk_frozen BK163.out 5; have hfz8_6 := blk_frozen BK163.out 6; have hfz8_7 := blk_frozen BK163.out 7; have hfz8_8 := blk_frozen BK163.out 8; have hfz8_9 := blk_frozen BK163.out 9; have hfz8_10 := blk_frozen BK163.out 10) | ((with_reducible refine gate_callee (f := 43) rfl ?_); refine zC 10 Try.func43 #[.agg #[.int .i64 a0_0, .int .i64 a0_1, .string a0_2, .int .i64 a0_3, .slice A0_4 l0_4.length c0_4, .string a0_5, .string a0_6, .int .i64 a0_7, .slice A0_8 l0_8.length c0_8, .slice A0_9 l0_9.length c0_9, .slice A0_10 l0_10.length c0_10], .int .i64 a1] ?_; (with_reducible refine (model_ready.calls a0_0 a0_1 a0_2 a0_3 _ _ l0_4 a0_5 a0_6 a0_7 _ _ l0_8 _ _ l0_9 _ _ l0_10 a1 t164 _ ?side1 ?side2 ?side3 ?side4 ?side5 ?side6 ?side7 ?side8 A3.out).mono ?_); (case side1 => exact cz HR0_4); (case side2 => exact HC0_4.out); (case side3 => exact cz HR0_8); (case side4 => exact HC0_8.out); (case side5 => exact cz HR0_9); (case side6 => exact HC0_9.out); (case side7 => exact cz HR0_10); (case side8 => exact HC0_10.out); rintro e w9 ⟨rfl, hb⟩; refine ⟨_, rfl, ?_⟩; replace BK163 := kb BK163 hb; replace HB := bp hb; clear hb; have hcz10_0 : w9.cell? ⟨gb163, 0, none⟩ = some (.int .i64 a0_0) := ct BK163 0; have hcz10_1 : w9.cell? ⟨gb163, 1, none⟩ = some (.int .i64 a0_1) := ct BK163 1; have hcz10_2 : w9.cell? ⟨gb163, 2, none⟩ = some (.string a0_2) := ct BK163 2; have hcz10_3 : w9.cell? ⟨gb163, 3, none⟩ = some (.int .i64 a0_3) := ct BK163 3; have hcz10_4 : w9.cell? ⟨gb163, 4, none⟩ = some (.slice A0_4 l0_4.length c0_4) := ct BK163 4; have hcz10_5 : w9.cell? ⟨gb163, 5, none⟩ = some (.string a0_5) := ct BK163 5; have hcz10_6 : w9.cell? ⟨gb163, 6, none⟩ = some (.string a0_6) := ct BK163 6; have hcz10_7 : w9.cell? ⟨gb163, 7, none⟩ = some (.int .i64 a0_7) := ct BK163 7; have hcz10_8 : w9.cell? ⟨gb163, 8, none⟩ = some (.slice A0_8 l0_8.length c0_8) := ct BK163 8; have hcz10_9 : w9.cell? ⟨gb163, 9, none⟩ = some (.slice A0_9 l0_9.length c0_9) := ct BK163 9; have hcz10_10 : w9.cell? ⟨gb163, 10, none⟩ = some (.slice A0_10 l0_10.length c0_10) := ct BK163 10; have hfz10_0 := blk_frozen BK163.out 0; have hfz10_1 := blk_frozen BK163.out 1; have hfz10_2 := blk_frozen BK163.out 2; have hfz10_3 := blk_frozen BK163.out 3; have hfz10_4 := blk_frozen BK163.out 4; have hfz10_5 := blk_frozen BK163.out 5; have hfz10_6 := blk_frozen BK163.out 6; have hfz10_7 := blk_frozen BK163.out 7; have hfz10_8 := blk_frozen BK163.out 8; have hfz10_9 := blk_frozen BK163.out 9; have hfz10_10 := blk_frozen BK163.out 10) | ((with_reducible refine gate_callee (f := 44) rfl ?_); refine zC 16 Try.func44 #[.agg #[.int .i64 a0_0, .int .i64 a0_1, .string a0_2, .int .i64 a0_3, .slice A0_4 l0_4.length c0_4, .string a0_5, .string a0_6, .int .i64 a0_7, .slice A0_8 l0_8.length c0_8, .slice A0_9 l0_9.length c0_9, .slice A0_10 l0_10.length c0_10], .int .i64 a1] ?_; (with_reducible refine (model_needs.calls a0_0 a0_1 a0_2 a0_3 _ _ l0_4 a0_5 a0_6 a0_7 _ _ l0_8 _ _ l0_9 _ _ l0_10 a1 t165 _ ?side1 ?side2 ?side3 ?side4 ?side5 ?side6 ?side7 ?side8 A5.out).mono ?_); (case side1 => exact cz HR0_4); (case side2 => exact HC0_4.out); (case side3 => exact cz HR0_8); (case side4 => exact HC0_8.out); (case side5 => exact cz HR0_9); (case side6 => exact HC0_9.out); (case side7 => exact cz HR0_10); (case side8 => exact HC0_10.out); rintro e w11 ⟨v166, rfl, ho0, hb⟩; refine ⟨_, rfl, ?_⟩; have HO167 := Aside0.mk (Kd.R_lower ho0 sz); replace BK163 := kb BK163 hb; replace HB := bp hb; clear hb ho0; obtain ⟨Ao12, co12, eo12⟩ := Kd.R_slice HO167.out; subst eo12; have p168 : 0 ≤ (0 : Int) := (by omega); have q168 : 0 < (t165.length : Int) := od; obtain ⟨ad168, e168, hx168_0⟩ := Kd.at_int (Kd.R_reads' HO167.out).2.2 0 p168 q168; cases e168; have qi168 : (0 < t165.length) = True := eq_true (by omega); (try rw [show ((0 : Int)).toNat = 0 from rfl] at hx168_0); (try rw [Addr.add_zero'] at hx168_0); replace p168 := eq_true p168; replace q168 := eq_true q168))
   go_loopg [7] k (fun kq v7 w' => ∃ (x7_1 : Int), v7 = .int .i64 x7_1 ∧ Aside0 (model_Start.l0 kq x7_1 a0_0 a0_1 a0_2 a0_3 l0_4 a0_5 a0_6 a0_7 l0_8 l0_9 l0_10 = some (r1, r2)) ∧ Aside0 (kq ≤ k) ∧ Aside0 (w'.heap[gb163]? = some (.cells #[.int .i64 a0_0, .int .i64 a0_1, .string a0_2, .int .i64 a0_3, (.slice A0_4 l0_4.length c0_4), .string a0_5, .string a0_6, .int .i64 a0_7, (.slice A0_8 l0_8.length c0_8), (.slice A0_9 l0_9.length c0_9), (.slice A0_10 l0_10.length c0_10)] 40 (0, 0))) ∧ Aside0 (Below w.heap.size w w'))
   case atStart => exact ⟨(rd t165 0), jz, H', ⟨Nat.le_refl _⟩, ⟨kz⟩, ⟨bz⟩⟩
   case round =>
    clear H'
    try clear c1
    try clear p1
    try clear q1
    try clear hx1
    try clear qi1
    try clear p2
    try clear c4
    try clear c4b0
    try clear c4b1
    try clear c6
    try clear c6b0
    try clear c6b1
    try clear hcz10_0
    try clear hcz10_1
    try clear hcz10_10
    try clear hcz10_2
    try clear hcz10_3
    try clear hcz10_4
    try clear hcz10_5
    try clear hcz10_6
    try clear hcz10_7
    try clear hcz10_8
    try clear hcz10_9
    try clear hcz8_0
    try clear hcz8_1
    try clear hcz8_10
    try clear hcz8_2
    try clear hcz8_3
    try clear hcz8_4
    try clear hcz8_5
    try clear hcz8_6
    try clear hcz8_7
    try clear hcz8_8
    try clear hcz8_9
    try clear hfz10_0
    try clear hfz10_1
    try clear hfz10_10
    try clear hfz10_2
    try clear hfz10_3
    try clear hfz10_4
    try clear hfz10_5
    try clear hfz10_6
    try clear hfz10_7
    try clear hfz10_8
    try clear hfz10_9
    try clear hfz8_0
    try clear hfz8_1
    try clear hfz8_10
    try clear hfz8_2
    try clear hfz8_3
    try clear hfz8_4
    try clear hfz8_5
    try clear hfz8_6
    try clear hfz8_7
    try clear hfz8_8
    try clear hfz8_9
    try clear hx168_0
    try clear p168
    try clear q168
    obtain ⟨x7_1, rfl, HA, HK1, BK163, HB⟩ := hrel
    cases gk with
    | zero => exact absurd HA.out (by simp [model_Start.l0])
    | succ k1 =>
     have H := HA.out; clear HA; simp only [model_Start.l0] at H
     by_cases c13 : x7_1 ≥ 0
     ·rw [if_pos c13] at H; have c13b0 : decide (0 ≤ x7_1) = true := decide_eq_true c13; clear c13
      by_cases c14 : 0 ≤ x7_1
      ·rw [if_pos c14] at H; have c14b0 : decide (0 ≤ x7_1) = true := decide_eq_true c14; clear c14
       by_cases c15 : x7_1 < (l0_10.length : Int)
       ·rw [if_pos c15] at H; have c15b0 : decide (x7_1 < (l0_10.length : Int)) = true := decide_eq_true c15; clear c15; obtain ⟨bq16, hbq16⟩ : ∃ b_ : Bool, b_ = ((rd_T51 l0_10 x7_1).f3) := ⟨_, rfl⟩; replace H : (if bq16 = true then (some (x7_1, 0)) else (model_Start.l0 k1 (wrap64 (x7_1 - 1)) a0_0 a0_1 a0_2 a0_3 l0_4 a0_5 a0_6 a0_7 l0_8 l0_9 l0_10)) = some (r1, r2) := by rw [← hbq16] at H; exact H
        have Nbq16 := Aside0.mk hbq16; clear hbq16
        by_cases c17 : bq16 = true
        ·subst c17; rw [if_pos rfl] at H; simp only [Option.some.injEq, Prod.mk.injEq] at H; obtain ⟨rfl, rfl⟩ := H; have hcz18_0 : wr.cell? ⟨gb163, 0, none⟩ = some (.int .i64 a0_0) := ct BK163 0; have hcz18_1 : wr.cell? ⟨gb163, 1, none⟩ = some (.int .i64 a0_1) := ct BK163 1; have hcz18_2 : wr.cell? ⟨gb163, 2, none⟩ = some (.string a0_2) := ct BK163 2; have hcz18_3 : wr.cell? ⟨gb163, 3, none⟩ = some (.int .i64 a0_3) := ct BK163 3; have hcz18_4 : wr.cell? ⟨gb163, 4, none⟩ = some (.slice A0_4 l0_4.length c0_4) := ct BK163 4; have hcz18_5 : wr.cell? ⟨gb163, 5, none⟩ = some (.string a0_5) := ct BK163 5; have hcz18_6 : wr.cell? ⟨gb163, 6, none⟩ = some (.string a0_6) := ct BK163 6; have hcz18_7 : wr.cell? ⟨gb163, 7, none⟩ = some (.int .i64 a0_7) := ct BK163 7; have hcz18_8 : wr.cell? ⟨gb163, 8, none⟩ = some (.slice A0_8 l0_8.length c0_8) := ct BK163 8; have hcz18_9 : wr.cell? ⟨gb163, 9, none⟩ = some (.slice A0_9 l0_9.length c0_9) := ct BK163 9; have hcz18_10 : wr.cell? ⟨gb163, 10, none⟩ = some (.slice A0_10 l0_10.length c0_10) := ct BK163 10; have hfz18_0 := blk_frozen BK163.out 0; have hfz18_1 := blk_frozen BK163.out 1; have hfz18_2 := blk_frozen BK163.out 2; have hfz18_3 := blk_frozen BK163.out 3; have hfz18_4 := blk_frozen BK163.out 4; have hfz18_5 := blk_frozen BK163.out 5; have hfz18_6 := blk_frozen BK163.out 6; have hfz18_7 := blk_frozen BK163.out 7; have hfz18_8 := blk_frozen BK163.out 8; have hfz18_9 := blk_frozen BK163.out 9; have hfz18_10 := blk_frozen BK163.out 10; have p169 : 0 ≤ (x7_1 : Int) := od; have q169 : x7_1 < (l0_10.length : Int) := od; obtain ⟨ad169, A169_4, c169_4, A169_5, c169_5, e169, hx169_0, hx169_1, hx169_2, hx169_3, hx169_4, hx169_5, hl169_4, hi169_4, hl169_5, hi169_5⟩ := at_T51 HR0_10.out x7_1 p169 q169
         (try rw [← Nbq16.out] at hx169_3)
         cases e169
         replace hx169_0 := cl HB hx169_0; replace hx169_1 := cl HB hx169_1; replace hx169_2 := cl HB hx169_2; replace hx169_3 := cl HB hx169_3; replace hx169_4 := cl HB hx169_4; replace hx169_5 := cl HB hx169_5; have HR169_4 := Aside0.mk hi169_4; have HC169_4 := Aside0.mk hl169_4; clear hi169_4 hl169_4; have HR169_5 := Aside0.mk hi169_5; have HC169_5 := Aside0.mk hl169_5; clear hi169_5 hl169_5; replace p169 := eq_true p169; replace q169 := eq_true q169
         go_wp2
         go_ret2
         exact ⟨ez, bz⟩
        ·obtain rfl := bf c17; rw [if_neg (show ¬ (false = true) by decide)] at H; have H' := Aside0.mk H; clear H; have hcz19_0 : wr.cell? ⟨gb163, 0, none⟩ = some (.int .i64 a0_0) := ct BK163 0; have hcz19_1 : wr.cell? ⟨gb163, 1, none⟩ = some (.int .i64 a0_1) := ct BK163 1; have hcz19_2 : wr.cell? ⟨gb163, 2, none⟩ = some (.string a0_2) := ct BK163 2; have hcz19_3 : wr.cell? ⟨gb163, 3, none⟩ = some (.int .i64 a0_3) := ct BK163 3; have hcz19_4 : wr.cell? ⟨gb163, 4, none⟩ = some (.slice A0_4 l0_4.length c0_4) := ct BK163 4; have hcz19_5 : wr.cell? ⟨gb163, 5, none⟩ = some (.string a0_5) := ct BK163 5; have hcz19_6 : wr.cell? ⟨gb163, 6, none⟩ = some (.string a0_6) := ct BK163 6; have hcz19_7 : wr.cell? ⟨gb163, 7, none⟩ = some (.int .i64 a0_7) := ct BK163 7; have hcz19_8 : wr.cell? ⟨gb163, 8, none⟩ = some (.slice A0_8 l0_8.length c0_8) := ct BK163 8; have hcz19_9 : wr.cell? ⟨gb163, 9, none⟩ = some (.slice A0_9 l0_9.length c0_9) := ct BK163 9; have hcz19_10 : wr.cell? ⟨gb163, 10, none⟩ = some (.slice A0_10 l0_10.length c0_10) := ct BK163 10; have hfz19_0 := blk_frozen BK163.out 0; have hfz19_1 := blk_frozen BK163.out 1; have hfz19_2 := blk_frozen BK163.out 2; have hfz19_3 := blk_frozen BK163.out 3; have hfz19_4 := blk_frozen BK163.out 4; have hfz19_5 := blk_frozen BK163.out 5; have hfz19_6 := blk_frozen BK163.out 6; have hfz19_7 := blk_frozen BK163.out 7; have hfz19_8 := blk_frozen BK163.out 8; have hfz19_9 := blk_frozen BK163.out 9; have hfz19_10 := blk_frozen BK163.out 10; have p169 : 0 ≤ (x7_1 : Int) := od; have q169 : x7_1 < (l0_10.length : Int) := od; obtain ⟨ad169, A169_4, c169_4, A169_5, c169_5, e169, hx169_0, hx169_1, hx169_2, hx169_3, hx169_4, hx169_5, hl169_4, hi169_4, hl169_5, hi169_5⟩ := at_T51 HR0_10.out x7_1 p169 q169
         (try rw [← Nbq16.out] at hx169_3)
         cases e169
         replace hx169_0 := cl HB hx169_0; replace hx169_1 := cl HB hx169_1; replace hx169_2 := cl HB hx169_2; replace hx169_3 := cl HB hx169_3; replace hx169_4 := cl HB hx169_4; replace hx169_5 := cl HB hx169_5; have HR169_4 := Aside0.mk hi169_4; have HC169_4 := Aside0.mk hl169_4; clear hi169_4 hl169_4; have HR169_5 := Aside0.mk hi169_5; have HC169_5 := Aside0.mk hl169_5; clear hi169_5 hl169_5; replace p169 := eq_true p169; replace q169 := eq_true q169
         go_wp2
         go_roundg k1
         case measure => have := HK1.out; omega
         case rel => exact ⟨(wrap64 (x7_1 - 1)), jz, H', ⟨by have := HK1.out; omega⟩, ⟨kz⟩, ⟨bz⟩⟩
       ·rw [if_neg c15] at H
        exact absurd H (by simp)
      ·rw [if_neg c14] at H
       exact absurd H (by simp)
     ·rw [if_neg c13] at H; have c13b0 : decide (0 ≤ x7_1) = false := decide_eq_false c13; clear c13; simp only [Option.some.injEq, Prod.mk.injEq] at H; obtain ⟨rfl, rfl⟩ := H
      go_wp2
      go_ret2
      exact ⟨ez, bz⟩
  ·rw [if_neg c6] at H
   exact absurd H (by simp)
 ·rw [if_neg c4] at H; have c4b0 : (t164 == 0) = false := beq_eq_false_iff_ne.mpr c4; have c4b1 : (t164 != 0) = true := bne_iff_ne.mpr c4; simp only [Option.some.injEq, Prod.mk.injEq] at H; obtain ⟨rfl, rfl⟩ := H
  go_enter Try.func18, Try.ntmps18
  go_wp2_with (first | ((with_reducible refine gate_dst (N := 2) rfl ?_); refine zB 2 40 #[.int .i64 a0_0, .int .i64 a0_1, .string a0_2, .int .i64 a0_3, .slice A0_4 l0_4.length c0_4, .string a0_5, .string a0_6, .int .i64 a0_7, .slice A0_8 l0_8.length c0_8, .slice A0_9 l0_9.length c0_9, .slice A0_10 l0_10.length c0_10] ?_; intro gb163 hg w20 hbox hb; have BK163 := Aside0.mk hbox; have GW163 := gz hg; have GE163 := gz hg; replace HB := bp hb; clear hb hbox hg; have hcz21_0 : w20.cell? ⟨gb163, 0, none⟩ = some (.int .i64 a0_0) := ct BK163 0; have hcz21_1 : w20.cell? ⟨gb163, 1, none⟩ = some (.int .i64 a0_1) := ct BK163 1; have hcz21_2 : w20.cell? ⟨gb163, 2, none⟩ = some (.string a0_2) := ct BK163 2; have hcz21_3 : w20.cell? ⟨gb163, 3, none⟩ = some (.int .i64 a0_3) := ct BK163 3; have hcz21_4 : w20.cell? ⟨gb163, 4, none⟩ = some (.slice A0_4 l0_4.length c0_4) := ct BK163 4; have hcz21_5 : w20.cell? ⟨gb163, 5, none⟩ = some (.string a0_5) := ct BK163 5; have hcz21_6 : w20.cell? ⟨gb163, 6, none⟩ = some (.string a0_6) := ct BK163 6; have hcz21_7 : w20.cell? ⟨gb163, 7, none⟩ = some (.int .i64 a0_7) := ct BK163 7; have hcz21_8 : w20.cell? ⟨gb163, 8, none⟩ = some (.slice A0_8 l0_8.length c0_8) := ct BK163 8; have hcz21_9 : w20.cell? ⟨gb163, 9, none⟩ = some (.slice A0_9 l0_9.length c0_9) := ct BK163 9; have hcz21_10 : w20.cell? ⟨gb163, 10, none⟩ = some (.slice A0_10 l0_10.length c0_10) := ct BK163 10; have hfz21_0 := blk_frozen BK163.out 0; have hfz21_1 := blk_frozen BK163.out 1; have hfz21_2 := blk_frozen BK163.out 2; have hfz21_3 := blk_frozen BK163.out 3; have hfz21_4 := blk_frozen BK163.out 4; have hfz21_5 := blk_frozen BK163.out 5; have hfz21_6 := blk_frozen BK163.out 6; have hfz21_7 := blk_frozen BK163.out 7; have hfz21_8 := blk_frozen BK163.out 8; have hfz21_9 := blk_frozen BK163.out 9; have hfz21_10 := blk_frozen BK163.out 10) | ((with_reducible refine gate_callee (f := 43) rfl ?_); refine zC 10 Try.func43 #[.agg #[.int .i64 a0_0, .int .i64 a0_1, .string a0_2, .int .i64 a0_3, .slice A0_4 l0_4.length c0_4, .string a0_5, .string a0_6, .int .i64 a0_7, .slice A0_8 l0_8.length c0_8, .slice A0_9 l0_9.length c0_9, .slice A0_10 l0_10.length c0_10], .int .i64 a1] ?_; (with_reducible refine (model_ready.calls a0_0 a0_1 a0_2 a0_3 _ _ l0_4 a0_5 a0_6 a0_7 _ _ l0_8 _ _ l0_9 _ _ l0_10 a1 t164 _ ?side1 ?side2 ?side3 ?side4 ?side5 ?side6 ?side7 ?side8 A3.out).mono ?_); (case side1 => exact cz HR0_4); (case side2 => exact HC0_4.out); (case side3 => exact cz HR0_8); (case side4 => exact HC0_8.out); (case side5 => exact cz HR0_9); (case side6 => exact HC0_9.out); (case side7 => exact cz HR0_10); (case side8 => exact HC0_10.out); rintro e w22 ⟨rfl, hb⟩; refine ⟨_, rfl, ?_⟩; replace BK163 := kb BK163 hb; replace HB := bp hb; clear hb))
  go_ret2
  exact ⟨ez, bz⟩
def model_Needs.f (a0_0 : Int) (a0_1 : Int) (a0_2 : ByteArray) (a0_3 : Int) (l0_4 : List Int) (a0_5 : ByteArray) (a0_6 : ByteArray) (a0_7 : Int) (l0_8 : List (S86)) (l0_9 : List (S68)) (l0_10 : List (S51)) (a1 : Int) : Option (List Int × Int) := (model_ready.f a0_0 a0_1 a0_2 a0_3 l0_4 a0_5 a0_6 a0_7 l0_8 l0_9 l0_10 a1).bind fun t110 => (if t110 = 0 then ((model_needs.f a0_0 a0_1 a0_2 a0_3 l0_4 a0_5 a0_6 a0_7 l0_8 l0_9 l0_10 a1).bind fun t111 => (some (t111, 0))) else (some (([] : List Int), t110)))
set_option maxHeartbeats 8000000 in
set_option maxRecDepth 100000 in
theorem model_Needs.calls (a0_0 : Int) (a0_1 : Int) (a0_2 : ByteArray) (a0_3 : Int) (A0_4 : Option Addr) (c0_4 : Nat) (l0_4 : List Int) (a0_5 : ByteArray) (a0_6 : ByteArray) (a0_7 : Int) (A0_8 : Option Addr) (c0_8 : Nat) (l0_8 : List (S86)) (A0_9 : Option Addr) (c0_9 : Nat) (l0_9 : List (S68)) (A0_10 : Option Addr) (c0_10 : Nat) (l0_10 : List (S51)) (a1 : Int) (r1 : List Int) (r2 : Int) (w : World) (hr0_4 : Kd.C (Kd.int .u8) w A0_4 l0_4.length l0_4) (hc0_4 : l0_4.length ≤ c0_4) (hr0_8 : Kd.C k86 w A0_8 l0_8.length l0_8) (hc0_8 : l0_8.length ≤ c0_8) (hr0_9 : Kd.C k68 w A0_9 l0_9.length l0_9) (hc0_9 : l0_9.length ≤ c0_9) (hr0_10 : Kd.C k51 w A0_10 l0_10.length l0_10) (hc0_10 : l0_10.length ≤ c0_10) (h : model_Needs.f a0_0 a0_1 a0_2 a0_3 l0_4 a0_5 a0_6 a0_7 l0_8 l0_9 l0_10 a1 = some (r1, r2)) :
  Calls Try.prog 16 #[.agg #[.int .i64 a0_0, .int .i64 a0_1, .string a0_2, .int .i64 a0_3, .slice A0_4 l0_4.length c0_4, .string a0_5, .string a0_6, .int .i64 a0_7, .slice A0_8 l0_8.length c0_8, .slice A0_9 l0_9.length c0_9, .slice A0_10 l0_10.length c0_10], .int .i64 a1] w fun e w' => ∃ v0_ : Value, e = .returned (.tuple #[v0_, .int .i64 r2]) ∧ Kd.R (Kd.int .i64) 3 w' w.heap.size (fun _ => True) v0_ r1 ∧ Below w.heap.size w w' := by
 have hu40 := Try.underlying40; have HR0_4 := Aside0.mk hr0_4; have HC0_4 := Aside0.mk hc0_4; clear hr0_4 hc0_4; have HR0_8 := Aside0.mk hr0_8; have HC0_8 := Aside0.mk hc0_8; clear hr0_8 hc0_8; have HR0_9 := Aside0.mk hr0_9; have HC0_9 := Aside0.mk hc0_9; clear hr0_9 hc0_9; have HR0_10 := Aside0.mk hr0_10; have HC0_10 := Aside0.mk hc0_10; clear hr0_10 hc0_10; have HB := Aside0.mk (Below.refl w.heap.size w); have H : ((model_ready.f a0_0 a0_1 a0_2 a0_3 l0_4 a0_5 a0_6 a0_7 l0_8 l0_9 l0_10 a1).bind fun t110 => (if t110 = 0 then ((model_needs.f a0_0 a0_1 a0_2 a0_3 l0_4 a0_5 a0_6 a0_7 l0_8 l0_9 l0_10 a1).bind fun t111 => (some (t111, 0))) else (some (([] : List Int), t110)))) = some (r1, r2) := h
 clear h; obtain ⟨t110, A3, H⟩ := ob H
 by_cases c4 : t110 = 0
 ·rw [if_pos c4] at H; have c4b0 : (t110 == 0) = true := beq_iff_eq.mpr c4; have c4b1 : (t110 != 0) = false := bne_eq_false_iff_eq.mpr c4; clear c4; obtain ⟨t111, A5, H⟩ := ob H; simp only [Option.some.injEq, Prod.mk.injEq] at H; obtain ⟨rfl, rfl⟩ := H
  go_enter Try.func16, Try.ntmps16
  go_wp2_with (first | ((with_reducible refine gate_dst (N := 2) rfl ?_); refine zB 2 40 #[.int .i64 a0_0, .int .i64 a0_1, .string a0_2, .int .i64 a0_3, .slice A0_4 l0_4.length c0_4, .string a0_5, .string a0_6, .int .i64 a0_7, .slice A0_8 l0_8.length c0_8, .slice A0_9 l0_9.length c0_9, .slice A0_10 l0_10.length c0_10] ?_; intro gb109 hg w6 hbox hb; have BK109 := Aside0.mk hbox; have GW109 := gz hg; have GE109 := gz hg; replace HB := bp hb; clear hb hbox hg; have hcz7_0 : w6.cell? ⟨gb109, 0, none⟩ = some (.int .i64 a0_0) := ct BK109 0; have hcz7_1 : w6.cell? ⟨gb109, 1, none⟩ = some (.int .i64 a0_1) := ct BK109 1; have hcz7_2 : w6.cell? ⟨gb109, 2, none⟩ = some (.string a0_2) := ct BK109 2; have hcz7_3 : w6.cell? ⟨gb109, 3, none⟩ = some (.int .i64 a0_3) := ct BK109 3; have hcz7_4 : w6.cell? ⟨gb109, 4, none⟩ = some (.slice A0_4 l0_4.length c0_4) := ct BK109 4; have hcz7_5 : w6.cell? ⟨gb109, 5, none⟩ = some (.string a0_5) := ct BK109 5; have hcz7_6 : w6.cell? ⟨gb109, 6, none⟩ = some (.string a0_6) := ct BK109 6; have hcz7_7 : w6.cell? ⟨gb109, 7, none⟩ = some (.int .i64 a0_7) := ct BK109 7; have hcz7_8 : w6.cell? ⟨gb109, 8, none⟩ = some (.slice A0_8 l0_8.length c0_8) := ct BK109 8; have hcz7_9 : w6.cell? ⟨gb109, 9, none⟩ = some (.slice A0_9 l0_9.length c0_9) := ct BK109 9; have hcz7_10 : w6.cell? ⟨gb109, 10, none⟩ = some (.slice A0_10 l0_10.length c0_10) := ct BK109 10; have hfz7_0 := blk_frozen BK109.out 0; have hfz7_1 := blk_frozen BK109.out 1; have hfz7_2 := blk_frozen BK109.out 2; have hfz7_3 := blk_frozen BK109.out 3; have hfz7_4 := blk_frozen BK109.out 4; have hfz7_5 := blk_frozen BK109.out 5; have hfz7_6 := blk_frozen BK109.out 6; have hfz7_7 := blk_frozen BK109.out 7; have hfz7_8 := blk_frozen BK109.out 8; have hfz7_9 := blk_frozen BK109.out 9; have hfz7_10 := blk_frozen BK109.out 10) | ((with_reducible refine gate_callee (f := 43) rfl ?_); refine zC 9 Try.func43 #[.agg #[.int .i64 a0_0, .int .i64 a0_1, .string a0_2, .int .i64 a0_3, .slice A0_4 l0_4.length c0_4, .string a0_5, .string a0_6, .int .i64 a0_7, .slice A0_8 l0_8.length c0_8, .slice A0_9 l0_9.length c0_9, .slice A0_10 l0_10.length c0_10], .int .i64 a1] ?_; (with_reducible refine (model_ready.calls a0_0 a0_1 a0_2 a0_3 _ _ l0_4 a0_5 a0_6 a0_7 _ _ l0_8 _ _ l0_9 _ _ l0_10 a1 t110 _ ?side1 ?side2 ?side3 ?side4 ?side5 ?side6 ?side7 ?side8 A3.out).mono ?_); (case side1 => exact cz HR0_4); (case side2 => exact HC0_4.out); (case side3 => exact cz HR0_8); (case side4 => exact HC0_8.out); (case side5 => exact cz HR0_9); (case side6 => exact HC0_9.out); (case side7 => exact cz HR0_10); (case side8 => exact HC0_10.out); rintro e w8 ⟨rfl, hb⟩; refine ⟨_, rfl, ?_⟩; replace BK109 := kb BK109 hb; replace HB := bp hb; clear hb; have hcz9_0 : w8.cell? ⟨gb109, 0, none⟩ = some (.int .i64 a0_0) := ct BK109 0; have hcz9_1 : w8.cell? ⟨gb109, 1, none⟩ = some (.int .i64 a0_1) := ct BK109 1; have hcz9_2 : w8.cell? ⟨gb109, 2, none⟩ = some (.string a0_2) := ct BK109 2; have hcz9_3 : w8.cell? ⟨gb109, 3, none⟩ = some (.int .i64 a0_3) := ct BK109 3; have hcz9_4 : w8.cell? ⟨gb109, 4, none⟩ = some (.slice A0_4 l0_4.length c0_4) := ct BK109 4; have hcz9_5 : w8.cell? ⟨gb109, 5, none⟩ = some (.string a0_5) := ct BK109 5; have hcz9_6 : w8.cell? ⟨gb109, 6, none⟩ = some (.string a0_6) := ct BK109 6; have hcz9_7 : w8.cell? ⟨gb109, 7, none⟩ = some (.int .i64 a0_7) := ct BK109 7; have hcz9_8 : w8.cell? ⟨gb109, 8, none⟩ = some (.slice A0_8 l0_8.length c0_8) := ct BK109 8; have hcz9_9 : w8.cell? ⟨gb109, 9, none⟩ = some (.slice A0_9 l0_9.length c0_9) := ct BK109 9; have hcz9_10 : w8.cell? ⟨gb109, 10, none⟩ = some (.slice A0_10 l0_10.length c0_10) := ct BK109 10; have hfz9_0 := blk_frozen BK109.out 0; have hfz9_1 := blk_frozen BK109.out 1; have hfz9_2 := blk_frozen BK109.out 2; have hfz9_3 := blk_frozen BK109.out 3; have hfz9_4 := blk_frozen BK109.out 4; have hfz9_5 := blk_frozen BK109.out 5; have hfz9_6 := blk_frozen BK109.out 6; have hfz9_7 := blk_frozen BK109.out 7; have hfz9_8 := blk_frozen BK109.out 8; have hfz9_9 := blk_frozen BK109.out 9; have hfz9_10 := blk_frozen BK109.out 10) | ((with_reducible refine gate_callee (f := 44) rfl ?_); refine zC 15 Try.func44 #[.agg #[.int .i64 a0_0, .int .i64 a0_1, .string a0_2, .int .i64 a0_3, .slice A0_4 l0_4.length c0_4, .string a0_5, .string a0_6, .int .i64 a0_7, .slice A0_8 l0_8.length c0_8, .slice A0_9 l0_9.length c0_9, .slice A0_10 l0_10.length c0_10], .int .i64 a1] ?_; (with_reducible refine (model_needs.calls a0_0 a0_1 a0_2 a0_3 _ _ l0_4 a0_5 a0_6 a0_7 _ _ l0_8 _ _ l0_9 _ _ l0_10 a1 t111 _ ?side1 ?side2 ?side3 ?side4 ?side5 ?side6 ?side7 ?side8 A5.out).mono ?_); (case side1 => exact cz HR0_4); (case side2 => exact HC0_4.out); (case side3 => exact cz HR0_8); (case side4 => exact HC0_8.out); (case side5 => exact cz HR0_9); (case side6 => exact HC0_9.out); (case side7 => exact cz HR0_10); (case side8 => exact HC0_10.out); rintro e w10 ⟨v112, rfl, ho0, hb⟩; refine ⟨_, rfl, ?_⟩; have HO113 := Aside0.mk (Kd.R_lower ho0 sz); replace BK109 := kb BK109 hb; replace HB := bp hb; clear hb ho0))
  go_ret2
  exact ⟨_, ez, by (with_reducible repeat (first | apply Kd.R_alloc | apply Kd.R_drewN | apply Kd.R_drew)); exact HO113.out, bz⟩
 ·rw [if_neg c4] at H; have c4b0 : (t110 == 0) = false := beq_eq_false_iff_ne.mpr c4; have c4b1 : (t110 != 0) = true := bne_iff_ne.mpr c4; simp only [Option.some.injEq, Prod.mk.injEq] at H; obtain ⟨rfl, rfl⟩ := H
  go_enter Try.func16, Try.ntmps16
  go_wp2_with (first | ((with_reducible refine gate_dst (N := 2) rfl ?_); refine zB 2 40 #[.int .i64 a0_0, .int .i64 a0_1, .string a0_2, .int .i64 a0_3, .slice A0_4 l0_4.length c0_4, .string a0_5, .string a0_6, .int .i64 a0_7, .slice A0_8 l0_8.length c0_8, .slice A0_9 l0_9.length c0_9, .slice A0_10 l0_10.length c0_10] ?_; intro gb109 hg w11 hbox hb; have BK109 := Aside0.mk hbox; have GW109 := gz hg; have GE109 := gz hg; replace HB := bp hb; clear hb hbox hg; have hcz12_0 : w11.cell? ⟨gb109, 0, none⟩ = some (.int .i64 a0_0) := ct BK109 0; have hcz12_1 : w11.cell? ⟨gb109, 1, none⟩ = some (.int .i64 a0_1) := ct BK109 1; have hcz12_2 : w11.cell? ⟨gb109, 2, none⟩ = some (.string a0_2) := ct BK109 2; have hcz12_3 : w11.cell? ⟨gb109, 3, none⟩ = some (.int .i64 a0_3) := ct BK109 3; have hcz12_4 : w11.cell? ⟨gb109, 4, none⟩ = some (.slice A0_4 l0_4.length c0_4) := ct BK109 4; have hcz12_5 : w11.cell? ⟨gb109, 5, none⟩ = some (.string a0_5) := ct BK109 5; have hcz12_6 : w11.cell? ⟨gb109, 6, none⟩ = some (.string a0_6) := ct BK109 6; have hcz12_7 : w11.cell? ⟨gb109, 7, none⟩ = some (.int .i64 a0_7) := ct BK109 7; have hcz12_8 : w11.cell? ⟨gb109, 8, none⟩ = some (.slice A0_8 l0_8.length c0_8) := ct BK109 8; have hcz12_9 : w11.cell? ⟨gb109, 9, none⟩ = some (.slice A0_9 l0_9.length c0_9) := ct BK109 9; have hcz12_10 : w11.cell? ⟨gb109, 10, none⟩ = some (.slice A0_10 l0_10.length c0_10) := ct BK109 10; have hfz12_0 := blk_frozen BK109.out 0; have hfz12_1 := blk_frozen BK109.out 1; have hfz12_2 := blk_frozen BK109.out 2; have hfz12_3 := blk_frozen BK109.out 3; have hfz12_4 := blk_frozen BK109.out 4; have hfz12_5 := blk_frozen BK109.out 5; have hfz12_6 := blk_frozen BK109.out 6; have hfz12_7 := blk_frozen BK109.out 7; have hfz12_8 := blk_frozen BK109.out 8; have hfz12_9 := blk_frozen BK109.out 9; have hfz12_10 := blk_frozen BK109.out 10) | ((with_reducible refine gate_callee (f := 43) rfl ?_); refine zC 9 Try.func43 #[.agg #[.int .i64 a0_0, .int .i64 a0_1, .string a0_2, .int .i64 a0_3, .slice A0_4 l0_4.length c0_4, .string a0_5, .string a0_6, .int .i64 a0_7, .slice A0_8 l0_8.length c0_8, .slice A0_9 l0_9.length c0_9, .slice A0_10 l0_10.length c0_10], .int .i64 a1] ?_; (with_reducible refine (model_ready.calls a0_0 a0_1 a0_2 a0_3 _ _ l0_4 a0_5 a0_6 a0_7 _ _ l0_8 _ _ l0_9 _ _ l0_10 a1 t110 _ ?side1 ?side2 ?side3 ?side4 ?side5 ?side6 ?side7 ?side8 A3.out).mono ?_); (case side1 => exact cz HR0_4); (case side2 => exact HC0_4.out); (case side3 => exact cz HR0_8); (case side4 => exact HC0_8.out); (case side5 => exact cz HR0_9); (case side6 => exact HC0_9.out); (case side7 => exact cz HR0_10); (case side8 => exact HC0_10.out); rintro e w13 ⟨rfl, hb⟩; refine ⟨_, rfl, ?_⟩; replace BK109 := kb BK109 hb; replace HB := bp hb; clear hb))
  go_ret2
  exact ⟨_, ez, by first | exact Kd.R_nil _ _ _ _ _ | exact Kd.N_nil _ _ _ _ _ | exact Kd.V_nil _ _ _ _ _ | exact Kd.Q_nil _ _ _ _ _ | exact Kd.S_nil _ _ _ _ _, bz⟩
end Go.Proofs.Ytknklchmpohjfaa.E
namespace Go.Proofs.Ytknklchmpohjfaa.Gs
open Go.RowKit Go Go.Proofs.YtknklchmpohjfaaW.PrintWords Go.Proofs.YtknklchmpohjfaaW.PrintLast Go.Proofs.YtknklchmpohjfaaW.PrintMore Go.Proofs.Ytknklchmpohjfaa.Mn Go.Proofs.Ytknklchmpohjfaa.Nd Go.Proofs.Ytknklchmpohjfaa.Z Go.Proofs.Ytknklchmpohjfaa.E Go.Proofs.Ytknklchmpohjfaa.Tk Go.Proofs.Ytknklchmpohjfaa.Tw
set_option linter.unusedVariables false
set_option linter.unusedSimpArgs false
abbrev Tr' := S40
def szL : List Sm → Int → Int
 | [], s => s
 | x :: l, s => szL l (wrap64 (wrap64 (s + (x.f5.length : Int)) + (x.f4.length : Int)))
def bigT (T : Tr') : Prop := 30 < T.f8.length ∨ 20 < T.f9.length ∨ 1200 < T.f4.length ∨ 100 < T.f6.size
instance (T : Tr') : Decidable (bigT T) := by unfold bigT; infer_instance
def trV : List Tr' → Int → Int → Option (Int × Int)
 | [], n, s => some (n, s)
 | T :: l, n, s => if bigT T then none else trV l (wrap64 (n + (T.f10.length : Int))) (szL T.f10 s)
def smlV (ts : List Tr') (n : Int) : Bool := match trV ts 0 0 with
 | none => false
 | some p => decide (p.1 ≤ n) && (decide (p.2 ≤ 1048576) && decide (ts.length ≤ 12))
theorem tr_drop {ts : List Tr'} {i a s : Int} (h0 : 0 ≤ i) (h1 : i < (ts.length : Int)) : trV (ts.drop i.toNat) a s = if bigT (rd_T40 ts i) then none else trV (ts.drop (i + 1).toNat) (wrap64 (a + ((rd_T40 ts i).f10.length : Int))) (szL (rd_T40 ts i).f10 s) := by
 have hn : i.toNat < ts.length := by omega
 have hi : (i + 1).toNat = i.toNat + 1 := by omega
 have hg : rd_T40 ts i = ts[i.toNat] := by
  unfold rd_T40
  rw [List.getD_eq_getElem?_getD, List.getElem?_eq_getElem hn]
  rfl
 rw [hi, hg, List.drop_eq_getElem_cons hn, trV]
theorem sz_drop {l : List Sm} {i s : Int} (h0 : 0 ≤ i) (h1 : i < (l.length : Int)) : szL (l.drop i.toNat) s = szL (l.drop (i + 1).toNat) (wrap64 (wrap64 (s + ((rd_T51 l i).f5.length : Int)) + ((rd_T51 l i).f4.length : Int))) := by
 have hn : i.toNat < l.length := by omega
 have hi : (i + 1).toNat = i.toNat + 1 := by omega
 have hg : rd_T51 l i = l[i.toNat] := by
  unfold rd_T51
  rw [List.getD_eq_getElem?_getD, List.getElem?_eq_getElem hn]
  rfl
 rw [hi, hg, List.drop_eq_getElem_cons hn, szL]
set_option maxHeartbeats 16000000 in
set_option maxRecDepth 100000 in
theorem small_n (ts : List Tr') (A2 : Option Addr) (c2 : Nat) (n : Int) (w : World) (hr : Kd.C k40 w A2 ts.length ts) :
  Calls Try.prog 8 #[.agg #[.int .i64 0, .string (⟨#[]⟩ : ByteArray), .slice A2 ts.length c2, .slice none 0 0, .slice none 0 0, .slice none 0 0], .int .i64 n] w (ValP w (.bool (smlV ts n))) := by
 have hu := Try.underlying27
 have hu2 := Try.underlying40
 have hu3 := Try.underlying51
 have HR := Aside0.mk hr
 have HL := Aside0.mk hr.2.1
 have HV := Aside0.mk (show smlV ts n = match trV ts 0 0 with
  | none => false
  | some p => decide (p.1 ≤ n) && (decide (p.2 ≤ 1048576) && decide (ts.length ≤ 12)) from rfl)
 generalize smlV ts n = V at *
 clear hr
 go_enter Try.func8, Try.ntmps8
 go_wp2_with (first | ((with_reducible refine gate_dst (N := 2) rfl ?_); refine zB 2 27 #[.int .i64 0, .string (⟨#[]⟩ : ByteArray), .slice A2 ts.length c2, .slice none 0 0, .slice none 0 0, .slice none 0 0] ?_; intro gb hg W0 hbox hb; have HG := Aside0.mk hg; have HM0 := Aside0.mk hbox; have HB0 := Aside0.mk hb; clear hbox hb hg))
 go_loopg [5, 6, 7] ts.length (fun kq v5 v6 v7 w' => ∃ a s i : Int, v5 = .int .i64 a ∧ v6 = .int .i64 s ∧ v7 = .int .i64 i ∧ Aside0 (0 ≤ i ∧ i + kq = ts.length ∧ trV ts 0 0 = trV (ts.drop i.toNat) a s) ∧ Aside0 (w'.heap[gb]? = some (.cells #[.int .i64 0, .string (⟨#[]⟩ : ByteArray), .slice A2 ts.length c2, .slice none 0 0, .slice none 0 0, .slice none 0 0] 27 (0, 0))) ∧ Aside0 (Below w.heap.size w w'))
 case atStart => exact ⟨0, 0, 0, rfl, rfl, rfl, ⟨by simp, by simp, by simp⟩, HM0, HB0⟩
 case round =>
  clear HM0 HB0
  obtain ⟨a, s, i, rfl, rfl, rfl, hi, HM, HB⟩ := hrel
  have m2 : wr.cell? ⟨gb, 2, none⟩ = some (.slice A2 ts.length c2) := (blk_cell HM.out 2).trans rfl
  by_cases hlt : i < (ts.length : Int)
  ·have hlb : decide (i < (ts.length : Int)) = true := decide_eq_true hlt
   have p0 := hi.out.1
   obtain ⟨ad, A4, c4, A8, c8, A9, c9, A10, c10, hA, r0, r1, r2, r3, r4, r5, r6, r7, r8, r9, r10, t4, k4, t8, k8, t9, k9, t10, k10⟩ := at_T40 (Kd.C_below HR.out HB.out) i p0 hlt
   have HD := Aside0.mk (tr_drop (a := a) (s := s) p0 hlt)
   obtain ⟨k1, rfl⟩ : ∃ m, gk = m + 1 := ⟨gk - 1, by have := hi.out; omega⟩
   have HY := Aside0.mk (And.intro (show wrap64 (i + 1) = i + 1 by have := HL.out; exact w64 (by omega) (by omega)) (show 0 ≤ i + 1 ∧ i + 1 + (k1 : Int) = ts.length by have := hi.out; omega))
   have HI := Aside0.mk hi.out.2.2
   subst hA
   generalize rd_T40 ts i = T at *
   have HK := Aside0.mk k10
   replace p0 := eq_true p0
   replace hlt := eq_true hlt
   clear hi t4 k4 t8 k8 t9 k9 t10 k10
   go_upto_region 6 with fail
   have HM1 := Aside0.mk (blk_alloc HM.out (.cells #[.int .i64 T.f0, .int .i64 T.f1, .string T.f2, .int .i64 T.f3, .slice A4 T.f4.length c4, .string T.f5, .string T.f6, .int .i64 T.f7, .slice A8 T.f8.length c8, .slice A9 T.f9.length c9, .slice A10 T.f10.length c10] 40 (0, 0)))
   have HE1 := Aside0.mk (blk_new wr (.cells #[.int .i64 T.f0, .int .i64 T.f1, .string T.f2, .int .i64 T.f3, .slice A4 T.f4.length c4, .string T.f5, .string T.f6, .int .i64 T.f7, .slice A8 T.f8.length c8, .slice A9 T.f9.length c9, .slice A10 T.f10.length c10] 40 (0, 0)))
   have HB1 := Aside0.mk (below_alloc HB.out (.cells #[.int .i64 T.f0, .int .i64 T.f1, .string T.f2, .int .i64 T.f3, .slice A4 T.f4.length c4, .string T.f5, .string T.f6, .int .i64 T.f7, .slice A8 T.f8.length c8, .slice A9 T.f9.length c9, .slice A10 T.f10.length c10] 40 (0, 0)))
   have HK1 := Aside0.mk (Kd.C_below HK.out (below_alloc (Below.refl wr.heap.size wr) (.cells #[.int .i64 T.f0, .int .i64 T.f1, .string T.f2, .int .i64 T.f3, .slice A4 T.f4.length c4, .string T.f5, .string T.f6, .int .i64 T.f7, .slice A8 T.f8.length c8, .slice A9 T.f9.length c9, .slice A10 T.f10.length c10] 40 (0, 0))))
   generalize World.alloc wr _ = W1 at *
   generalize wr.heap.size = gE at *
   clear r0 r1 r2 r3 r4 r5 r6 r7 r8 r9 r10 m2 HM HB HK
   obtain ⟨q0, q1, q2, q3, q4, q5, q6, q7, q8, q9, qa⟩ := ten_cells HE1.out
   by_cases h8 : 30 < T.f8.length
   ·have b8 : decide ((T.f8.length : Int) > 30) = true := decide_eq_true (by omega)
    have HV2 := Aside0.mk (show V = false by rw [HV.out, HI.out, HD.out, if_pos (.inl h8)])
    clear h8 HV HI HD
    go_wp2_with fail
    go_ret
    exact ⟨ret_b HV2.out.symm, HB1.out⟩
   have b8 : decide ((T.f8.length : Int) > 30) = false := decide_eq_false (by omega)
   by_cases h9 : 20 < T.f9.length
   ·have b9 : decide ((T.f9.length : Int) > 20) = true := decide_eq_true (by omega)
    have HV2 := Aside0.mk (show V = false by rw [HV.out, HI.out, HD.out, if_pos (.inr (.inl h9))])
    clear h8 h9 HV HI HD
    go_wp2_with fail
    go_ret
    exact ⟨ret_b HV2.out.symm, HB1.out⟩
   have b9 : decide ((T.f9.length : Int) > 20) = false := decide_eq_false (by omega)
   by_cases h4 : 1200 < T.f4.length
   ·have b4 : decide ((T.f4.length : Int) > 1200) = true := decide_eq_true (by omega)
    have HV2 := Aside0.mk (show V = false by rw [HV.out, HI.out, HD.out, if_pos (.inr (.inr (.inl h4)))])
    clear h8 h9 h4 HV HI HD
    go_wp2_with fail
    go_ret
    exact ⟨ret_b HV2.out.symm, HB1.out⟩
   have b4 : decide ((T.f4.length : Int) > 1200) = false := decide_eq_false (by omega)
   by_cases h6 : 100 < T.f6.size
   ·have b6 : decide ((T.f6.size : Int) > 100) = true := decide_eq_true (by omega)
    have HV2 := Aside0.mk (show V = false by rw [HV.out, HI.out, HD.out, if_pos (.inr (.inr (.inr h6)))])
    clear h8 h9 h4 h6 HV HI HD
    go_wp2_with fail
    go_ret
    exact ⟨ret_b HV2.out.symm, HB1.out⟩
   have b6 : decide ((T.f6.size : Int) > 100) = false := decide_eq_false (by omega)
   have HI2 := Aside0.mk (show trV ts 0 0 = trV (ts.drop (i + 1).toNat) (wrap64 (a + (T.f10.length : Int))) (szL T.f10 s) by
    rw [HI.out, HD.out, if_neg]
    unfold bigT
    omega)
   clear h8 h9 h4 h6 HI HD
   go_wp2_with fail
   clear q0 q1 q2 q3 q4 q5 q6 q7 q8 q9 qa b8 b9 b4 b6
   go_loopg [6, 9] T.f10.length (fun kq v6 v9 w' => ∃ s2 j : Int, v6 = .int .i64 s2 ∧ v9 = .int .i64 j ∧ Aside0 (0 ≤ j ∧ j + kq = T.f10.length ∧ szL T.f10 s = szL (T.f10.drop j.toNat) s2) ∧ Aside0 (w'.heap[gb]? = some (.cells #[.int .i64 0, .string (⟨#[]⟩ : ByteArray), .slice (some ad) ts.length c2, .slice none 0 0, .slice none 0 0, .slice none 0 0] 27 (0, 0))) ∧ Aside0 (w'.heap[gE]? = some (.cells #[.int .i64 T.f0, .int .i64 T.f1, .string T.f2, .int .i64 T.f3, .slice A4 T.f4.length c4, .string T.f5, .string T.f6, .int .i64 T.f7, .slice A8 T.f8.length c8, .slice A9 T.f9.length c9, .slice A10 T.f10.length c10] 40 (0, 0))) ∧ Aside0 (k51.C w' A10 T.f10.length T.f10) ∧ Aside0 (Below w.heap.size w w'))
   case atStart => exact ⟨s, 0, rfl, rfl, ⟨by simp, by simp, by simp⟩, HM1, HE1, HK1, HB1⟩
   case round =>
    clear HM1 HE1 HK1 HB1
    obtain ⟨s2, j, rfl, rfl, hj, HM, HE, HK, HB⟩ := hrel
    have qa : wr.cell? ⟨gE, 10, none⟩ = some (.slice A10 T.f10.length c10) := (blk_cell HE.out 10).trans rfl
    by_cases hlj : j < (T.f10.length : Int)
    ·have hlb2 : decide (j < (T.f10.length : Int)) = true := decide_eq_true hlj
     have g0 := hj.out.1
     obtain ⟨ad2, B4, d4, B5, d5, hA2, x0, x1, x2, x3, x4, x5, y4, z4, y5, z5⟩ := at_T51 HK.out j g0 hlj
     have HD2 := Aside0.mk (sz_drop (s := s2) g0 hlj)
     obtain ⟨k2, rfl⟩ : ∃ m, gk = m + 1 := ⟨gk - 1, by have := hj.out; omega⟩
     have HY2 := Aside0.mk (And.intro (show wrap64 (j + 1) = j + 1 by have := HK.out.2.1; exact w64 (by omega) (by omega)) (show 0 ≤ j + 1 ∧ j + 1 + (k2 : Int) = T.f10.length by have := hj.out; omega))
     have HJ := Aside0.mk hj.out.2.2
     subst hA2
     generalize rd_T51 T.f10 j = X at *
     replace g0 := eq_true g0
     replace hlj := eq_true hlj
     clear hj y4 z4 y5 z5
     go_wp2_with fail
     repeat (go_quiet (fail); try go_wp2)
     go_roundg k2
     case measure => omega
     case rel => exact ⟨_, j + 1, rfl, by rw [HY2.out.1], ⟨HY2.out.2.1, HY2.out.2.2, by rw [HJ.out, HD2.out]⟩, HM, HE, HK, ⟨pw_below_drewN HB.out _⟩⟩
    ·have hlb2 : decide (j < (T.f10.length : Int)) = false := decide_eq_false hlj
     have HJ := Aside0.mk (show szL T.f10 s = s2 by
      rw [hj.out.2.2, List.drop_of_length_le (by have := hj.out; omega)]
      rfl)
     replace hlj := eq_false hlj
     clear hj
     go_wp2_with fail
     go_roundg k1
     case measure => omega
     case rel => exact ⟨_, s2, i + 1, rfl, rfl, by rw [HY.out.1], ⟨HY.out.2.1, HY.out.2.2, by rw [HI2.out, HJ.out]⟩, HM, HB⟩
  ·have hlb : decide (i < (ts.length : Int)) = false := decide_eq_false hlt
   have HI := Aside0.mk (show V = (decide (a ≤ n) && (decide (s ≤ 1048576) && decide ((ts.length : Int) ≤ 12))) by
    rw [HV.out, hi.out.2.2, List.drop_of_length_le (by have := hi.out; omega)]
    simp only [trV]
    congr 2
    rw [decide_eq_decide]
    omega)
   have m3 : wr.cell? ⟨gb, 3, none⟩ = some (.slice none 0 0) := (blk_cell HM.out 3).trans rfl
   have m4 : wr.cell? ⟨gb, 4, none⟩ = some (.slice none 0 0) := (blk_cell HM.out 4).trans rfl
   have m5 : wr.cell? ⟨gb, 5, none⟩ = some (.slice none 0 0) := (blk_cell HM.out 5).trans rfl
   replace hlt := eq_false hlt
   clear hi HV
   go_wp2_with fail
   refine wp_loop_rounds 1 ?_
   rw [rounds_succ]
   go_wp2_with fail
   refine wp_loop_rounds 1 ?_
   rw [rounds_succ]
   cases hx : decide (a ≤ n) with
   | false =>
    have HV2 := Aside0.mk (show V = false by rw [HI.out, hx, Bool.false_and])
    clear HI
    go_wp2_with fail
    go_ret
    exact ⟨ret_b HV2.out.symm, HB.out⟩
   | true =>
    cases hy : decide (s ≤ 1048576) with
    | false =>
     have HV2 := Aside0.mk (show V = false by rw [HI.out, hx, hy]; rfl)
     clear HI
     go_wp2_with fail
     go_ret
     exact ⟨ret_b HV2.out.symm, HB.out⟩
    | true =>
     have HV2 := Aside0.mk (show V = decide ((ts.length : Int) ≤ 12) by rw [HI.out, hx, hy]; rfl)
     clear HI
     cases hz : decide ((ts.length : Int) ≤ 12) with
     | false =>
      rw [hz] at HV2
      go_wp2_with fail
      go_ret
      exact ⟨ret_b HV2.out.symm, HB.out⟩
     | true =>
      rw [hz] at HV2
      go_wp2_with fail
      go_ret
      exact ⟨ret_b HV2.out.symm, HB.out⟩
end Go.Proofs.Ytknklchmpohjfaa.Gs
namespace Go.Proofs.Ytknklchmpohjfaa.Gv
open Go.RowKit Go Go.Proofs.YtknklchmpohjfaaW.PrintWords Go.Proofs.YtknklchmpohjfaaW.PrintLast Go.Proofs.YtknklchmpohjfaaW.PrintMore Go.Proofs.Ytknklchmpohjfaa.Mn Go.Proofs.Ytknklchmpohjfaa.Nd Go.Proofs.Ytknklchmpohjfaa.Z Go.Proofs.Ytknklchmpohjfaa.E Go.Proofs.Ytknklchmpohjfaa.Tk Go.Proofs.Ytknklchmpohjfaa.Gs
set_option linter.unusedVariables false
set_option linter.unusedSimpArgs false
section
variable {P : Program} {ops : Array Oper} {Q : Exit → Act → World → Prop} {rest : List Oper} {oi : Oper} {a : Act} {w : World}
theorem zS (N : Tmp) (e : TypeId) (cs : Array Value) (h : ∀ g, g = w.heap.size → ∀ w1, w1.heap[g]? = some (.cells cs e (0, 0)) → Below w.heap.size w w1 → wpList P ops Q rest (a.put oi.dst (.slice (some ⟨g, 0, none⟩) 1 1)) w1)
  (hgd : oi.guard = none := by rfl) (hd : oi.dst = some N := by rfl) (hrun : (execOp a.eval oi).run P w = .ok (.value (.slice (some ⟨w.heap.size, 0, none⟩) 1 1)) (w.alloc (.cells cs e (0, 0))) := by first | (go_simp; done) | (go_simp; rfl)) : wpList P ops Q (oi :: rest) a w :=
 Kd.event_run hgd hrun (h _ rfl _ (blk_new w _) (below_alloc (Below.refl _ _) _))
end
end Go.Proofs.Ytknklchmpohjfaa.Gv
namespace Go.Proofs.Ytknklchmpohjfaa.E
open Go.RowKit Go Go.Proofs.YtknklchmpohjfaaW.PrintWords Go.Proofs.YtknklchmpohjfaaW.PrintLast Go.Proofs.YtknklchmpohjfaaW.PrintMore Go.Proofs.Ytknklchmpohjfaa.Tk Go.Proofs.Ytknklchmpohjfaa.Gs Go.Proofs.Ytknklchmpohjfaa.Gv
set_option linter.unusedVariables false
def model_Order.f (a0_0 : Int) (a0_1 : Int) (a0_2 : ByteArray) (a0_3 : Int) (l0_4 : List Int) (a0_5 : ByteArray) (a0_6 : ByteArray) (a0_7 : Int) (l0_8 : List (S86)) (l0_9 : List (S68)) (l0_10 : List (S51)) (a1 : Int) : Option (Bool) := some (smlV [⟨a0_0, a0_1, a0_2, a0_3, l0_4, a0_5, a0_6, a0_7, l0_8, l0_9, l0_10⟩] a1)
set_option maxRecDepth 100000 in
theorem small_one (a0_0 : Int) (a0_1 : Int) (a0_2 : ByteArray) (a0_3 : Int) (A0_4 : Option Addr) (c0_4 : Nat) (l0_4 : List Int) (a0_5 : ByteArray) (a0_6 : ByteArray) (a0_7 : Int) (A0_8 : Option Addr) (c0_8 : Nat) (l0_8 : List (S86)) (A0_9 : Option Addr) (c0_9 : Nat) (l0_9 : List (S68)) (A0_10 : Option Addr) (c0_10 : Nat) (l0_10 : List (S51)) (a1 : Int) (r : Bool) (g : Nat) (w : World) (hr0_4 : Kd.C (Kd.int .u8) w A0_4 l0_4.length l0_4) (hc0_4 : l0_4.length ≤ c0_4) (hr0_8 : Kd.C k86 w A0_8 l0_8.length l0_8) (hc0_8 : l0_8.length ≤ c0_8) (hr0_9 : Kd.C k68 w A0_9 l0_9.length l0_9) (hc0_9 : l0_9.length ≤ c0_9) (hr0_10 : Kd.C k51 w A0_10 l0_10.length l0_10) (hc0_10 : l0_10.length ≤ c0_10)
  (hg : w.heap[g]? = some (.cells #[.int .i64 a0_0, .int .i64 a0_1, .string a0_2, .int .i64 a0_3, .slice A0_4 l0_4.length c0_4, .string a0_5, .string a0_6, .int .i64 a0_7, .slice A0_8 l0_8.length c0_8, .slice A0_9 l0_9.length c0_9, .slice A0_10 l0_10.length c0_10] 40 (0, 0))) (h : model_Order.f a0_0 a0_1 a0_2 a0_3 l0_4 a0_5 a0_6 a0_7 l0_8 l0_9 l0_10 a1 = some r) :
  Calls Try.prog 8 #[.agg #[.int .i64 0, .string (⟨#[]⟩ : ByteArray), .slice (some ⟨g, 0, none⟩) 1 1, .slice none 0 0, .slice none 0 0, .slice none 0 0], .int .i64 a1] w fun e w' => e = .returned (.bool r) ∧ Below w.heap.size w w' := by
 have hv : smlV [⟨a0_0, a0_1, a0_2, a0_3, l0_4, a0_5, a0_6, a0_7, l0_8, l0_9, l0_10⟩] a1 = r := Option.some.inj h
 have hC : Kd.C k40 w (some ⟨g, 0, none⟩) 1 [(⟨a0_0, a0_1, a0_2, a0_3, l0_4, a0_5, a0_6, a0_7, l0_8, l0_9, l0_10⟩ : Tr')] := by
  refine ⟨rfl, by decide, fun _ => ⟨⟨g, 0, none⟩, rfl, fun j p hj => ?_⟩⟩
  cases j with
  | succ j => simp at hj
  | zero =>
   simp only [List.getElem?_cons_zero, Option.some.injEq] at hj
   subst hj
   refine ⟨_, rfl, k40_mk w _ hc0_4 hr0_4 hc0_8 hr0_8 hc0_9 hr0_9 hc0_10 hr0_10, fun i u hu => ?_⟩
   have hc := blk_cell hg i
   have ha : (⟨g, 0, none⟩ : Addr).add (0 * k40.sz + i) = ⟨g, i, none⟩ := by
    simp only [Addr.add, Nat.zero_mul, Nat.zero_add]
    split
    ·rename_i h0
     rw [h0]
    ·rfl
   rw [ha, hc, ← hu]
   simp
 have := small_n [(⟨a0_0, a0_1, a0_2, a0_3, l0_4, a0_5, a0_6, a0_7, l0_8, l0_9, l0_10⟩ : Tr')] (some ⟨g, 0, none⟩) 1 a1 w hC
 rw [hv] at this
 exact this
end Go.Proofs.Ytknklchmpohjfaa.E
namespace Go.Proofs.Ytknklchmpohjfaa.Nc
open Go.RowKit Go Go.Proofs.YtknklchmpohjfaaW.PrintWords Go.Proofs.YtknklchmpohjfaaW.PrintLast Go.Proofs.YtknklchmpohjfaaW.PrintMore Go.Proofs.Ytknklchmpohjfaa.Ml Go.Proofs.Ytknklchmpohjfaa.Mn Go.Proofs.Ytknklchmpohjfaa.Nd Go.Proofs.Ytknklchmpohjfaa.Z Go.Proofs.Ytknklchmpohjfaa.P
set_option linter.unusedVariables false
set_option linter.unusedSimpArgs false
set_option maxHeartbeats 1000000 in
theorem set_w (g o : Nat) (A : Option Addr) (n c : Nat) (neg neg0 : Bool) (v0 : Value) (w : World) (hs : Slot w g o neg0 v0) :
  Calls Try.prog 107 #[.pointer (some ⟨g, o, none⟩), .bool neg, .slice A n c] w fun e w' => e = .returned (.pointer (some ⟨g, o, none⟩)) ∧ ∃ k, ((w.setCell ⟨g, o, none⟩ (.bool (neg && decide (0 < n)))).setCell ⟨g, o + 1, none⟩ (.slice A n c)).drewN k = w' := by
 have h0 := hs.cell0
 have h1 := hs.cell1
 have f0 := hs.free o
 have f1 := hs.free (o + 1)
 clear hs
 cases neg
 all_goals
  go_enter Try.func107, Try.ntmps107
  go_wp2
  go_ret
  exact ⟨rfl, 0, rfl⟩
theorem set_n (g o : Nat) (v : Value) (l : List Int) (neg : Bool) (n : Nat) (w : World) (hr : Room w g o) (hm : Mag w v l) (hc : Cn 4294967296 l) (hn : l.length ≤ n) :
  Calls Try.prog 107 #[.pointer (some ⟨g, o, none⟩), .bool neg, v] w (SetP w g o (sg neg (dv 4294967296 l)) n) := by
 obtain ⟨neg0, v0, hs⟩ := hr
 obtain ⟨A, c, rfl, _, _⟩ := hm.slice
 refine (set_w g o A l.length c neg neg0 v0 w hs).mono ?_
 rintro e w' ⟨rfl, k, rfl⟩
 obtain ⟨hw, hs'⟩ := Wrote.set hs (neg && decide (0 < l.length)) A l.length c k rfl
 refine ⟨rfl, hw, _, _, l, hs', hw.mag ⟨_, _, hs⟩ hm, hc, hn, ?_, ?_⟩
 ·cases l with
  | nil => cases neg <;> simp [dv, sg]
  | cons x l => cases neg <;> simp
 ·cases l with
  | nil => simp
  | cons x l => simp
theorem room_new (w : World) : Room (w.alloc (.cells #[.bool false, .slice none 0 0] 129)) w.heap.size 0 :=
 ⟨false, .slice none 0 0, ⟨#[.bool false, .slice none 0 0], 129, blk_new w _, ⟨none, 0, 0, rfl⟩, rfl, rfl⟩⟩
set_option maxHeartbeats 1000000 in
theorem setInt_n (g o : Nat) (z : Int) (w : World) (hr : Room w g o) (h0 : -9223372036854775808 ≤ z) (h1 : z ≤ 9223372036854775807) :
  Calls Try.prog 108 #[.pointer (some ⟨g, o, none⟩), .int .i64 z] w (SetP w g o z 2) := by
 by_cases hz : z < 0
 ·obtain ⟨r, hf, hc, hv, hn⟩ := magOf_f (-z) (by omega) (by omega)
  have e1 : IntKind.u64.wrap (-IntKind.u64.wrap z) = -z := by rw [u64m, u64m]; omega
  have HR := Lib.hid hr
  have HE := Lib.hid e1
  clear hr e1
  go_enter Try.func108, Try.ntmps108
  go_wp2_with fail
  rw [HE.out]
  refine (num_magOf.calls 3 (-z) r w hf).mono ?_
  rintro e w1 ⟨v, rfl, hV, hb⟩
  go_wp2_with fail
  refine (set_n g o v r true 2 w1 (HR.out.below hb) (Mag.of hV) hc hn).mono ?_
  rintro e w2 ⟨rfl, hw, hN⟩
  go_wp2_with fail
  go_ret
  exact ⟨rfl, (Wrote.of_below hb g o).trans hw, by simpa [hv, sg] using hN⟩
 ·obtain ⟨r, hf, hc, hv, hn⟩ := magOf_f z (by omega) (by omega)
  have HR := Lib.hid hr
  clear hr
  go_enter Try.func108, Try.ntmps108
  go_wp2_with fail
  refine (num_magOf.calls 3 z r w hf).mono ?_
  rintro e w1 ⟨v, rfl, hV, hb⟩
  go_wp2_with fail
  refine (set_n g o v r false 2 w1 (HR.out.below hb) (Mag.of hV) hc hn).mono ?_
  rintro e w2 ⟨rfl, hw, hN⟩
  go_wp2_with fail
  go_ret
  exact ⟨rfl, (Wrote.of_below hb g o).trans hw, by simpa [hv, sg] using hN⟩
set_option maxHeartbeats 1000000 in
theorem newInt_n (z : Int) (w : World) (h0 : -9223372036854775808 ≤ z) (h1 : z ≤ 9223372036854775807) :
  Calls Try.prog 99 #[.int .i64 z] w (NewP w z 2) := by
 go_enter Try.func99, Try.ntmps99
 go_wp2_with fail
 refine (setInt_n w.heap.size 0 z _ (room_new w) h0 h1).mono ?_
 rintro e w1 ⟨rfl, hw, hN⟩
 go_wp2_with fail
 go_ret
 exact ⟨_, Nat.le_refl _, rfl, (below_alloc (Below.refl _ w) _).trans (hw.below (Nat.le_refl _) (by simp)), hN⟩
set_option maxHeartbeats 2000000 in
set_option maxRecDepth 100000 in
theorem mul_n (gx ox ga oa gb ob : Nat) (a b : Int) (na nb : Nat) (w : World) (hx : Room w gx ox) (ha : IsN w ga oa a na) (hb : IsN w gb ob b nb) (hl : na + nb ≤ 1000) :
  Calls Try.prog 102 #[.pointer (some ⟨gx, ox, none⟩), .pointer (some ⟨ga, oa, none⟩), .pointer (some ⟨gb, ob, none⟩)] w (SetP w gx ox (a * b) (na + nb)) := by
 obtain ⟨nega, va, la, sa, ma, ca, hla, hza, qa⟩ := ha.at_
 obtain ⟨negb, vb, lb, sb, mb, cb, hlb, hzb, qb⟩ := hb.at_
 have hz : sg (!nega == negb) (dv 4294967296 la * dv 4294967296 lb) = a * b := by rw [sg_mul, hza, hzb]
 clear hza hzb
 obtain ⟨Aa, cca, rfl, hca, ra⟩ := ma.slice
 obtain ⟨Ab, ccb, rfl, hcb, rb⟩ := mb.slice
 obtain ⟨k, r, hf, hc, hv, hn⟩ := mul_f la lb ca.dg cb.dg (by omega)
 have a0 := sa.cell0
 have a1 := sa.cell1
 have b0 := sb.cell0
 have b1 := sb.cell1
 rw [← hv] at hz
 have HZ := Lib.hid hz
 clear ha hb hz hv
 go_enter Try.func102, Try.ntmps102
 go_wp2_with fail
 refine start_ (n := 21) (S := fun w' => w'.cell? ⟨ga, oa, none⟩ = some (.bool nega) ∧ w'.cell? ⟨ga, oa + 1, none⟩ = some (.slice Aa la.length cca) ∧ w'.cell? ⟨gb, ob, none⟩ = some (.bool negb) ∧ w'.cell? ⟨gb, ob + 1, none⟩ = some (.slice Ab lb.length ccb)) (ds := [19]) (bs 21 0) (by kernel_rfl) rfl rfl ⟨a0, a1, b0, b1⟩ (fun hHeld => ?_)
 refine zP 0 7 21 1 ?_
 refine zP 1 8 21 3 ?_
 refine zP 2 9 21 7 ?_
 refine zP 3 10 21 15 ?_
 refine zP 5 12 21 47 ?_
 refine zP 6 13 21 111 ?_
 refine zP 7 14 21 239 ?_
 refine zP 10 17 21 1263 ?_
 refine zP 11 18 21 3311 ?_
 refine zP 12 19 21 7407 ?_
 refine zP 14 21 21 23791 ?_
 refine zP 15 22 21 56559 ?_
 refine zP 16 23 21 122095 ?_
 refine zT 4 11 21 122111 hHeld ?_
 refine zT 8 15 21 122367 hHeld ?_
 refine zP 9 16 21 122879 ?_
 refine zT 13 20 21 131071 hHeld ?_
 refine zT 17 24 21 262143 hHeld ?_
 refine zN 18 (some 25) 21 524287 (fun K hK => ?_)
 refine zG Try.func112 #[.slice Aa la.length cca, .slice Ab lb.length ccb] ?_
 with_reducible refine (num_mulMag.calls k Aa cca la Ab ccb lb r _ (Kd.C_drew ra) hca (Kd.C_drew rb) hcb hf).mono ?_
 rintro e w1 ⟨v, rfl, hV, hb⟩
 refine ⟨_, rfl, ?_⟩
 have hb' := below_drew' hb
 refine hK.out _ _ ⟨(sa.below hb').cell0, (sa.below hb').cell1, (sb.below hb').cell0, (sb.below hb').cell1⟩ (fun hHeld => ?_)
 clear hK K
 refine zM 25 ?_
 refine zL 19 (some 26) 21 1048575 (fun K hK => ?_)
 refine zG Try.func107 #[.pointer (some ⟨gx, ox, none⟩), .bool (!nega == negb), v] ?_
 with_reducible refine (set_n gx ox v r (!nega == negb) (na + nb) w1 (hx.below hb') (Mag.of hV) hc (by omega)).mono ?_
 rintro e w2 ⟨rfl, hw, hN⟩
 refine ⟨_, rfl, ?_⟩
 refine hK.out _ _ ?_
 clear hK K
 refine zM 26 ?_
 refine zP 20 6 21 2097151 ?_
 refine done_ (by kernel_rfl) ?_
 go_wp2
 go_ret
 exact ⟨rfl, (Wrote.of_below hb' gx ox).trans hw, HZ.out ▸ hN⟩
theorem trim_n (v : Value) (l : List Int) (base : Nat) (ok : Nat → Prop) (w : World) (h : Kd.R (Kd.int .u32) 147 w base ok v l) (hd : Dg 4294967296 l) (hn : l.length ≤ 1099511627776) :
  Calls Try.prog 114 #[v] w fun e w' => ∃ v r, e = .returned v ∧ Mag w' v r ∧ Cn 4294967296 r ∧ dv 4294967296 r = dv 4294967296 l ∧ r.length ≤ l.length ∧ Below w.heap.size w w' := by
 obtain ⟨A, c, rfl⟩ := Kd.R_slice h
 obtain ⟨r, hf, hc, hv, hl⟩ := trim_f l hd hn (l.length + 1) (by omega)
 refine (num_trim.calls (l.length + 1) ok A c l r w (Kd.R_V h) hf).mono ?_
 rintro e w' ⟨v, rfl, hV, hb⟩
 exact ⟨v, r, rfl, Mag.of hV, hc, hv, hl, hb⟩
end Go.Proofs.Ytknklchmpohjfaa.Nc
namespace Go.Proofs.Ytknklchmpohjfaa.Na
open Go.RowKit Go Go.Proofs.YtknklchmpohjfaaW.PrintWords Go.Proofs.YtknklchmpohjfaaW.PrintLast Go.Proofs.YtknklchmpohjfaaW.PrintMore Go.Proofs.Ytknklchmpohjfaa.Ml Go.Proofs.Ytknklchmpohjfaa.Mn Go.Proofs.Ytknklchmpohjfaa.Nd Go.Proofs.Ytknklchmpohjfaa.Z Go.Proofs.Ytknklchmpohjfaa.P Go.Proofs.Ytknklchmpohjfaa.Nc
set_option linter.unusedVariables false
set_option linter.unusedSimpArgs false
structure AddI (x y : List Int) (i : Nat) (c : Int) (out : List Int) : Prop where
 c0 : 0 ≤ c
 c1 : c ≤ 1
 dg : Dg 4294967296 out
 len : out.length = x.length + 1
 val : dv 4294967296 out + c * pw 4294967296 i = dv 4294967296 (x.take i) + dv 4294967296 (y.take i)
 zero : ∀ m, i ≤ m → out.getD m 0 = 0
theorem AddI.start (x y : List Int) : AddI x y 0 0 (List.replicate (x.length + 1) 0) :=
 ⟨by omega, by omega, Dg.replicate (by decide) _, by simp, by rw [dv_replicate]; simp [dv], fun m _ => by
  rw [List.getD_eq_getElem?_getD, List.getElem?_replicate]
  split <;> rfl⟩
theorem AddI.step {x y : List Int} {i : Nat} {c : Int} {out : List Int} (h : AddI x y i c out) (hx : Dg 4294967296 x) (hy : Dg 4294967296 y) (hi : i < x.length) :
  AddI x y (i + 1) ((c + x.getD i 0 + y.getD i 0) / 4294967296) (out.set i ((c + x.getD i 0 + y.getD i 0) % 4294967296)) := by
 have h1 := hx.getD (by decide) i
 have h2 := hy.getD (by decide) i
 have h3 := h.c0
 have h4 := h.c1
 obtain ⟨s, hs⟩ : ∃ s, s = c + x.getD i 0 + y.getD i 0 := ⟨_, rfl⟩
 rw [← hs]
 refine ⟨by omega, by omega, h.dg.set _ (by omega) (by omega), by simpa using h.len, ?_, fun m hm => by rw [getD_set (by omega)]; exact h.zero m (by omega)⟩
 have h5 := h.val
 rw [dv_set _ _ _ _ (by have := h.len; omega), h.zero i (Nat.le_refl _), dv_take_succ', dv_take_succ', pw_succ]
 have h6 : s % 4294967296 = s - 4294967296 * (s / 4294967296) := by omega
 rw [h6]
 generalize s / 4294967296 = q
 rw [hs]
 grind
theorem AddI.done {x y : List Int} {c : Int} {out : List Int} (h : AddI x y x.length c out) (hy : y.length ≤ x.length) : Dg 4294967296 (out.set x.length c) ∧ dv 4294967296 (out.set x.length c) = dv 4294967296 x + dv 4294967296 y ∧ (out.set x.length c).length = x.length + 1 := by
 have h1 := h.val
 have h3 := h.c0
 have h4 := h.c1
 rw [List.take_of_length_le (Nat.le_refl _), List.take_of_length_le hy] at h1
 refine ⟨h.dg.set _ (by omega) (by omega), ?_, by simpa using h.len⟩
 rw [dv_set _ _ _ _ (by have := h.len; omega), h.zero _ (Nat.le_refl _)]
 rw [← h1]
 grind
end Go.Proofs.Ytknklchmpohjfaa.Na
namespace Go.Proofs.Ytknklchmpohjfaa.Nb
open Go.RowKit Go Go.Proofs.YtknklchmpohjfaaW.PrintWords Go.Proofs.YtknklchmpohjfaaW.PrintLast Go.Proofs.YtknklchmpohjfaaW.PrintMore Go.Proofs.Ytknklchmpohjfaa.Ml Go.Proofs.Ytknklchmpohjfaa.Mn Go.Proofs.Ytknklchmpohjfaa.Nd Go.Proofs.Ytknklchmpohjfaa.Z Go.Proofs.Ytknklchmpohjfaa.P Go.Proofs.Ytknklchmpohjfaa.Nc Go.Proofs.Ytknklchmpohjfaa.Na
attribute [local go_sem] max2_int min2_int max_two min_two
set_option linter.unusedVariables false
set_option linter.unusedSimpArgs false
set_option maxHeartbeats 400000 in
theorem sign_n (c : Int) (w : World) : Calls Try.prog 113 #[.int .i64 c] w fun e w' => e = .returned (.int .i64 (cmpI c 0)) ∧ w = w' := by
 go_enter Try.func113, Try.ntmps113
 go_wp2
 all_goals
  go_ret
  refine ⟨?_, rfl⟩
  have h1 : ∀ x y : Int, x = y → Ending.returned (Value.int .i64 x) = Ending.returned (Value.int .i64 y) := fun _ _ h => by rw [h]
  refine h1 _ _ ?_
  unfold cmpI
  repeat' split
  all_goals first | omega | (split at * <;> omega)
theorem cmpMag_n (A0 : Option Addr) (c0 : Nat) (la : List Int) (A1 : Option Addr) (c1 : Nat) (lb : List Int) (w : World) (h0 : la.length ≤ c0) (r0 : Kd.C (Kd.int .u32) w A0 la.length la) (h1 : lb.length ≤ c1) (r1 : Kd.C (Kd.int .u32) w A1 lb.length lb) (ha : Cn 4294967296 la) (hb : Cn 4294967296 lb) (hn : la.length ≤ 1000000) (hm : lb.length ≤ 1000000) :
  Calls Try.prog 110 #[.slice A0 la.length c0, .slice A1 lb.length c1] w fun e w' => ∃ c, e = .returned (.int .i64 c) ∧ Sg c (dv 4294967296 la) (dv 4294967296 lb) ∧ Below w.heap.size w w' := by
 obtain ⟨c, hf, hs, _, _⟩ := cmp_f la lb ha hb (by omega) (by omega) (la.length + 1) (by omega)
 refine (num_cmpMag.calls (la.length + 1) A0 c0 la A1 c1 lb c w r0 h0 r1 h1 hf).mono ?_
 rintro e w' ⟨rfl, hd⟩
 exact ⟨c, rfl, hs, hd.below⟩
theorem Sg_cmp {c a b : Int} (h : Sg c a b) : cmpI c 0 = cmpI a b := by
 unfold Sg at h
 unfold cmpI
 repeat' split
 all_goals omega
set_option maxHeartbeats 2000000 in
set_option maxRecDepth 100000 in
theorem cmpAbs_n (ga oa gb ob : Nat) (a b : Int) (na nb : Nat) (w : World) (ha : IsN w ga oa a na) (hb : IsN w gb ob b nb) (hl : na + nb ≤ 1000) :
  Calls Try.prog 103 #[.pointer (some ⟨ga, oa, none⟩), .pointer (some ⟨gb, ob, none⟩)] w (ValP w (.int .i64 (cmpI (a.natAbs : Int) (b.natAbs : Int)))) := by
 obtain ⟨nega, Aa, cca, la, sa, hca, ra, ca, hla, hza, qa⟩ := ha.open
 obtain ⟨negb, Ab, ccb, lb, sb, hcb, rb, cb, hlb, hzb, qb⟩ := hb.open
 have eq1 := sg_abs (dv_nonneg (by decide) ca.dg) hza
 have eq2 := sg_abs (dv_nonneg (by decide) cb.dg) hzb
 rw [eq1, eq2]
 have a1 := sa.cell1
 have b1 := sb.cell1
 clear hza hzb eq1 eq2 ha hb
 go_enter Try.func103, Try.ntmps103
 go_wp2_with fail
 refine start_ (n := 11) (S := fun w' => w'.cell? ⟨ga, oa + 1, none⟩ = some (.slice Aa la.length cca) ∧ w'.cell? ⟨gb, ob + 1, none⟩ = some (.slice Ab lb.length ccb)) (ds := []) (bs 11 0) (by kernel_rfl) rfl rfl ⟨a1, b1⟩ (fun hHeld => ?_)
 refine zP 0 5 11 1 ?_
 refine zP 1 6 11 3 ?_
 refine zP 2 7 11 7 ?_
 refine zP 4 9 11 23 ?_
 refine zP 5 10 11 55 ?_
 refine zP 6 11 11 119 ?_
 refine zT 3 8 11 127 hHeld ?_
 refine zT 7 12 11 255 hHeld ?_
 refine zN 8 (some 13) 11 511 (fun K hK => ?_)
 refine zG Try.func110 #[.slice Aa la.length cca, .slice Ab lb.length ccb] ?_
 with_reducible refine (cmpMag_n Aa cca la Ab ccb lb _ hca (Kd.C_drew ra) hcb (Kd.C_drew rb) ca cb (by omega) (by omega)).mono ?_
 rintro e w1 ⟨c, rfl, hs, hd⟩
 refine ⟨_, rfl, ?_⟩
 have hb' := below_drew' hd
 refine hK.out _ _ ⟨(sa.below hb').cell1, (sb.below hb').cell1⟩ (fun hHeld => ?_)
 clear hK K
 refine zM 13 ?_
 refine zN 9 (some 14) 11 1023 (fun K hK => ?_)
 refine zG Try.func113 #[.int .i64 c] ?_
 with_reducible refine (sign_n c _).mono ?_
 rintro e w2 ⟨rfl, rfl⟩
 refine ⟨_, rfl, ?_⟩
 refine hK.out _ _ ⟨(sa.below hb').cell1, (sb.below hb').cell1⟩ (fun hHeld => ?_)
 clear hK K
 refine zM 14 ?_
 refine zP 10 4 11 2047 ?_
 refine done_ (by kernel_rfl) ?_
 have HS := Aside0.mk hs
 clear hs
 go_wp2
 go_ret
 exact ⟨ret_i (Sg_cmp HS.out), hb'⟩
set_option maxHeartbeats 2000000 in
set_option maxRecDepth 100000 in
theorem cmp_n (ga oa gb ob : Nat) (a b : Int) (na nb : Nat) (w : World) (ha : IsN w ga oa a na) (hb : IsN w gb ob b nb) (hl : na + nb ≤ 1000) :
  Calls Try.prog 91 #[.pointer (some ⟨ga, oa, none⟩), .pointer (some ⟨gb, ob, none⟩)] w (ValP w (.int .i64 (cmpI a b))) := by
 obtain ⟨nega, Aa, cca, la, sa, hca, ra, ca, hla, hza, qa⟩ := ha.open
 obtain ⟨negb, Ab, ccb, lb, sb, hcb, rb, cb, hlb, hzb, qb⟩ := hb.open
 have pa := dv_nonneg (by decide) ca.dg
 have pb := dv_nonneg (by decide) cb.dg
 have HQ := Aside0.mk (show (nega = true → 0 < dv 4294967296 la) ∧ (negb = true → 0 < dv 4294967296 lb) from ⟨fun h => dv_pos (by decide) ca (qa h), fun h => dv_pos (by decide) cb (qb h)⟩)
 have HP := Aside0.mk (And.intro pa pb)
 have HZ := Aside0.mk (And.intro hza hzb)
 have HA := Aside0.mk (And.intro ha hb)
 have a0 := sa.cell0
 have b0 := sb.cell0
 clear hza hzb ha hb pa pb qa qb sa sb hca hcb ra rb ca cb hla hlb
 cases nega <;> cases negb
 ·go_enter Try.func91, Try.ntmps91
  go_wp2_with fail
  refine (cmpAbs_n ga oa gb ob a b na nb w HA.out.1 HA.out.2 hl).mono ?_
  rintro e w1 ⟨rfl, hb⟩
  go_wp2_with fail
  go_ret
  refine ⟨ret_i ?_, hb⟩
  obtain ⟨h1, h2⟩ := HP.out
  obtain ⟨h3, h4⟩ := HZ.out
  simp [sg] at h3 h4
  rw [show (a.natAbs : Int) = a by omega, show (b.natAbs : Int) = b by omega]
 ·go_enter Try.func91, Try.ntmps91
  go_wp2_with fail
  go_ret
  refine ⟨ret_i ?_, Below.refl _ _⟩
  obtain ⟨h1, h2⟩ := HP.out
  obtain ⟨h3, h4⟩ := HZ.out
  have h5 := HQ.out.2
  simp at h5
  simp [sg] at h3 h4
  have : cmpI a b = 1 := by unfold cmpI; rw [if_neg (by omega), if_pos (by omega)]
  exact this.symm
 ·go_enter Try.func91, Try.ntmps91
  go_wp2_with fail
  go_ret
  refine ⟨ret_i ?_, Below.refl _ _⟩
  obtain ⟨h1, h2⟩ := HP.out
  obtain ⟨h3, h4⟩ := HZ.out
  have h5 := HQ.out.1
  simp at h5
  simp [sg] at h3 h4
  have : cmpI a b = -1 := by unfold cmpI; rw [if_pos (by omega)]
  exact this.symm
 ·go_enter Try.func91, Try.ntmps91
  go_wp2_with fail
  refine (cmpAbs_n ga oa gb ob a b na nb w HA.out.1 HA.out.2 hl).mono ?_
  rintro e w1 ⟨rfl, hb⟩
  go_wp2_with fail
  go_ret
  refine ⟨ret_i ?_, hb⟩
  obtain ⟨h1, h2⟩ := HP.out
  obtain ⟨h3, h4⟩ := HZ.out
  simp [sg] at h3 h4
  have e1 : (a.natAbs : Int) = -a := by omega
  have e2 : (b.natAbs : Int) = -b := by omega
  rw [e1, e2]
  have : wrap64 (-cmpI (-a) (-b)) = cmpI a b := by
   unfold cmpI wrap64
   repeat' split
   all_goals omega
  exact this
end Go.Proofs.Ytknklchmpohjfaa.Nb
namespace Go.Proofs.Ytknklchmpohjfaa.Ns
open Go.RowKit Go Go.Proofs.YtknklchmpohjfaaW.PrintWords Go.Proofs.YtknklchmpohjfaaW.PrintLast Go.Proofs.YtknklchmpohjfaaW.PrintMore Go.Proofs.Ytknklchmpohjfaa.Ml Go.Proofs.Ytknklchmpohjfaa.Mn Go.Proofs.Ytknklchmpohjfaa.Nd Go.Proofs.Ytknklchmpohjfaa.Z Go.Proofs.Ytknklchmpohjfaa.P Go.Proofs.Ytknklchmpohjfaa.Nc
set_option linter.unusedVariables false
set_option linter.unusedSimpArgs false
theorem wraps_u64 (n : Int) (h0 : 0 ≤ n) (h1 : n < 2 ^ 64) : IntKind.u64.wrap n = n := by
 rw [u64m]
 omega
theorem or_high (x y : Int) (i : Nat) (hx0 : 0 ≤ x) (hx : x % 2 ^ i = 0) (hx1 : x < 18446744073709551616) (hy0 : 0 ≤ y) (hy : y < 2 ^ i) (hy1 : y < 18446744073709551616) : bits .or .u64 x y = x + y :=
 bits_join .u64 64 (by decide) wraps_u64 i x y hx0 hx (by omega) hy0 hy (by omega)
theorem or_low (c y : Int) (i : Nat) (hx0 : 0 ≤ y) (hx : y % 2 ^ i = 0) (hx1 : y < 18446744073709551616) (hy0 : 0 ≤ c) (hy : c < 2 ^ i) (hy1 : c < 18446744073709551616) : bits .or .u64 c y = c + y := by
 have h := or_high y c i hx0 hx hx1 hy0 hy hy1
 obtain ⟨a, rfl⟩ := Int.eq_ofNat_of_zero_le hx0
 obtain ⟨b, rfl⟩ := Int.eq_ofNat_of_zero_le hy0
 have ha : a < 2 ^ 64 := by omega
 have hb : b < 2 ^ 64 := by omega
 rw [(bits_nat .u64 64 (by decide) wraps_u64 a b ha hb).2] at h
 rw [(bits_nat .u64 64 (by decide) wraps_u64 b a hb ha).2, Nat.or_comm, h]
 omega
structure ShI (x : List Int) (p : Int) (i : Nat) (c : Int) (out : List Int) : Prop where
 c0 : 0 ≤ c
 c1 : c < p
 dg : Dg 4294967296 out
 len : out.length = x.length + 1
 val : dv 4294967296 out + c * pw 4294967296 i = dv 4294967296 (x.take i) * p
 zero : ∀ m, i ≤ m → out.getD m 0 = 0
theorem ShI.start (x : List Int) (p : Int) (hp : 0 < p) : ShI x p 0 0 (List.replicate (x.length + 1) 0) :=
 ⟨by omega, hp, Dg.replicate (by decide) _, by simp, by rw [dv_replicate]; simp [dv], fun m _ => by
  rw [List.getD_eq_getElem?_getD, List.getElem?_replicate]
  split <;> rfl⟩
theorem sh_num {c x p : Int} (c0 : 0 ≤ c) (c1 : c < p) (hp : p ≤ 4294967296) (x0 : 0 ≤ x) (x1 : x < 4294967296) : 0 ≤ c + x * p ∧ c + x * p < p * 4294967296 := by
 have h1 : 0 ≤ x * p := Int.mul_nonneg x0 (by omega)
 have h2 : x * p ≤ 4294967295 * p := Int.mul_le_mul_of_nonneg_right (by omega) (by omega)
 omega
theorem ShI.step {x : List Int} {p : Int} {i : Nat} {c : Int} {out : List Int} (h : ShI x p i c out) (hx : Dg 4294967296 x) (hp : p ≤ 4294967296) (hi : i < x.length) :
  ShI x p (i + 1) ((c + x.getD i 0 * p) / 4294967296) (out.set i ((c + x.getD i 0 * p) % 4294967296)) := by
 have h1 := hx.getD (by decide) i
 have h3 := h.c0
 have h4 := h.c1
 have h2 := sh_num h3 h4 hp h1.1 h1.2
 obtain ⟨s, hs⟩ : ∃ s, s = c + x.getD i 0 * p := ⟨_, rfl⟩
 rw [← hs] at h2 ⊢
 refine ⟨by omega, by omega, h.dg.set _ (by omega) (by omega), by simpa using h.len, ?_, fun m hm => by rw [getD_set (by omega)]; exact h.zero m (by omega)⟩
 have h5 := h.val
 rw [dv_set _ _ _ _ (by have := h.len; omega), h.zero i (Nat.le_refl _), dv_take_succ', pw_succ]
 have h6 : s % 4294967296 = s - 4294967296 * (s / 4294967296) := by omega
 rw [h6]
 generalize s / 4294967296 = q
 rw [hs]
 grind
theorem ShI.done {x : List Int} {p : Int} {c : Int} {out : List Int} (h : ShI x p x.length c out) (hp : p ≤ 4294967296) : Dg 4294967296 (out.set x.length c) ∧ dv 4294967296 (out.set x.length c) = dv 4294967296 x * p ∧ (out.set x.length c).length = x.length + 1 ∧ (out.set x.length c).getD x.length 0 < p := by
 have h1 := h.val
 have h3 := h.c0
 have h4 := h.c1
 rw [List.take_of_length_le (Nat.le_refl _)] at h1
 refine ⟨h.dg.set _ (by omega) (by omega), ?_, by simpa using h.len, ?_⟩
 ·rw [dv_set _ _ _ _ (by have := h.len; omega), h.zero _ (Nat.le_refl _)]
  rw [← h1]
  grind
 ·rw [getD_set_self (by have := h.len; omega)]
  exact h4
set_option maxHeartbeats 4000000 in
set_option maxRecDepth 100000 in
theorem shift_n (Ax : Option Addr) (cx : Nat) (x : List Int) (b : Nat) (w : World) (hcx : x.length ≤ cx) (HX : Kd.C (Kd.int .u32) w Ax x.length x) (hd : Dg 4294967296 x) (hn : x.length ≤ 1000000) (hb : b ≤ 31) :
  Calls Try.prog 117 #[.slice Ax x.length cx, .int .i64 (b : Int)] w fun e w' => ∃ g c r, w.heap.size ≤ g ∧ e = .returned (.slice (some ⟨g, 0, none⟩) (x.length + 1) c) ∧ Kd.R (Kd.int .u32) 147 w' w.heap.size (fun _ => True) (.slice (some ⟨g, 0, none⟩) (x.length + 1) c) r ∧ Dg 4294967296 r ∧ r.length = x.length + 1 ∧ dv 4294967296 r = dv 4294967296 x * 2 ^ b ∧ r.getD x.length 0 < 2 ^ b ∧ Below w.heap.size w w' := by
 have hp0 : (0 : Int) < 2 ^ b := Int.pow_pos (by decide)
 have hp1 : (2 : Int) ^ b ≤ 2147483648 := by
  have : b = 0 ∨ b = 1 ∨ b = 2 ∨ b = 3 ∨ b = 4 ∨ b = 5 ∨ b = 6 ∨ b = 7 ∨ b = 8 ∨ b = 9 ∨ b = 10 ∨ b = 11 ∨ b = 12 ∨ b = 13 ∨ b = 14 ∨ b = 15 ∨ b = 16 ∨ b = 17 ∨ b = 18 ∨ b = 19 ∨ b = 20 ∨ b = 21 ∨ b = 22 ∨ b = 23 ∨ b = 24 ∨ b = 25 ∨ b = 26 ∨ b = 27 ∨ b = 28 ∨ b = 29 ∨ b = 30 ∨ b = 31 := by omega
  rcases this with h | h | h | h | h | h | h | h | h | h | h | h | h | h | h | h | h | h | h | h | h | h | h | h | h | h | h | h | h | h | h | h <;> subst h <;> decide
 obtain ⟨p, hp⟩ : ∃ p : Int, p = 2 ^ b := ⟨_, rfl⟩
 rw [← hp] at hp0 hp1 ⊢
 have HP := Aside0.mk hp
 have HXa := Aside0.mk HX
 have HD := Aside0.mk hd
 clear hp HX hd
 have hlen : 0 ≤ (x.length : Int) + 1 := by omega
 go_enter Try.func117, Try.ntmps117
 go_wp2_with ((with_reducible refine gate_dst (N := 12) rfl ?_); refine Kd.R_make (Kd.int .u32) _ 147 rfl (N := 12) rfl 127 _ _ rfl ((x.length : Int) + 1) rfl rfl Try.underlying127 (.int .u32 0) 4 info147 rfl (by decide) (by omega) 0 (ok := fun _ => True) (okp := fun _ => True) rfl (fun _ hk => hk) trivial hlen (by omega) (Below.refl _ _) (Nat.le_refl _) ?_; intro v w5 ho hb hg_ hnew_; clear hg_ hnew_; have HO := Aside0.mk ho; have HB := Aside0.mk hb; clear ho hb)
 obtain ⟨go, co, eo, gb, _, _⟩ := Kd.R_form HO.out (by simp)
 have eo2 : v = .slice (some ⟨go, 0, none⟩) (x.length + 1) co := by rw [eo]; simp
 have HO2 := Aside0.mk (show ∃ out, ShI x p 0 0 out ∧ Kd.R (Kd.int .u32) 147 w5 w.heap.size (fun _ => True) (.slice (some ⟨go, 0, none⟩) (x.length + 1) co) out from ⟨_, ShI.start x p hp0, by have := HO.out; rw [eo2] at this; simpa using this⟩)
 subst eo2
 clear HO eo
 go_loopg [6, 15] x.length (fun kq v6 v15 w' => ∃ (i : Nat) (c : Int) (out : List Int), v6 = .int .u64 c ∧ v15 = .int .i64 (i : Int) ∧ Aside0 (i + kq = x.length) ∧ Aside0 (ShI x p i c out) ∧ Aside0 (Kd.R (Kd.int .u32) 147 w' w.heap.size (fun _ => True) (.slice (some ⟨go, 0, none⟩) (x.length + 1) co) out) ∧ Aside0 (Below w.heap.size w w'))
 case atStart =>
  obtain ⟨out, h1, h2⟩ := HO2.out
  exact ⟨0, 0, out, rfl, rfl, ⟨by omega⟩, ⟨h1⟩, ⟨h2⟩, HB⟩
 case round =>
  clear HO2 HB
  obtain ⟨i, c, out, rfl, rfl, HK, HI, HO, HB⟩ := hrel
  cases gk with
  | zero =>
   have hi : i = x.length := HK.out
   have hb0 : decide (i < x.length) = false := decide_eq_false (by omega)
   obtain ⟨hy1, hz1⟩ := own_cell HO.out x.length (by omega)
   have hc0 := HI.out.c0
   have hc1 := HI.out.c1
   have HI2 := Aside0.mk hi
   have HF := Aside0.mk ((show ShI x p x.length c out from HI2.out ▸ HI.out).done (by omega))
   clear hi
   go_wp2_with fail
   refine bodyPost_ret (v := .slice (some ⟨go, 0, none⟩) (x.length + 1) co) (by simp [results, Try.results117, go_sem]) rfl ?_
   exact ⟨go, co, out.set x.length c, gb, rfl, own_put HO.out x.length c, HF.out.1, HF.out.2.2.1, HF.out.2.1, HF.out.2.2.2, HB.out.setCell gb _⟩
  | succ k1 =>
   have hi : i < x.length := by have := HK.out; omega
   have hb0 : decide (i < x.length) = true := decide_eq_true hi
   obtain ⟨adx, ex, hxc⟩ := mag_cell HXa.out HB.out i hi
   obtain ⟨hy1, hz1⟩ := own_cell HO.out i (by omega)
   have hdx := HD.out.getD (by decide) i
   have hc0 := HI.out.c0
   have hc1 := HI.out.c1
   cases ex
   have hst := HI.out.step HD.out (by omega) hi
   generalize hxi : x.getD i 0 = xi at hxc hdx hst
   have HT := Aside0.mk hst
   obtain ⟨hdx0, hdx1⟩ := hdx
   clear hst hxi
   have hbit : bits BinOp.or IntKind.u64 c (IntKind.u64.wrap (xi * 2 ^ b)) = c + xi * p := by
    have h2 := sh_num hc0 hc1 (by omega) hdx0 hdx1
    have h3 : p * 4294967296 ≤ 2147483648 * 4294967296 := Int.mul_le_mul_of_nonneg_right hp1 (by decide)
    have h4 : 0 ≤ xi * p := Int.mul_nonneg hdx0 (by omega)
    rw [← HP.out, u64 (x := xi * p) h4 (by omega)]
    refine or_low c (xi * p) b h4 ?_ (by omega) hc0 (by rw [← HP.out]; exact hc1) (by omega)
    rw [← HP.out]
    exact Int.mul_emod_left _ _
   have HBI := Aside0.mk hbit
   clear hbit
   go_wp2_with fail
   go_roundg k1
   case measure => omega
   case rel =>
    rw [← HBI.out] at HT
    exact ⟨i + 1, _, _, rfl, by simp, ⟨by have := HK.out; omega⟩, HT, ⟨own_put HO.out i _⟩, ⟨HB.out.setCell gb _⟩⟩
theorem shift_m (Ax : Option Addr) (cx : Nat) (x : List Int) (m : Nat) (hm : x.length = m) (b : Nat) (w : World) (hcx : m ≤ cx) (HX : Kd.C (Kd.int .u32) w Ax m x) (hd : Dg 4294967296 x) (hn : m ≤ 1000000) (hb : b ≤ 31) :
  Calls Try.prog 117 #[.slice Ax m cx, .int .i64 (b : Int)] w fun e w' => ∃ g c r, w.heap.size ≤ g ∧ e = .returned (.slice (some ⟨g, 0, none⟩) (m + 1) c) ∧ Kd.R (Kd.int .u32) 147 w' w.heap.size (fun _ => True) (.slice (some ⟨g, 0, none⟩) (m + 1) c) r ∧ Dg 4294967296 r ∧ r.length = m + 1 ∧ dv 4294967296 r = dv 4294967296 x * 2 ^ b ∧ r.getD m 0 < 2 ^ b ∧ Below w.heap.size w w' := by
 subst hm
 exact shift_n Ax cx x b w hcx HX hd hn hb
end Go.Proofs.Ytknklchmpohjfaa.Ns

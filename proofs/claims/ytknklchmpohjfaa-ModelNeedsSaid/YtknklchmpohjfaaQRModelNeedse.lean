/-
  model.needs: the map's members in ascending order. Whether a movie of tracks alone is small. Whether a movie of one track is small, told as a function of the track. What the calls of package num do to numbers in memory: set, SetInt64, NewInt, Mul. The sum of limbs: the walk of num.addMag. What the calls of package num do to numbers in memory: CmpAbs, Cmp, Sign, Int64, Add, Sub. Limbs moved up by some bits: the walk of num.shift. Plain: the step of long division that guesses a digit from the highest digits (base 2^32). A digit of a quotient: the walk of num.digit. How many zero bits a number of 32 bits begins with: the shelf's contract at this program. Limbs divided: what the quotient and the rest come to, a clone of limbs, and the walk of num.divMag.
-/
import Derived.Test.YtknklchmpohjfaaQRModelNeedsd
import Derived.Laws.EntriesVeiled
import Derived.Test.YtknklchmpohjfaaQRModelNeedsa
import Derived.Outline
import Derived.Deep.DeepCutAuto
import Derived.Deep.CutBlock
import Derived.Shelf.Small.Bits
import Derived.Test.YtknklchmpohjfaaProg
import Derived.Lib.ItoaNum
import Derived.Lib.SliceRun
namespace Go.Proofs.Ytknklchmpohjfaa.Gc
open Go.Maps Go.RowKit Go Go.Proofs.YtknklchmpohjfaaW.PrintWords Go.Proofs.YtknklchmpohjfaaW.PrintLast Go.Proofs.YtknklchmpohjfaaW.PrintMore Go.Proofs.Ytknklchmpohjfaa.Mn Go.Proofs.Ytknklchmpohjfaa.Nd Go.Proofs.Ytknklchmpohjfaa.Z Go.Proofs.Ytknklchmpohjfaa.E Go.Proofs.Ytknklchmpohjfaa.Tk Go.Proofs.Ytknklchmpohjfaa.Tw Go.Proofs.Ytknklchmpohjfaa.Mp Go.Proofs.Ytknklchmpohjfaa.Nx Go.Proofs.Ytknklchmpohjfaa.Ny Go.Proofs.Ytknklchmpohjfaa.Gt Go.Proofs.Ytknklchmpohjfaa.Gb
set_option linter.unusedVariables false
set_option linter.unusedSimpArgs false
def stW (W : World) (gt : Nat) : World := ((W.alloc (.map #[] 0)).alloc (.cells #[.map (some W.heap.size)] 92)).alloc (.cells #[.func (.func 60) #[] #[.pointer (some ⟨W.heap.size + 1, 0, none⟩), .pointer (some ⟨gt, 0, none⟩), .pointer (some ⟨W.heap.size + 1 + 1, 0, none⟩)]] 108)
theorem size_alloc (W : World) (o : Obj) : (W.alloc o).heap.size = W.heap.size + 1 := by unfold World.alloc; exact Array.size_push _
theorem st_wk {w W : World} {gt : Nat} {cs : Array Value} (ht : W.heap[gt]? = some (.cells cs 40 (0, 0))) (hb : Below w.heap.size w W) : Wk w (stW W gt) (W.heap.size + 1) gt (W.heap.size + 1 + 1) W.heap.size cs ∧ SetI (stW W gt) W.heap.size 0 (fun _ => false) := by
 have hgt := blk_lt ht
 have e1 : (W.alloc (.map #[] 0)).heap.size = W.heap.size + 1 := size_alloc _ _
 have e2 : ((W.alloc (.map #[] 0)).alloc (.cells #[.map (some W.heap.size)] 92)).heap.size = W.heap.size + 1 + 1 := by rw [size_alloc, size_alloc]
 refine ⟨⟨?_, blk_alloc (blk_alloc (blk_alloc ht _) _) _, ?_, by omega, by omega, by omega, hb.size, ?_⟩, ?_⟩
 ·refine blk_alloc ?_ _
  rw [← e1]
  exact blk_new _ _
 ·have h3 := blk_new ((W.alloc (.map #[] 0)).alloc (.cells #[.map (some W.heap.size)] 92)) (.cells #[.func (.func 60) #[] #[.pointer (some ⟨W.heap.size + 1, 0, none⟩), .pointer (some ⟨gt, 0, none⟩), .pointer (some ⟨W.heap.size + 1 + 1, 0, none⟩)]] 108)
  rw [e2] at h3
  exact h3
 ·have h1 := hb.alloc hb.size (.map #[] 0)
  have h2 := h1.alloc h1.size (.cells #[.map (some W.heap.size)] 92)
  exact h2.alloc h2.size _
 ·refine (SetM.made W).of ?_
  have h0 : (W.alloc (.map #[] 0)).heap[W.heap.size]? = some (.map #[] 0) := blk_new _ _
  exact (blk_alloc (blk_alloc h0 _) _).trans h0.symm
theorem upto_next {k : Int} (h : 0 ≤ k) (p : Int → Bool) : (upto (k + 1).toNat).filter p = (upto k.toNat).filter p ++ (if p k = true then [k] else []) := by
 have e : (k + 1).toNat = k.toNat + 1 := by omega
 rw [e, upto_succ, List.filter_append, show ((k.toNat : Nat) : Int) = k by omega]
 congr 1
 cases h : p k <;> simp [h]
theorem upto_len (n : Nat) (p : Int → Bool) : ((upto n).filter p).length ≤ n := by
 refine Nat.le_trans (List.length_filter_le _ _) ?_
 simp [upto]
theorem cnt_none (n : Nat) : cnt n (fun _ => false) = 0 := by
 unfold cnt
 simp
section
variable (id kind : Int) (codec : ByteArray) (scale : Int) (A4 : Option Addr) (c4 : Nat) (setup : List Int) (lang name : ByteArray) (pr : Int) (A8 : Option Addr) (c8 : Nat) (edits : List Ed') (A9 : Option Addr) (c9 : Nat) (refs : List Rf) (A10 : Option Addr) (c10 : Nat) (samples : List Sm)
set_option maxHeartbeats 16000000 in
set_option maxRecDepth 100000 in
theorem needs_n (i : Int) (w : World) (hs : smsV 0 0 samples = 0) (hl : samples.length ≤ 400) (h0 : 0 ≤ i) (h1 : i < (samples.length : Int)) (hr : Kd.C k51 w A10 samples.length samples) :
  Calls Try.prog 44 #[.agg #[.int .i64 id, .int .i64 kind, .string codec, .int .i64 scale, .slice A4 setup.length c4, .string lang, .string name, .int .i64 pr, .slice A8 edits.length c8, .slice A9 refs.length c9, .slice A10 samples.length c10], .int .i64 i] w (fun e w' => ∃ v, e = .returned v ∧ Kd.R (Kd.int .i64) 3 w' w.heap.size (fun _ => True) v (ndsL (dps samples) samples.length i) ∧ Below w.heap.size w w') := by
 have hu := Try.underlying40
 have hu3 := Try.underlying92
 have hE := enters_of Try.func60 (by kernel_rfl) rfl
 have hmm := @run_makeMap Try.prog
 have HI := Aside0.mk (And.intro hs (And.intro hl (And.intro h0 h1)))
 have HR := Aside0.mk hr
 clear hs hl h0 h1 hr
 go_enter Try.func44, Try.ntmps44
 go_upto_region 1 with (first | ((with_reducible refine gate_dst (N := 2) rfl ?_); refine zB 2 40 #[.int .i64 id, .int .i64 kind, .string codec, .int .i64 scale, .slice A4 setup.length c4, .string lang, .string name, .int .i64 pr, .slice A8 edits.length c8, .slice A9 refs.length c9, .slice A10 samples.length c10] ?_; intro gb hg W0 hbox hb; have HG := Aside0.mk hg; have HT := Aside0.mk hbox; have HB0 := Aside0.mk hb; clear hbox hb hg))
 have HK := Aside0.mk (st_wk (w := w) HT.out HB0.out)
 unfold stW at HK
 go_upto_region 4 with fail
 generalize World.alloc (World.alloc (World.alloc W0 _) _) _ = W1 at HK ⊢
 generalize W0.heap.size = b at *
 have HT1 := Aside0.mk HK.out.1
 have HC := Aside0.mk (walk_n (.int .i64 id) (.int .i64 kind) (.string codec) (.int .i64 scale) (.slice A4 setup.length c4) (.string lang) (.string name) (.int .i64 pr) (.slice A8 edits.length c8) (.slice A9 refs.length c9) A10 c10 samples w (b + 1) gb (b + 1 + 1) b HI.out.1 HI.out.2.1 HR.out (i.toNat + 1) i (by omega) HI.out.2.2.1 HI.out.2.2.2 W1 (fun _ => false) HT1.out (by rw [cnt_none]; exact HK.out.2) (fun j _ _ h => by cases h))
 have q1 : W1.cell? ⟨b + 1 + 1, 0, none⟩ = some (.func (.func 60) #[] #[.pointer (some ⟨b + 1, 0, none⟩), .pointer (some ⟨gb, 0, none⟩), .pointer (some ⟨b + 1 + 1, 0, none⟩)]) := (blk_cell HT1.out.f 0).trans rfl
 clear HK HT HB0
 go_wp2_with fail
 refine HC.out.mono ?_
 rintro e W2 ⟨rfl, hS2, hg2⟩
 obtain ⟨n, hn⟩ : ∃ n, n = cnt samples.length (fun j => false || rc (dps samples) i j) := ⟨_, rfl⟩
 have hS3 : SetI W2 b n (rc (dps samples) i) := by
  rw [hn]
  simpa only [Bool.false_or] using hS2
 have HS := Aside0.mk hS3
 have HW := Aside0.mk (HT1.out.grown hg2)
 have q10 : W2.cell? ⟨gb, 10, none⟩ = some (.slice A10 samples.length c10) := (blk_cell HW.out.t 10).trans rfl
 clear hS2 hS3 hg2 HT1 HC q1 hn
 go_wp2_with fail
 clear q10
 go_loopg [7, 17] samples.length (fun kq v7 v17 w' => ∃ k : Int, v17 = .int .i64 k ∧ Aside0 (0 ≤ k ∧ k + kq = samples.length) ∧ Aside0 (Kd.R (Kd.int .i64) 3 w' W2.heap.size (fun _ => True) v7 ((upto k.toNat).filter (rc (dps samples) i))) ∧ Aside0 (Below W2.heap.size W2 w'))
 case atStart => exact ⟨0, rfl, ⟨by simp⟩, ⟨Kd.R_nil _ _ _ _ _⟩, ⟨Below.refl _ _⟩⟩
 case round =>
  obtain ⟨k, rfl, hk, HO, HB⟩ := hrel
  by_cases hlt : k < (samples.length : Int)
  ·have hlb : decide (k < (samples.length : Int)) = true := decide_eq_true hlt
   have g0 := hk.out.1
   have hlk := SetI.look (SetM.below HS.out HB.out) g0 (show k < 1000000 by have := HI.out; omega)
   have q0 : wr.cell? ⟨b + 1, 0, none⟩ = some (.map (some b)) := (blk_cell (blk_below HW.out.m HB.out) 0).trans rfl
   obtain ⟨k1, rfl⟩ : ∃ m, gk = m + 1 := ⟨gk - 1, by have := hk.out; omega⟩
   have HY := Aside0.mk (And.intro (show wrap64 (k + 1) = k + 1 by have := HI.out; have := hk.out; exact w64 (by omega) (by omega)) (show 0 ≤ k + 1 ∧ k + 1 + (k1 : Int) = samples.length by have := hk.out; omega))
   have HL := Aside0.mk (show ((upto k.toNat).filter (rc (dps samples) i)).length ≤ 400 by have := upto_len k.toNat (rc (dps samples) i); have := HI.out; omega)
   have HN := Aside0.mk (upto_next g0 (rc (dps samples) i))
   obtain ⟨B, hB⟩ : ∃ B : Bool, B = rc (dps samples) i k := ⟨_, rfl⟩
   rw [← hB] at hlk HN
   generalize (upto k.toNat).filter (rc (dps samples) i) = out at *
   clear hk hlt hB
   cases B with
   | true =>
    go_wp2_with (first | ((with_reducible refine gate_builtin (b := .append) (xs := #[.tmp 23, .tmp 25]) rfl ?_); at_builtin; refine Kd.R_append (Kd.int .i64) (w0 := W2) W2.heap.size rfl (.tmp 23) (.tmp 25) 41 3 (.int .i64 0) 8 rfl Try.underlying41 info3 rfl (by decide) (by omega) u7 out k [.int .i64 k] (fun _ => True) (fun _ => False) rfl rfl ?aP (fun _ hk => hk.elim) ?aF ?aO ?aB ?aS ?aL ?_; (case aP => exact rfl); (case aF => exact (fun _ _ => trivial)); (case aO => exact (rz HO)); (case aB => exact bz); (case aS => exact sz); (case aL => have := HL.out; omega); intro v9 w9 ho hb hg hat; have HO9 := Aside0.mk ho; have HB9 := Aside0.mk hb; clear ho hb hg hat))
    go_roundg k1
    case measure => omega
    case rel => exact ⟨k + 1, by rw [HY.out.1], ⟨HY.out.2⟩, ⟨by rw [HN.out]; exact HO9.out⟩, HB9⟩
   | false =>
    go_wp2_with fail
    go_roundg k1
    case measure => omega
    case rel => exact ⟨k + 1, by rw [HY.out.1], ⟨HY.out.2⟩, ⟨by rw [HN.out]; simpa using HO.out⟩, HB⟩
  ·have hlb : decide (k < (samples.length : Int)) = false := decide_eq_false hlt
   have HE := Aside0.mk (show (upto k.toNat).filter (rc (dps samples) i) = ndsL (dps samples) samples.length i by
    rw [show k.toNat = samples.length by have := hk.out; omega]
    rfl)
   replace hlt := eq_false hlt
   clear hk
   go_wp2_with fail
   go_ret
   exact ⟨_, rfl, Kd.R_lower (HE.out ▸ HO.out) HW.out.below.size, HW.out.below.trans (HB.out.mono HW.out.below.size)⟩
end
end Go.Proofs.Ytknklchmpohjfaa.Gc
namespace Go.Proofs.Ytknklchmpohjfaa.E
open Go.RowKit Go Go.Proofs.YtknklchmpohjfaaW.PrintWords Go.Proofs.YtknklchmpohjfaaW.PrintLast Go.Proofs.YtknklchmpohjfaaW.PrintMore Go.Proofs.Ytknklchmpohjfaa.Tk Go.Proofs.Ytknklchmpohjfaa.Ny Go.Proofs.Ytknklchmpohjfaa.Gt Go.Proofs.Ytknklchmpohjfaa.Gc
set_option linter.unusedVariables false
def ndsOk (l : List Sm) (i : Int) : Bool := decide (smsV 0 0 l = 0) && (decide (l.length ≤ 400) && (decide (0 ≤ i) && decide (i < (l.length : Int))))
def model_needs.f (a0_0 : Int) (a0_1 : Int) (a0_2 : ByteArray) (a0_3 : Int) (l0_4 : List Int) (a0_5 : ByteArray) (a0_6 : ByteArray) (a0_7 : Int) (l0_8 : List (S86)) (l0_9 : List (S68)) (l0_10 : List (S51)) (a1 : Int) : Option (List Int) := if ndsOk l0_10 a1 = true then some (ndsL (dps l0_10) l0_10.length a1) else none
theorem model_needs.calls (a0_0 : Int) (a0_1 : Int) (a0_2 : ByteArray) (a0_3 : Int) (A0_4 : Option Addr) (c0_4 : Nat) (l0_4 : List Int) (a0_5 : ByteArray) (a0_6 : ByteArray) (a0_7 : Int) (A0_8 : Option Addr) (c0_8 : Nat) (l0_8 : List (S86)) (A0_9 : Option Addr) (c0_9 : Nat) (l0_9 : List (S68)) (A0_10 : Option Addr) (c0_10 : Nat) (l0_10 : List (S51)) (a1 : Int) (r : List Int) (w : World) (hr0_4 : Kd.C (Kd.int .u8) w A0_4 l0_4.length l0_4) (hc0_4 : l0_4.length ≤ c0_4) (hr0_8 : Kd.C k86 w A0_8 l0_8.length l0_8) (hc0_8 : l0_8.length ≤ c0_8) (hr0_9 : Kd.C k68 w A0_9 l0_9.length l0_9) (hc0_9 : l0_9.length ≤ c0_9) (hr0_10 : Kd.C k51 w A0_10 l0_10.length l0_10) (hc0_10 : l0_10.length ≤ c0_10) (h : model_needs.f a0_0 a0_1 a0_2 a0_3 l0_4 a0_5 a0_6 a0_7 l0_8 l0_9 l0_10 a1 = some r) :
  Calls Try.prog 44 #[.agg #[.int .i64 a0_0, .int .i64 a0_1, .string a0_2, .int .i64 a0_3, .slice A0_4 l0_4.length c0_4, .string a0_5, .string a0_6, .int .i64 a0_7, .slice A0_8 l0_8.length c0_8, .slice A0_9 l0_9.length c0_9, .slice A0_10 l0_10.length c0_10], .int .i64 a1] w fun e w' => ∃ v0_ : Value, e = .returned (v0_) ∧ Kd.R (Kd.int .i64) 3 w' w.heap.size (fun _ => True) v0_ r ∧ Below w.heap.size w w' := by
 unfold model_needs.f at h
 split at h
 ·rename_i hok
  unfold ndsOk at hok
  simp only [Bool.and_eq_true, decide_eq_true_eq] at hok
  have hV : ndsL (dps l0_10) l0_10.length a1 = r := Option.some.inj h
  have := needs_n a0_0 a0_1 a0_2 a0_3 A0_4 c0_4 l0_4 a0_5 a0_6 a0_7 A0_8 c0_8 l0_8 A0_9 c0_9 l0_9 A0_10 c0_10 l0_10 a1 w hok.1 hok.2.1 hok.2.2.1 hok.2.2.2 hr0_10
  rw [hV] at this
  exact this
 ·cases h
end Go.Proofs.Ytknklchmpohjfaa.E
namespace Go.Proofs.Ytknklchmpohjfaa.E
open Go.Proofs.Ytknklchmpohjfaa.Z Go.RowKit Go.Proofs.YtknklchmpohjfaaW.PrintWords Go.Proofs.YtknklchmpohjfaaW.PrintLast Go.Proofs.YtknklchmpohjfaaW.PrintMore
attribute [local go_sem] max2_int min2_int max_two min_two max_three min_three max_four min_four
set_option linter.unusedVariables false
set_option linter.unusedSimpArgs false
def model_Start.l0 : Nat → Int → Int → Int → ByteArray → Int → List Int → ByteArray → ByteArray → Int → List (S86) → List (S68) → List (S51) → Option (Int × Int)
  | 0, _, _, _, _, _, _, _, _, _, _, _, _ => none
  | k + 1, x7, x164000, x164001, x164002, x164003, x164004, x164005, x164006, x164007, x164008, x164009, x164010 => if x7 ≥ 0 then (if 0 ≤ x7 then (if x7 < (x164010.length : Int) then (if (rd_T51 x164010 x7).f3 = true then (some (x7, 0)) else (model_Start.l0 k (wrap64 (x7 - 1)) x164000 x164001 x164002 x164003 x164004 x164005 x164006 x164007 x164008 x164009 x164010)) else (none)) else (none)) else (some (0, 5))
def model_Start.f (k : Nat) (a0_0 : Int) (a0_1 : Int) (a0_2 : ByteArray) (a0_3 : Int) (l0_4 : List Int) (a0_5 : ByteArray) (a0_6 : ByteArray) (a0_7 : Int) (l0_8 : List (S86)) (l0_9 : List (S68)) (l0_10 : List (S51)) (a1 : Int) : Option (Int × Int) := (model_ready.f a0_0 a0_1 a0_2 a0_3 l0_4 a0_5 a0_6 a0_7 l0_8 l0_9 l0_10 a1).bind fun t164 => (if t164 = 0 then ((model_needs.f a0_0 a0_1 a0_2 a0_3 l0_4 a0_5 a0_6 a0_7 l0_8 l0_9 l0_10 a1).bind fun t165 => (if 0 < (t165.length : Int) then (model_Start.l0 k (rd t165 0) a0_0 a0_1 a0_2 a0_3 l0_4 a0_5 a0_6 a0_7 l0_8 l0_9 l0_10) else (none))) else (some (0, t164)))
set_option maxHeartbeats 8000000 in
set_option maxRecDepth 100000 in
theorem model_Start.calls (k : Nat) (a0_0 : Int) (a0_1 : Int) (a0_2 : ByteArray) (a0_3 : Int) (A0_4 : Option Addr) (c0_4 : Nat) (l0_4 : List Int) (a0_5 : ByteArray) (a0_6 : ByteArray) (a0_7 : Int) (A0_8 : Option Addr) (c0_8 : Nat) (l0_8 : List (S86)) (A0_9 : Option Addr) (c0_9 : Nat) (l0_9 : List (S68)) (A0_10 : Option Addr) (c0_10 : Nat) (l0_10 : List (S51)) (a1 : Int) (r1 : Int) (r2 : Int) (w : World) (hr0_4 : Kd.C (Kd.int .u8) w A0_4 l0_4.length l0_4) (hc0_4 : l0_4.length ≤ c0_4) (hr0_8 : Kd.C k86 w A0_8 l0_8.length l0_8) (hc0_8 : l0_8.length ≤ c0_8) (hr0_9 : Kd.C k68 w A0_9 l0_9.length l0_9) (hc0_9 : l0_9.length ≤ c0_9) (hr0_10 : Kd.C k51 w A0_10 l0_10.length l0_10) (hc0_10 : l0_10.length ≤ c0_10) (h : model_Start.f k a0_0 a0_1 a0_2 a0_3 l0_4 a0_5 a0_6 a0_7 l0_8 l0_9 l0_10 a1 = some (r1, r2)) :
  Calls Try.prog 18 #[.agg #[.int .i64 a0_0, .int .i64 a0_1, .string a0_2, .int .i64 a0_3, .slice A0_4 l0_4.length c0_4, .string a0_5, .string a0_6, .int .i64 a0_7, .slice A0_8 l0_8.length c0_8, .slice A0_9 l0_9.length c0_9, .slice A0_10 l0_10.length c0_10], .int .i64 a1] w fun e w' => e = .returned (.tuple #[.int .i64 r1, .int .i64 r2]) ∧ Below w.heap.size w w' := by
 have hu40 := Try.underlying40; have HR0_4 := Aside0.mk hr0_4; have HC0_4 := Aside0.mk hc0_4; clear hr0_4 hc0_4; have HR0_8 := Aside0.mk hr0_8; have HC0_8 := Aside0.mk hc0_8; clear hr0_8 hc0_8; have HR0_9 := Aside0.mk hr0_9; have HC0_9 := Aside0.mk hc0_9; clear hr0_9 hc0_9; have HR0_10 := Aside0.mk hr0_10; have HC0_10 := Aside0.mk hc0_10; clear hr0_10 hc0_10; have HB := Aside0.mk (Below.refl w.heap.size w); have H : ((model_ready.f a0_0 a0_1 a0_2 a0_3 l0_4 a0_5 a0_6 a0_7 l0_8 l0_9 l0_10 a1).bind fun t164 => (if t164 = 0 then ((model_needs.f a0_0 a0_1 a0_2 a0_3 l0_4 a0_5 a0_6 a0_7 l0_8 l0_9 l0_10 a1).bind fun t165 => (if 0 < (t165.length : Int) then (model_Start.l0 k (rd t165 0) a0_0 a0_1 a0_2 a0_3 l0_4 a0_5 a0_6 a0_7 l0_8 l0_9 l0_10) else (none))) else (some (0, t164)))) = some (r1, r2) := h
 clear h; obtain ⟨t164, A3, H⟩ := ob H
 by_cases c4 : t164 = 0
 ·rw [if_pos c4] at H; have c4b0 : (t164 == 0) = true := beq_iff_eq.mpr c4; have c4b1 : (t164 != 0) = false := bne_eq_false_iff_eq.mpr c4; clear c4; obtain ⟨t165, A5, H⟩ := ob H
  by_cases c6 : 0 < (t165.length : Int)
  ·rw [if_pos c6] at H; have c6b0 : decide (0 < (t165.length : Int)) = true := decide_eq_true c6; have c6b1 : decide (0 < t165.length) = true := decide_eq_true (by omega); clear c6; have H' := Aside0.mk H; clear H
   go_enter Try.func18, Try.ntmps18
   go_wp2_with (first | ((with_reducible refine gate_dst (N := 2) rfl ?_); refine zB 2 40 #[.int .i64 a0_0, .int .i64 a0_1, .string a0_2, .int .i64 a0_3, .slice A0_4 l0_4.length c0_4, .string a0_5, .string a0_6, .int .i64 a0_7, .slice A0_8 l0_8.length c0_8, .slice A0_9 l0_9.length c0_9, .slice A0_10 l0_10.length c0_10] ?_; intro gb163 hg w7 hbox hb; have BK163 := Aside0.mk hbox; have GW163 := gz hg; have GE163 := gz hg; replace HB := bp hb; clear hb hbox hg; have hcz8_0 : w7.cell? ⟨gb163, 0, none⟩ = some (.int .i64 a0_0) := ct BK163 0; have hcz8_1 : w7.cell? ⟨gb163, 1, none⟩ = some (.int .i64 a0_1) := ct BK163 1; have hcz8_2 : w7.cell? ⟨gb163, 2, none⟩ = some (.string a0_2) := ct BK163 2; have hcz8_3 : w7.cell? ⟨gb163, 3, none⟩ = some (.int .i64 a0_3) := ct BK163 3; have hcz8_4 : w7.cell? ⟨gb163, 4, none⟩ = some (.slice A0_4 l0_4.length c0_4) := ct BK163 4; have hcz8_5 : w7.cell? ⟨gb163, 5, none⟩ = some (.string a0_5) := ct BK163 5; have hcz8_6 : w7.cell? ⟨gb163, 6, none⟩ = some (.string a0_6) := ct BK163 6; have hcz8_7 : w7.cell? ⟨gb163, 7, none⟩ = some (.int .i64 a0_7) := ct BK163 7; have hcz8_8 : w7.cell? ⟨gb163, 8, none⟩ = some (.slice A0_8 l0_8.length c0_8) := ct BK163 8; have hcz8_9 : w7.cell? ⟨gb163, 9, none⟩ = some (.slice A0_9 l0_9.length c0_9) := ct BK163 9; have hcz8_10 : w7.cell? ⟨gb163, 10, none⟩ = some (.slice A0_10 l0_10.length c0_10) := ct BK163 10; have hfz8_0 := blk_frozen BK163.out 0; have hfz8_1 := blk_frozen BK163.out 1; have hfz8_2 := blk_frozen BK163.out 2; have hfz8_3 := blk_frozen BK163.out 3; have hfz8_4 := blk_frozen BK163.out 4; have hfz8_5 := blk_frozen BK163.out 5; have hfz8_6 := blk_frozen BK163.out 6; have hfz8_7 := blk_frozen BK163.out 7; have hfz8_8 := blk_frozen BK163.out 8; have hfz8_9 := blk_frozen BK163.out 9; have hfz8_10 := blk_frozen BK163.out 10) | ((with_reducible refine gate_callee (f := 43) rfl ?_); refine zC 10 Try.func43 #[.agg #[.int .i64 a0_0, .int .i64 a0_1, .string a0_2, .int .i64 a0_3, .slice A0_4 l0_4.length c0_4, .string a0_5, .string a0_6, .int .i64 a0_7, .slice A0_8 l0_8.length c0_8, .slice A0_9 l0_9.length c0_9, .slice A0_10 l0_10.length c0_10], .int .i64 a1] ?_; (with_reducible refine (model_ready.calls a0_0 a0_1 a0_2 a0_3 _ _ l0_4 a0_5 a0_6 a0_7 _ _ l0_8 _ _ l0_9 _ _ l0_10 a1 t164 _ ?side1 ?side2 ?side3 ?side4 ?side5 ?side6 ?side7 ?side8 A3.out).mono ?_); (case side1 => exact cz HR0_4); (case side2 => exact HC0_4.out); (case side3 => exact cz HR0_8); (case side4 => exact HC0_8.out); (case side5 => exact cz HR0_9); (case side6 => exact HC0_9.out); (case side7 => exact cz HR0_10); (case side8 => exact HC0_10.out); rintro e w9 ⟨rfl, hb⟩; refine ⟨_, rfl, ?_⟩; replace BK163 := kb BK163 hb; replace HB := bp hb; clear hb; have hcz10_0 : w9.cell? ⟨gb163, 0, none⟩ = some (.int .i64 a0_0) := ct BK163 0; have hcz10_1 : w9.cell? ⟨gb163, 1, none⟩ = some (.int .i64 a0_1) := ct BK163 1; have hcz10_2 : w9.cell? ⟨gb163, 2, none⟩ = some (.string a0_2) := ct BK163 2; have hcz10_3 : w9.cell? ⟨gb163, 3, none⟩ = some (.int .i64 a0_3) := ct BK163 3; have hcz10_4 : w9.cell? ⟨gb163, 4, none⟩ = some (.slice A0_4 l0_4.length c0_4) := ct BK163 4; have hcz10_5 : w9.cell? ⟨gb163, 5, none⟩ = some (.string a0_5) := ct BK163 5; have hcz10_6 : w9.cell? ⟨gb163, 6, none⟩ = some (.string a0_6) := ct BK163 6; have hcz10_7 : w9.cell? ⟨gb163, 7, none⟩ = some (.int .i64 a0_7) := ct BK163 7; have hcz10_8 : w9.cell? ⟨gb163, 8, none⟩ = some (.slice A0_8 l0_8.length c0_8) := ct BK163 8; have hcz10_9 : w9.cell? ⟨gb163, 9, none⟩ = some (.slice A0_9 l0_9.length c0_9) := ct BK163 9; have hcz10_10 : w9.cell? ⟨gb163, 10, none⟩ = some (.slice A0_10 l0_10.length c0_10) := ct BK163 10; have hfz10_0 := blk_frozen BK163.out 0; have hfz10_1 := blk_frozen BK163.out 1; have hfz10_2 := blk_frozen BK163.out 2; have hfz10_3 := blk_frozen BK163.out 3; have hfz10_4 := blk_frozen BK163.out 4; have hfz10_5 := blk_frozen BK163.out 5; have hfz10_6 := blk_frozen BK163.out 6; have hfz10_7 := blk_frozen BK163.out 7; have hfz10_8 := blk_frozen BK163.out 8; have hfz10_9 := blk_frozen BK163.out 9; have hfz10_10 := blk_frozen BK163.out 10) | ((with_reducible refine gate_callee (f := 44) rfl ?_); refine zC 16 Try.func44 #[.agg #[.int .i64 a0_0, .int .i64 a0_1, .string a0_2, .int .i64 a0_3, .slice A0_4 l0_4.length c0_4, .string a0_5, .string a0_6, .int .i64 a0_7, .slice A0_8 l0_8.length c0_8, .slice A0_9 l0_9.length c0_9, .slice A0_10 l0_10.length c0_10], .int .i64 a1] ?_; (with_reducible refine (model_needs.calls a0_0 a0_1 a0_2 a0_3 _ _ l0_4 a0_5 a0_6 a0_7 _ _ l0_8 _ _ l0_9 _ _ l0_10 a1 t165 _ ?side1 ?side2 ?side3 ?side4 ?side5 ?side6 ?side7 ?side8 A5.out).mono ?_); (case side1 => exact cz HR0_4); (case side2 => exact HC0_4.out); (case side3 => exact cz HR0_8); (case side4 => exact HC0_8.out); (case side5 => exact cz HR0_9); (case side6 => exact HC0_9.out); (case side7 => exact cz HR0_10); (case side8 => exact HC0_10.out); rintro e w11 ⟨v166, rfl, ho0, hb⟩; refine ⟨_, rfl, ?_⟩; have HO167 := Aside0.mk (Kd.R_lower ho0 sz); replace BK163 := kb BK163 hb; replace HB := bp hb; clear hb ho0; obtain ⟨Ao12, co12, eo12⟩ := Kd.R_slice HO167.out; subst eo12; have p168 : 0 ≤ (0 : Int) := (by omega); have q168 : 0 < (t165.length : Int) := od; obtain ⟨ad168, e168, hx168_0⟩ := Kd.at_int (Kd.R_reads' HO167.out).2.2 0 p168 q168; cases e168; have qi168 : (0 < t165.length) = True := eq_true (by omega); (try rw [show ((0 : Int)).toNat = 0 from rfl] at hx168_0); (try rw [Addr.add_zero'] at hx168_0); replace p168 := eq_true p168; replace q168 := eq_true q168))
   go_loopg [7] k (fun kq v7 w' => ∃ (x7_1 : Int), v7 = .int .i64 x7_1 ∧ Aside0 (model_Start.l0 kq x7_1 a0_0 a0_1 a0_2 a0_3 l0_4 a0_5 a0_6 a0_7 l0_8 l0_9 l0_10 = some (r1, r2)) ∧ Aside0 (kq ≤ k) ∧ Aside0 (w'.heap[gb163]? = some (.cells #[.int .i64 a0_0, .int .i64 a0_1, .string a0_2, .int .i64 a0_3, (.slice A0_4 l0_4.length c0_4), .string a0_5, .string a0_6, .int .i64 a0_7, (.slice A0_8 l0_8.length c0_8), (.slice A0_9 l0_9.length c0_9), (.slice A0_10 l0_10.length c0_10)] 40 (0, 0))) ∧ Aside0 (Below w.heap.size w w'))
   case atStart => exact ⟨(rd t165 0), jz, H', ⟨Nat.le_refl _⟩, ⟨kz⟩, ⟨bz⟩⟩
   case round =>
    clear H'
    try clear c1
    try clear p1
    try clear q1
    try clear hx1
    try clear qi1
    try clear p2
    try clear c4
    try clear c4b0
    try clear c4b1
    try clear c6
    try clear c6b0
    try clear c6b1
    try clear hcz10_0
    try clear hcz10_1
    try clear hcz10_10
    try clear hcz10_2
    try clear hcz10_3
    try clear hcz10_4
    try clear hcz10_5
    try clear hcz10_6
    try clear hcz10_7
    try clear hcz10_8
    try clear hcz10_9
    try clear hcz8_0
    try clear hcz8_1
    try clear hcz8_10
    try clear hcz8_2
    try clear hcz8_3
    try clear hcz8_4
    try clear hcz8_5
    try clear hcz8_6
    try clear hcz8_7
    try clear hcz8_8
    try clear hcz8_9
    try clear hfz10_0
    try clear hfz10_1
    try clear hfz10_10
    try clear hfz10_2
    try clear hfz10_3
    try clear hfz10_4
    try clear hfz10_5
    try clear hfz10_6
    try clear hfz10_7
    try clear hfz10_8
    try clear hfz10_9
    try clear hfz8_0
    try clear hfz8_1
    try clear hfz8_10
    try clear hfz8_2
    try clear hfz8_3
    try clear hfz8_4
    try clear hfz8_5
    try clear hfz8_6
    try clear hfz8_7
    try clear hfz8_8
    try clear hfz8_9
    try clear hx168_0
    try clear p168
    try clear q168
    obtain ⟨x7_1, rfl, HA, HK1, BK163, HB⟩ := hrel
    cases gk with
    | zero => exact absurd HA.out (by simp [model_Start.l0])
    | succ k1 =>
     have H := HA.out; clear HA; simp only [model_Start.l0] at H
     by_cases c13 : x7_1 ≥ 0
     ·rw [if_pos c13] at H; have c13b0 : decide (0 ≤ x7_1) = true := decide_eq_true c13; clear c13
      by_cases c14 : 0 ≤ x7_1
      ·rw [if_pos c14] at H; have c14b0 : decide (0 ≤ x7_1) = true := decide_eq_true c14; clear c14
       by_cases c15 : x7_1 < (l0_10.length : Int)
       ·rw [if_pos c15] at H; have c15b0 : decide (x7_1 < (l0_10.length : Int)) = true := decide_eq_true c15; clear c15; obtain ⟨bq16, hbq16⟩ : ∃ b_ : Bool, b_ = ((rd_T51 l0_10 x7_1).f3) := ⟨_, rfl⟩; replace H : (if bq16 = true then (some (x7_1, 0)) else (model_Start.l0 k1 (wrap64 (x7_1 - 1)) a0_0 a0_1 a0_2 a0_3 l0_4 a0_5 a0_6 a0_7 l0_8 l0_9 l0_10)) = some (r1, r2) := by rw [← hbq16] at H; exact H
        have Nbq16 := Aside0.mk hbq16; clear hbq16
        by_cases c17 : bq16 = true
        ·subst c17; rw [if_pos rfl] at H; simp only [Option.some.injEq, Prod.mk.injEq] at H; obtain ⟨rfl, rfl⟩ := H; have hcz18_0 : wr.cell? ⟨gb163, 0, none⟩ = some (.int .i64 a0_0) := ct BK163 0; have hcz18_1 : wr.cell? ⟨gb163, 1, none⟩ = some (.int .i64 a0_1) := ct BK163 1; have hcz18_2 : wr.cell? ⟨gb163, 2, none⟩ = some (.string a0_2) := ct BK163 2; have hcz18_3 : wr.cell? ⟨gb163, 3, none⟩ = some (.int .i64 a0_3) := ct BK163 3; have hcz18_4 : wr.cell? ⟨gb163, 4, none⟩ = some (.slice A0_4 l0_4.length c0_4) := ct BK163 4; have hcz18_5 : wr.cell? ⟨gb163, 5, none⟩ = some (.string a0_5) := ct BK163 5; have hcz18_6 : wr.cell? ⟨gb163, 6, none⟩ = some (.string a0_6) := ct BK163 6; have hcz18_7 : wr.cell? ⟨gb163, 7, none⟩ = some (.int .i64 a0_7) := ct BK163 7; have hcz18_8 : wr.cell? ⟨gb163, 8, none⟩ = some (.slice A0_8 l0_8.length c0_8) := ct BK163 8; have hcz18_9 : wr.cell? ⟨gb163, 9, none⟩ = some (.slice A0_9 l0_9.length c0_9) := ct BK163 9; have hcz18_10 : wr.cell? ⟨gb163, 10, none⟩ = some (.slice A0_10 l0_10.length c0_10) := ct BK163 10; have hfz18_0 := blk_frozen BK163.out 0; have hfz18_1 := blk_frozen BK163.out 1; have hfz18_2 := blk_frozen BK163.out 2; have hfz18_3 := blk_frozen BK163.out 3; have hfz18_4 := blk_frozen BK163.out 4; have hfz18_5 := blk_frozen BK163.out 5; have hfz18_6 := blk_frozen BK163.out 6; have hfz18_7 := blk_frozen BK163.out 7; have hfz18_8 := blk_frozen BK163.out 8; have hfz18_9 := blk_frozen BK163.out 9; have hfz18_10 := blk_frozen BK163.out 10; have p169 : 0 ≤ (x7_1 : Int) := od; have q169 : x7_1 < (l0_10.length : Int) := od; obtain ⟨ad169, A169_4, c169_4, A169_5, c169_5, e169, hx169_0, hx169_1, hx169_2, hx169_3, hx169_4, hx169_5, hl169_4, hi169_4, hl169_5, hi169_5⟩ := at_T51 HR0_10.out x7_1 p169 q169
         (try rw [← Nbq16.out] at hx169_3)
         cases e169
         replace hx169_0 := cl HB hx169_0; replace hx169_1 := cl HB hx169_1; replace hx169_2 := cl HB hx169_2; replace hx169_3 := cl HB hx169_3; replace hx169_4 := cl HB hx169_4; replace hx169_5 := cl HB hx169_5; have HR169_4 := Aside0.mk hi169_4; have HC169_4 := Aside0.mk hl169_4; clear hi169_4 hl169_4; have HR169_5 := Aside0.mk hi169_5; have HC169_5 := Aside0.mk hl169_5; clear hi169_5 hl169_5; replace p169 := eq_true p169; replace q169 := eq_true q169
         go_wp2
         go_ret2
         exact ⟨ez, bz⟩
        ·obtain rfl := bf c17; rw [if_neg (show ¬ (false = true) by decide)] at H; have H' := Aside0.mk H; clear H; have hcz19_0 : wr.cell? ⟨gb163, 0, none⟩ = some (.int .i64 a0_0) := ct BK163 0; have hcz19_1 : wr.cell? ⟨gb163, 1, none⟩ = some (.int .i64 a0_1) := ct BK163 1; have hcz19_2 : wr.cell? ⟨gb163, 2, none⟩ = some (.string a0_2) := ct BK163 2; have hcz19_3 : wr.cell? ⟨gb163, 3, none⟩ = some (.int .i64 a0_3) := ct BK163 3; have hcz19_4 : wr.cell? ⟨gb163, 4, none⟩ = some (.slice A0_4 l0_4.length c0_4) := ct BK163 4; have hcz19_5 : wr.cell? ⟨gb163, 5, none⟩ = some (.string a0_5) := ct BK163 5; have hcz19_6 : wr.cell? ⟨gb163, 6, none⟩ = some (.string a0_6) := ct BK163 6; have hcz19_7 : wr.cell? ⟨gb163, 7, none⟩ = some (.int .i64 a0_7) := ct BK163 7; have hcz19_8 : wr.cell? ⟨gb163, 8, none⟩ = some (.slice A0_8 l0_8.length c0_8) := ct BK163 8; have hcz19_9 : wr.cell? ⟨gb163, 9, none⟩ = some (.slice A0_9 l0_9.length c0_9) := ct BK163 9; have hcz19_10 : wr.cell? ⟨gb163, 10, none⟩ = some (.slice A0_10 l0_10.length c0_10) := ct BK163 10; have hfz19_0 := blk_frozen BK163.out 0; have hfz19_1 := blk_frozen BK163.out 1; have hfz19_2 := blk_frozen BK163.out 2; have hfz19_3 := blk_frozen BK163.out 3; have hfz19_4 := blk_frozen BK163.out 4; have hfz19_5 := blk_frozen BK163.out 5; have hfz19_6 := blk_frozen BK163.out 6; have hfz19_7 := blk_frozen BK163.out 7; have hfz19_8 := blk_frozen BK163.out 8; have hfz19_9 := blk_frozen BK163.out 9; have hfz19_10 := blk_frozen BK163.out 10; have p169 : 0 ≤ (x7_1 : Int) := od; have q169 : x7_1 < (l0_10.length : Int) := od; obtain ⟨ad169, A169_4, c169_4, A169_5, c169_5, e169, hx169_0, hx169_1, hx169_2, hx169_3, hx169_4, hx169_5, hl169_4, hi169_4, hl169_5, hi169_5⟩ := at_T51 HR0_10.out x7_1 p169 q169
         (try rw [← Nbq16.out] at hx169_3)
         cases e169
         replace hx169_0 := cl HB hx169_0; replace hx169_1 := cl HB hx169_1; replace hx169_2 := cl HB hx169_2; replace hx169_3 := cl HB hx169_3; replace hx169_4 := cl HB hx169_4; replace hx169_5 := cl HB hx169_5; have HR169_4 := Aside0.mk hi169_4; have HC169_4 := Aside0.mk hl169_4; clear hi169_4 hl169_4; have HR169_5 := Aside0.mk hi169_5; have HC169_5 := Aside0.mk hl169_5; clear hi169_5 hl169_5; replace p169 := eq_true p169; replace q169 := eq_true q169
         go_wp2
         go_roundg k1
         case measure => have := HK1.out; omega
         case rel => exact ⟨(wrap64 (x7_1 - 1)), jz, H', ⟨by have := HK1.out; omega⟩, ⟨kz⟩, ⟨bz⟩⟩
       ·rw [if_neg c15] at H
        exact absurd H (by simp)
      ·rw [if_neg c14] at H
       exact absurd H (by simp)
     ·rw [if_neg c13] at H; have c13b0 : decide (0 ≤ x7_1) = false := decide_eq_false c13; clear c13; simp only [Option.some.injEq, Prod.mk.injEq] at H; obtain ⟨rfl, rfl⟩ := H
      go_wp2
      go_ret2
      exact ⟨ez, bz⟩
  ·rw [if_neg c6] at H
   exact absurd H (by simp)
 ·rw [if_neg c4] at H; have c4b0 : (t164 == 0) = false := beq_eq_false_iff_ne.mpr c4; have c4b1 : (t164 != 0) = true := bne_iff_ne.mpr c4; simp only [Option.some.injEq, Prod.mk.injEq] at H; obtain ⟨rfl, rfl⟩ := H
  go_enter Try.func18, Try.ntmps18
  go_wp2_with (first | ((with_reducible refine gate_dst (N := 2) rfl ?_); refine zB 2 40 #[.int .i64 a0_0, .int .i64 a0_1, .string a0_2, .int .i64 a0_3, .slice A0_4 l0_4.length c0_4, .string a0_5, .string a0_6, .int .i64 a0_7, .slice A0_8 l0_8.length c0_8, .slice A0_9 l0_9.length c0_9, .slice A0_10 l0_10.length c0_10] ?_; intro gb163 hg w20 hbox hb; have BK163 := Aside0.mk hbox; have GW163 := gz hg; have GE163 := gz hg; replace HB := bp hb; clear hb hbox hg; have hcz21_0 : w20.cell? ⟨gb163, 0, none⟩ = some (.int .i64 a0_0) := ct BK163 0; have hcz21_1 : w20.cell? ⟨gb163, 1, none⟩ = some (.int .i64 a0_1) := ct BK163 1; have hcz21_2 : w20.cell? ⟨gb163, 2, none⟩ = some (.string a0_2) := ct BK163 2; have hcz21_3 : w20.cell? ⟨gb163, 3, none⟩ = some (.int .i64 a0_3) := ct BK163 3; have hcz21_4 : w20.cell? ⟨gb163, 4, none⟩ = some (.slice A0_4 l0_4.length c0_4) := ct BK163 4; have hcz21_5 : w20.cell? ⟨gb163, 5, none⟩ = some (.string a0_5) := ct BK163 5; have hcz21_6 : w20.cell? ⟨gb163, 6, none⟩ = some (.string a0_6) := ct BK163 6; have hcz21_7 : w20.cell? ⟨gb163, 7, none⟩ = some (.int .i64 a0_7) := ct BK163 7; have hcz21_8 : w20.cell? ⟨gb163, 8, none⟩ = some (.slice A0_8 l0_8.length c0_8) := ct BK163 8; have hcz21_9 : w20.cell? ⟨gb163, 9, none⟩ = some (.slice A0_9 l0_9.length c0_9) := ct BK163 9; have hcz21_10 : w20.cell? ⟨gb163, 10, none⟩ = some (.slice A0_10 l0_10.length c0_10) := ct BK163 10; have hfz21_0 := blk_frozen BK163.out 0; have hfz21_1 := blk_frozen BK163.out 1; have hfz21_2 := blk_frozen BK163.out 2; have hfz21_3 := blk_frozen BK163.out 3; have hfz21_4 := blk_frozen BK163.out 4; have hfz21_5 := blk_frozen BK163.out 5; have hfz21_6 := blk_frozen BK163.out 6; have hfz21_7 := blk_frozen BK163.out 7; have hfz21_8 := blk_frozen BK163.out 8; have hfz21_9 := blk_frozen BK163.out 9; have hfz21_10 := blk_frozen BK163.out 10) | ((with_reducible refine gate_callee (f := 43) rfl ?_); refine zC 10 Try.func43 #[.agg #[.int .i64 a0_0, .int .i64 a0_1, .string a0_2, .int .i64 a0_3, .slice A0_4 l0_4.length c0_4, .string a0_5, .string a0_6, .int .i64 a0_7, .slice A0_8 l0_8.length c0_8, .slice A0_9 l0_9.length c0_9, .slice A0_10 l0_10.length c0_10], .int .i64 a1] ?_; (with_reducible refine (model_ready.calls a0_0 a0_1 a0_2 a0_3 _ _ l0_4 a0_5 a0_6 a0_7 _ _ l0_8 _ _ l0_9 _ _ l0_10 a1 t164 _ ?side1 ?side2 ?side3 ?side4 ?side5 ?side6 ?side7 ?side8 A3.out).mono ?_); (case side1 => exact cz HR0_4); (case side2 => exact HC0_4.out); (case side3 => exact cz HR0_8); (case side4 => exact HC0_8.out); (case side5 => exact cz HR0_9); (case side6 => exact HC0_9.out); (case side7 => exact cz HR0_10); (case side8 => exact HC0_10.out); rintro e w22 ⟨rfl, hb⟩; refine ⟨_, rfl, ?_⟩; replace BK163 := kb BK163 hb; replace HB := bp hb; clear hb))
  go_ret2
  exact ⟨ez, bz⟩
def model_Needs.f (a0_0 : Int) (a0_1 : Int) (a0_2 : ByteArray) (a0_3 : Int) (l0_4 : List Int) (a0_5 : ByteArray) (a0_6 : ByteArray) (a0_7 : Int) (l0_8 : List (S86)) (l0_9 : List (S68)) (l0_10 : List (S51)) (a1 : Int) : Option (List Int × Int) := (model_ready.f a0_0 a0_1 a0_2 a0_3 l0_4 a0_5 a0_6 a0_7 l0_8 l0_9 l0_10 a1).bind fun t110 => (if t110 = 0 then ((model_needs.f a0_0 a0_1 a0_2 a0_3 l0_4 a0_5 a0_6 a0_7 l0_8 l0_9 l0_10 a1).bind fun t111 => (some (t111, 0))) else (some (([] : List Int), t110)))
set_option maxHeartbeats 8000000 in
set_option maxRecDepth 100000 in
theorem model_Needs.calls (a0_0 : Int) (a0_1 : Int) (a0_2 : ByteArray) (a0_3 : Int) (A0_4 : Option Addr) (c0_4 : Nat) (l0_4 : List Int) (a0_5 : ByteArray) (a0_6 : ByteArray) (a0_7 : Int) (A0_8 : Option Addr) (c0_8 : Nat) (l0_8 : List (S86)) (A0_9 : Option Addr) (c0_9 : Nat) (l0_9 : List (S68)) (A0_10 : Option Addr) (c0_10 : Nat) (l0_10 : List (S51)) (a1 : Int) (r1 : List Int) (r2 : Int) (w : World) (hr0_4 : Kd.C (Kd.int .u8) w A0_4 l0_4.length l0_4) (hc0_4 : l0_4.length ≤ c0_4) (hr0_8 : Kd.C k86 w A0_8 l0_8.length l0_8) (hc0_8 : l0_8.length ≤ c0_8) (hr0_9 : Kd.C k68 w A0_9 l0_9.length l0_9) (hc0_9 : l0_9.length ≤ c0_9) (hr0_10 : Kd.C k51 w A0_10 l0_10.length l0_10) (hc0_10 : l0_10.length ≤ c0_10) (h : model_Needs.f a0_0 a0_1 a0_2 a0_3 l0_4 a0_5 a0_6 a0_7 l0_8 l0_9 l0_10 a1 = some (r1, r2)) :
  Calls Try.prog 16 #[.agg #[.int .i64 a0_0, .int .i64 a0_1, .string a0_2, .int .i64 a0_3, .slice A0_4 l0_4.length c0_4, .string a0_5, .string a0_6, .int .i64 a0_7, .slice A0_8 l0_8.length c0_8, .slice A0_9 l0_9.length c0_9, .slice A0_10 l0_10.length c0_10], .int .i64 a1] w fun e w' => ∃ v0_ : Value, e = .returned (.tuple #[v0_, .int .i64 r2]) ∧ Kd.R (Kd.int .i64) 3 w' w.heap.size (fun _ => True) v0_ r1 ∧ Below w.heap.size w w' := by
 have hu40 := Try.underlying40; have HR0_4 := Aside0.mk hr0_4; have HC0_4 := Aside0.mk hc0_4; clear hr0_4 hc0_4; have HR0_8 := Aside0.mk hr0_8; have HC0_8 := Aside0.mk hc0_8; clear hr0_8 hc0_8; have HR0_9 := Aside0.mk hr0_9; have HC0_9 := Aside0.mk hc0_9; clear hr0_9 hc0_9; have HR0_10 := Aside0.mk hr0_10; have HC0_10 := Aside0.mk hc0_10; clear hr0_10 hc0_10; have HB := Aside0.mk (Below.refl w.heap.size w); have H : ((model_ready.f a0_0 a0_1 a0_2 a0_3 l0_4 a0_5 a0_6 a0_7 l0_8 l0_9 l0_10 a1).bind fun t110 => (if t110 = 0 then ((model_needs.f a0_0 a0_1 a0_2 a0_3 l0_4 a0_5 a0_6 a0_7 l0_8 l0_9 l0_10 a1).bind fun t111 => (some (t111, 0))) else (some (([] : List Int), t110)))) = some (r1, r2) := h
 clear h; obtain ⟨t110, A3, H⟩ := ob H
 by_cases c4 : t110 = 0
 ·rw [if_pos c4] at H; have c4b0 : (t110 == 0) = true := beq_iff_eq.mpr c4; have c4b1 : (t110 != 0) = false := bne_eq_false_iff_eq.mpr c4; clear c4; obtain ⟨t111, A5, H⟩ := ob H; simp only [Option.some.injEq, Prod.mk.injEq] at H; obtain ⟨rfl, rfl⟩ := H
  go_enter Try.func16, Try.ntmps16
  go_wp2_with (first | ((with_reducible refine gate_dst (N := 2) rfl ?_); refine zB 2 40 #[.int .i64 a0_0, .int .i64 a0_1, .string a0_2, .int .i64 a0_3, .slice A0_4 l0_4.length c0_4, .string a0_5, .string a0_6, .int .i64 a0_7, .slice A0_8 l0_8.length c0_8, .slice A0_9 l0_9.length c0_9, .slice A0_10 l0_10.length c0_10] ?_; intro gb109 hg w6 hbox hb; have BK109 := Aside0.mk hbox; have GW109 := gz hg; have GE109 := gz hg; replace HB := bp hb; clear hb hbox hg; have hcz7_0 : w6.cell? ⟨gb109, 0, none⟩ = some (.int .i64 a0_0) := ct BK109 0; have hcz7_1 : w6.cell? ⟨gb109, 1, none⟩ = some (.int .i64 a0_1) := ct BK109 1; have hcz7_2 : w6.cell? ⟨gb109, 2, none⟩ = some (.string a0_2) := ct BK109 2; have hcz7_3 : w6.cell? ⟨gb109, 3, none⟩ = some (.int .i64 a0_3) := ct BK109 3; have hcz7_4 : w6.cell? ⟨gb109, 4, none⟩ = some (.slice A0_4 l0_4.length c0_4) := ct BK109 4; have hcz7_5 : w6.cell? ⟨gb109, 5, none⟩ = some (.string a0_5) := ct BK109 5; have hcz7_6 : w6.cell? ⟨gb109, 6, none⟩ = some (.string a0_6) := ct BK109 6; have hcz7_7 : w6.cell? ⟨gb109, 7, none⟩ = some (.int .i64 a0_7) := ct BK109 7; have hcz7_8 : w6.cell? ⟨gb109, 8, none⟩ = some (.slice A0_8 l0_8.length c0_8) := ct BK109 8; have hcz7_9 : w6.cell? ⟨gb109, 9, none⟩ = some (.slice A0_9 l0_9.length c0_9) := ct BK109 9; have hcz7_10 : w6.cell? ⟨gb109, 10, none⟩ = some (.slice A0_10 l0_10.length c0_10) := ct BK109 10; have hfz7_0 := blk_frozen BK109.out 0; have hfz7_1 := blk_frozen BK109.out 1; have hfz7_2 := blk_frozen BK109.out 2; have hfz7_3 := blk_frozen BK109.out 3; have hfz7_4 := blk_frozen BK109.out 4; have hfz7_5 := blk_frozen BK109.out 5; have hfz7_6 := blk_frozen BK109.out 6; have hfz7_7 := blk_frozen BK109.out 7; have hfz7_8 := blk_frozen BK109.out 8; have hfz7_9 := blk_frozen BK109.out 9; have hfz7_10 := blk_frozen BK109.out 10) | ((with_reducible refine gate_callee (f := 43) rfl ?_); refine zC 9 Try.func43 #[.agg #[.int .i64 a0_0, .int .i64 a0_1, .string a0_2, .int .i64 a0_3, .slice A0_4 l0_4.length c0_4, .string a0_5, .string a0_6, .int .i64 a0_7, .slice A0_8 l0_8.length c0_8, .slice A0_9 l0_9.length c0_9, .slice A0_10 l0_10.length c0_10], .int .i64 a1] ?_; (with_reducible refine (model_ready.calls a0_0 a0_1 a0_2 a0_3 _ _ l0_4 a0_5 a0_6 a0_7 _ _ l0_8 _ _ l0_9 _ _ l0_10 a1 t110 _ ?side1 ?side2 ?side3 ?side4 ?side5 ?side6 ?side7 ?side8 A3.out).mono ?_); (case side1 => exact cz HR0_4); (case side2 => exact HC0_4.out); (case side3 => exact cz HR0_8); (case side4 => exact HC0_8.out); (case side5 => exact cz HR0_9); (case side6 => exact HC0_9.out); (case side7 => exact cz HR0_10); (case side8 => exact HC0_10.out); rintro e w8 ⟨rfl, hb⟩; refine ⟨_, rfl, ?_⟩; replace BK109 := kb BK109 hb; replace HB := bp hb; clear hb; have hcz9_0 : w8.cell? ⟨gb109, 0, none⟩ = some (.int .i64 a0_0) := ct BK109 0; have hcz9_1 : w8.cell? ⟨gb109, 1, none⟩ = some (.int .i64 a0_1) := ct BK109 1; have hcz9_2 : w8.cell? ⟨gb109, 2, none⟩ = some (.string a0_2) := ct BK109 2; have hcz9_3 : w8.cell? ⟨gb109, 3, none⟩ = some (.int .i64 a0_3) := ct BK109 3; have hcz9_4 : w8.cell? ⟨gb109, 4, none⟩ = some (.slice A0_4 l0_4.length c0_4) := ct BK109 4; have hcz9_5 : w8.cell? ⟨gb109, 5, none⟩ = some (.string a0_5) := ct BK109 5; have hcz9_6 : w8.cell? ⟨gb109, 6, none⟩ = some (.string a0_6) := ct BK109 6; have hcz9_7 : w8.cell? ⟨gb109, 7, none⟩ = some (.int .i64 a0_7) := ct BK109 7; have hcz9_8 : w8.cell? ⟨gb109, 8, none⟩ = some (.slice A0_8 l0_8.length c0_8) := ct BK109 8; have hcz9_9 : w8.cell? ⟨gb109, 9, none⟩ = some (.slice A0_9 l0_9.length c0_9) := ct BK109 9; have hcz9_10 : w8.cell? ⟨gb109, 10, none⟩ = some (.slice A0_10 l0_10.length c0_10) := ct BK109 10; have hfz9_0 := blk_frozen BK109.out 0; have hfz9_1 := blk_frozen BK109.out 1; have hfz9_2 := blk_frozen BK109.out 2; have hfz9_3 := blk_frozen BK109.out 3; have hfz9_4 := blk_frozen BK109.out 4; have hfz9_5 := blk_frozen BK109.out 5; have hfz9_6 := blk_frozen BK109.out 6; have hfz9_7 := blk_frozen BK109.out 7; have hfz9_8 := blk_frozen BK109.out 8; have hfz9_9 := blk_frozen BK109.out 9; have hfz9_10 := blk_frozen BK109.out 10) | ((with_reducible refine gate_callee (f := 44) rfl ?_); refine zC 15 Try.func44 #[.agg #[.int .i64 a0_0, .int .i64 a0_1, .string a0_2, .int .i64 a0_3, .slice A0_4 l0_4.length c0_4, .string a0_5, .string a0_6, .int .i64 a0_7, .slice A0_8 l0_8.length c0_8, .slice A0_9 l0_9.length c0_9, .slice A0_10 l0_10.length c0_10], .int .i64 a1] ?_; (with_reducible refine (model_needs.calls a0_0 a0_1 a0_2 a0_3 _ _ l0_4 a0_5 a0_6 a0_7 _ _ l0_8 _ _ l0_9 _ _ l0_10 a1 t111 _ ?side1 ?side2 ?side3 ?side4 ?side5 ?side6 ?side7 ?side8 A5.out).mono ?_); (case side1 => exact cz HR0_4); (case side2 => exact HC0_4.out); (case side3 => exact cz HR0_8); (case side4 => exact HC0_8.out); (case side5 => exact cz HR0_9); (case side6 => exact HC0_9.out); (case side7 => exact cz HR0_10); (case side8 => exact HC0_10.out); rintro e w10 ⟨v112, rfl, ho0, hb⟩; refine ⟨_, rfl, ?_⟩; have HO113 := Aside0.mk (Kd.R_lower ho0 sz); replace BK109 := kb BK109 hb; replace HB := bp hb; clear hb ho0))
  go_ret2
  exact ⟨_, ez, by (with_reducible repeat (first | apply Kd.R_alloc | apply Kd.R_drewN | apply Kd.R_drew)); exact HO113.out, bz⟩
 ·rw [if_neg c4] at H; have c4b0 : (t110 == 0) = false := beq_eq_false_iff_ne.mpr c4; have c4b1 : (t110 != 0) = true := bne_iff_ne.mpr c4; simp only [Option.some.injEq, Prod.mk.injEq] at H; obtain ⟨rfl, rfl⟩ := H
  go_enter Try.func16, Try.ntmps16
  go_wp2_with (first | ((with_reducible refine gate_dst (N := 2) rfl ?_); refine zB 2 40 #[.int .i64 a0_0, .int .i64 a0_1, .string a0_2, .int .i64 a0_3, .slice A0_4 l0_4.length c0_4, .string a0_5, .string a0_6, .int .i64 a0_7, .slice A0_8 l0_8.length c0_8, .slice A0_9 l0_9.length c0_9, .slice A0_10 l0_10.length c0_10] ?_; intro gb109 hg w11 hbox hb; have BK109 := Aside0.mk hbox; have GW109 := gz hg; have GE109 := gz hg; replace HB := bp hb; clear hb hbox hg; have hcz12_0 : w11.cell? ⟨gb109, 0, none⟩ = some (.int .i64 a0_0) := ct BK109 0; have hcz12_1 : w11.cell? ⟨gb109, 1, none⟩ = some (.int .i64 a0_1) := ct BK109 1; have hcz12_2 : w11.cell? ⟨gb109, 2, none⟩ = some (.string a0_2) := ct BK109 2; have hcz12_3 : w11.cell? ⟨gb109, 3, none⟩ = some (.int .i64 a0_3) := ct BK109 3; have hcz12_4 : w11.cell? ⟨gb109, 4, none⟩ = some (.slice A0_4 l0_4.length c0_4) := ct BK109 4; have hcz12_5 : w11.cell? ⟨gb109, 5, none⟩ = some (.string a0_5) := ct BK109 5; have hcz12_6 : w11.cell? ⟨gb109, 6, none⟩ = some (.string a0_6) := ct BK109 6; have hcz12_7 : w11.cell? ⟨gb109, 7, none⟩ = some (.int .i64 a0_7) := ct BK109 7; have hcz12_8 : w11.cell? ⟨gb109, 8, none⟩ = some (.slice A0_8 l0_8.length c0_8) := ct BK109 8; have hcz12_9 : w11.cell? ⟨gb109, 9, none⟩ = some (.slice A0_9 l0_9.length c0_9) := ct BK109 9; have hcz12_10 : w11.cell? ⟨gb109, 10, none⟩ = some (.slice A0_10 l0_10.length c0_10) := ct BK109 10; have hfz12_0 := blk_frozen BK109.out 0; have hfz12_1 := blk_frozen BK109.out 1; have hfz12_2 := blk_frozen BK109.out 2; have hfz12_3 := blk_frozen BK109.out 3; have hfz12_4 := blk_frozen BK109.out 4; have hfz12_5 := blk_frozen BK109.out 5; have hfz12_6 := blk_frozen BK109.out 6; have hfz12_7 := blk_frozen BK109.out 7; have hfz12_8 := blk_frozen BK109.out 8; have hfz12_9 := blk_frozen BK109.out 9; have hfz12_10 := blk_frozen BK109.out 10) | ((with_reducible refine gate_callee (f := 43) rfl ?_); refine zC 9 Try.func43 #[.agg #[.int .i64 a0_0, .int .i64 a0_1, .string a0_2, .int .i64 a0_3, .slice A0_4 l0_4.length c0_4, .string a0_5, .string a0_6, .int .i64 a0_7, .slice A0_8 l0_8.length c0_8, .slice A0_9 l0_9.length c0_9, .slice A0_10 l0_10.length c0_10], .int .i64 a1] ?_; (with_reducible refine (model_ready.calls a0_0 a0_1 a0_2 a0_3 _ _ l0_4 a0_5 a0_6 a0_7 _ _ l0_8 _ _ l0_9 _ _ l0_10 a1 t110 _ ?side1 ?side2 ?side3 ?side4 ?side5 ?side6 ?side7 ?side8 A3.out).mono ?_); (case side1 => exact cz HR0_4); (case side2 => exact HC0_4.out); (case side3 => exact cz HR0_8); (case side4 => exact HC0_8.out); (case side5 => exact cz HR0_9); (case side6 => exact HC0_9.out); (case side7 => exact cz HR0_10); (case side8 => exact HC0_10.out); rintro e w13 ⟨rfl, hb⟩; refine ⟨_, rfl, ?_⟩; replace BK109 := kb BK109 hb; replace HB := bp hb; clear hb))
  go_ret2
  exact ⟨_, ez, by first | exact Kd.R_nil _ _ _ _ _ | exact Kd.N_nil _ _ _ _ _ | exact Kd.V_nil _ _ _ _ _ | exact Kd.Q_nil _ _ _ _ _ | exact Kd.S_nil _ _ _ _ _, bz⟩
end Go.Proofs.Ytknklchmpohjfaa.E
namespace Go.Proofs.Ytknklchmpohjfaa.Gs
open Go.RowKit Go Go.Proofs.YtknklchmpohjfaaW.PrintWords Go.Proofs.YtknklchmpohjfaaW.PrintLast Go.Proofs.YtknklchmpohjfaaW.PrintMore Go.Proofs.Ytknklchmpohjfaa.Mn Go.Proofs.Ytknklchmpohjfaa.Nd Go.Proofs.Ytknklchmpohjfaa.Z Go.Proofs.Ytknklchmpohjfaa.E Go.Proofs.Ytknklchmpohjfaa.Tk Go.Proofs.Ytknklchmpohjfaa.Tw
set_option linter.unusedVariables false
set_option linter.unusedSimpArgs false
abbrev Tr' := S40
def szL : List Sm → Int → Int
 | [], s => s
 | x :: l, s => szL l (wrap64 (wrap64 (s + (x.f5.length : Int)) + (x.f4.length : Int)))
def bigT (T : Tr') : Prop := 30 < T.f8.length ∨ 20 < T.f9.length ∨ 1200 < T.f4.length ∨ 100 < T.f6.size
instance (T : Tr') : Decidable (bigT T) := by unfold bigT; infer_instance
def trV : List Tr' → Int → Int → Option (Int × Int)
 | [], n, s => some (n, s)
 | T :: l, n, s => if bigT T then none else trV l (wrap64 (n + (T.f10.length : Int))) (szL T.f10 s)
def smlV (ts : List Tr') (n : Int) : Bool := match trV ts 0 0 with
 | none => false
 | some p => decide (p.1 ≤ n) && (decide (p.2 ≤ 1048576) && decide (ts.length ≤ 12))
theorem tr_drop {ts : List Tr'} {i a s : Int} (h0 : 0 ≤ i) (h1 : i < (ts.length : Int)) : trV (ts.drop i.toNat) a s = if bigT (rd_T40 ts i) then none else trV (ts.drop (i + 1).toNat) (wrap64 (a + ((rd_T40 ts i).f10.length : Int))) (szL (rd_T40 ts i).f10 s) := by
 have hn : i.toNat < ts.length := by omega
 have hi : (i + 1).toNat = i.toNat + 1 := by omega
 have hg : rd_T40 ts i = ts[i.toNat] := by
  unfold rd_T40
  rw [List.getD_eq_getElem?_getD, List.getElem?_eq_getElem hn]
  rfl
 rw [hi, hg, List.drop_eq_getElem_cons hn, trV]
theorem sz_drop {l : List Sm} {i s : Int} (h0 : 0 ≤ i) (h1 : i < (l.length : Int)) : szL (l.drop i.toNat) s = szL (l.drop (i + 1).toNat) (wrap64 (wrap64 (s + ((rd_T51 l i).f5.length : Int)) + ((rd_T51 l i).f4.length : Int))) := by
 have hn : i.toNat < l.length := by omega
 have hi : (i + 1).toNat = i.toNat + 1 := by omega
 have hg : rd_T51 l i = l[i.toNat] := by
  unfold rd_T51
  rw [List.getD_eq_getElem?_getD, List.getElem?_eq_getElem hn]
  rfl
 rw [hi, hg, List.drop_eq_getElem_cons hn, szL]
set_option maxHeartbeats 16000000 in
set_option maxRecDepth 100000 in
theorem small_n (ts : List Tr') (A2 : Option Addr) (c2 : Nat) (n : Int) (w : World) (hr : Kd.C k40 w A2 ts.length ts) :
  Calls Try.prog 8 #[.agg #[.int .i64 0, .string (⟨#[]⟩ : ByteArray), .slice A2 ts.length c2, .slice none 0 0, .slice none 0 0, .slice none 0 0], .int .i64 n] w (ValP w (.bool (smlV ts n))) := by
 have hu := Try.underlying27
 have hu2 := Try.underlying40
 have hu3 := Try.underlying51
 have HR := Aside0.mk hr
 have HL := Aside0.mk hr.2.1
 have HV := Aside0.mk (show smlV ts n = match trV ts 0 0 with
  | none => false
  | some p => decide (p.1 ≤ n) && (decide (p.2 ≤ 1048576) && decide (ts.length ≤ 12)) from rfl)
 generalize smlV ts n = V at *
 clear hr
 go_enter Try.func8, Try.ntmps8
 go_wp2_with (first | ((with_reducible refine gate_dst (N := 2) rfl ?_); refine zB 2 27 #[.int .i64 0, .string (⟨#[]⟩ : ByteArray), .slice A2 ts.length c2, .slice none 0 0, .slice none 0 0, .slice none 0 0] ?_; intro gb hg W0 hbox hb; have HG := Aside0.mk hg; have HM0 := Aside0.mk hbox; have HB0 := Aside0.mk hb; clear hbox hb hg))
 go_loopg [5, 6, 7] ts.length (fun kq v5 v6 v7 w' => ∃ a s i : Int, v5 = .int .i64 a ∧ v6 = .int .i64 s ∧ v7 = .int .i64 i ∧ Aside0 (0 ≤ i ∧ i + kq = ts.length ∧ trV ts 0 0 = trV (ts.drop i.toNat) a s) ∧ Aside0 (w'.heap[gb]? = some (.cells #[.int .i64 0, .string (⟨#[]⟩ : ByteArray), .slice A2 ts.length c2, .slice none 0 0, .slice none 0 0, .slice none 0 0] 27 (0, 0))) ∧ Aside0 (Below w.heap.size w w'))
 case atStart => exact ⟨0, 0, 0, rfl, rfl, rfl, ⟨by simp, by simp, by simp⟩, HM0, HB0⟩
 case round =>
  clear HM0 HB0
  obtain ⟨a, s, i, rfl, rfl, rfl, hi, HM, HB⟩ := hrel
  have m2 : wr.cell? ⟨gb, 2, none⟩ = some (.slice A2 ts.length c2) := (blk_cell HM.out 2).trans rfl
  by_cases hlt : i < (ts.length : Int)
  ·have hlb : decide (i < (ts.length : Int)) = true := decide_eq_true hlt
   have p0 := hi.out.1
   obtain ⟨ad, A4, c4, A8, c8, A9, c9, A10, c10, hA, r0, r1, r2, r3, r4, r5, r6, r7, r8, r9, r10, t4, k4, t8, k8, t9, k9, t10, k10⟩ := at_T40 (Kd.C_below HR.out HB.out) i p0 hlt
   have HD := Aside0.mk (tr_drop (a := a) (s := s) p0 hlt)
   obtain ⟨k1, rfl⟩ : ∃ m, gk = m + 1 := ⟨gk - 1, by have := hi.out; omega⟩
   have HY := Aside0.mk (And.intro (show wrap64 (i + 1) = i + 1 by have := HL.out; exact w64 (by omega) (by omega)) (show 0 ≤ i + 1 ∧ i + 1 + (k1 : Int) = ts.length by have := hi.out; omega))
   have HI := Aside0.mk hi.out.2.2
   subst hA
   generalize rd_T40 ts i = T at *
   have HK := Aside0.mk k10
   replace p0 := eq_true p0
   replace hlt := eq_true hlt
   clear hi t4 k4 t8 k8 t9 k9 t10 k10
   go_upto_region 6 with fail
   have HM1 := Aside0.mk (blk_alloc HM.out (.cells #[.int .i64 T.f0, .int .i64 T.f1, .string T.f2, .int .i64 T.f3, .slice A4 T.f4.length c4, .string T.f5, .string T.f6, .int .i64 T.f7, .slice A8 T.f8.length c8, .slice A9 T.f9.length c9, .slice A10 T.f10.length c10] 40 (0, 0)))
   have HE1 := Aside0.mk (blk_new wr (.cells #[.int .i64 T.f0, .int .i64 T.f1, .string T.f2, .int .i64 T.f3, .slice A4 T.f4.length c4, .string T.f5, .string T.f6, .int .i64 T.f7, .slice A8 T.f8.length c8, .slice A9 T.f9.length c9, .slice A10 T.f10.length c10] 40 (0, 0)))
   have HB1 := Aside0.mk (below_alloc HB.out (.cells #[.int .i64 T.f0, .int .i64 T.f1, .string T.f2, .int .i64 T.f3, .slice A4 T.f4.length c4, .string T.f5, .string T.f6, .int .i64 T.f7, .slice A8 T.f8.length c8, .slice A9 T.f9.length c9, .slice A10 T.f10.length c10] 40 (0, 0)))
   have HK1 := Aside0.mk (Kd.C_below HK.out (below_alloc (Below.refl wr.heap.size wr) (.cells #[.int .i64 T.f0, .int .i64 T.f1, .string T.f2, .int .i64 T.f3, .slice A4 T.f4.length c4, .string T.f5, .string T.f6, .int .i64 T.f7, .slice A8 T.f8.length c8, .slice A9 T.f9.length c9, .slice A10 T.f10.length c10] 40 (0, 0))))
   generalize World.alloc wr _ = W1 at *
   generalize wr.heap.size = gE at *
   clear r0 r1 r2 r3 r4 r5 r6 r7 r8 r9 r10 m2 HM HB HK
   obtain ⟨q0, q1, q2, q3, q4, q5, q6, q7, q8, q9, qa⟩ := ten_cells HE1.out
   by_cases h8 : 30 < T.f8.length
   ·have b8 : decide ((T.f8.length : Int) > 30) = true := decide_eq_true (by omega)
    have HV2 := Aside0.mk (show V = false by rw [HV.out, HI.out, HD.out, if_pos (.inl h8)])
    clear h8 HV HI HD
    go_wp2_with fail
    go_ret
    exact ⟨ret_b HV2.out.symm, HB1.out⟩
   have b8 : decide ((T.f8.length : Int) > 30) = false := decide_eq_false (by omega)
   by_cases h9 : 20 < T.f9.length
   ·have b9 : decide ((T.f9.length : Int) > 20) = true := decide_eq_true (by omega)
    have HV2 := Aside0.mk (show V = false by rw [HV.out, HI.out, HD.out, if_pos (.inr (.inl h9))])
    clear h8 h9 HV HI HD
    go_wp2_with fail
    go_ret
    exact ⟨ret_b HV2.out.symm, HB1.out⟩
   have b9 : decide ((T.f9.length : Int) > 20) = false := decide_eq_false (by omega)
   by_cases h4 : 1200 < T.f4.length
   ·have b4 : decide ((T.f4.length : Int) > 1200) = true := decide_eq_true (by omega)
    have HV2 := Aside0.mk (show V = false by rw [HV.out, HI.out, HD.out, if_pos (.inr (.inr (.inl h4)))])
    clear h8 h9 h4 HV HI HD
    go_wp2_with fail
    go_ret
    exact ⟨ret_b HV2.out.symm, HB1.out⟩
   have b4 : decide ((T.f4.length : Int) > 1200) = false := decide_eq_false (by omega)
   by_cases h6 : 100 < T.f6.size
   ·have b6 : decide ((T.f6.size : Int) > 100) = true := decide_eq_true (by omega)
    have HV2 := Aside0.mk (show V = false by rw [HV.out, HI.out, HD.out, if_pos (.inr (.inr (.inr h6)))])
    clear h8 h9 h4 h6 HV HI HD
    go_wp2_with fail
    go_ret
    exact ⟨ret_b HV2.out.symm, HB1.out⟩
   have b6 : decide ((T.f6.size : Int) > 100) = false := decide_eq_false (by omega)
   have HI2 := Aside0.mk (show trV ts 0 0 = trV (ts.drop (i + 1).toNat) (wrap64 (a + (T.f10.length : Int))) (szL T.f10 s) by
    rw [HI.out, HD.out, if_neg]
    unfold bigT
    omega)
   clear h8 h9 h4 h6 HI HD
   go_wp2_with fail
   clear q0 q1 q2 q3 q4 q5 q6 q7 q8 q9 qa b8 b9 b4 b6
   go_loopg [6, 9] T.f10.length (fun kq v6 v9 w' => ∃ s2 j : Int, v6 = .int .i64 s2 ∧ v9 = .int .i64 j ∧ Aside0 (0 ≤ j ∧ j + kq = T.f10.length ∧ szL T.f10 s = szL (T.f10.drop j.toNat) s2) ∧ Aside0 (w'.heap[gb]? = some (.cells #[.int .i64 0, .string (⟨#[]⟩ : ByteArray), .slice (some ad) ts.length c2, .slice none 0 0, .slice none 0 0, .slice none 0 0] 27 (0, 0))) ∧ Aside0 (w'.heap[gE]? = some (.cells #[.int .i64 T.f0, .int .i64 T.f1, .string T.f2, .int .i64 T.f3, .slice A4 T.f4.length c4, .string T.f5, .string T.f6, .int .i64 T.f7, .slice A8 T.f8.length c8, .slice A9 T.f9.length c9, .slice A10 T.f10.length c10] 40 (0, 0))) ∧ Aside0 (k51.C w' A10 T.f10.length T.f10) ∧ Aside0 (Below w.heap.size w w'))
   case atStart => exact ⟨s, 0, rfl, rfl, ⟨by simp, by simp, by simp⟩, HM1, HE1, HK1, HB1⟩
   case round =>
    clear HM1 HE1 HK1 HB1
    obtain ⟨s2, j, rfl, rfl, hj, HM, HE, HK, HB⟩ := hrel
    have qa : wr.cell? ⟨gE, 10, none⟩ = some (.slice A10 T.f10.length c10) := (blk_cell HE.out 10).trans rfl
    by_cases hlj : j < (T.f10.length : Int)
    ·have hlb2 : decide (j < (T.f10.length : Int)) = true := decide_eq_true hlj
     have g0 := hj.out.1
     obtain ⟨ad2, B4, d4, B5, d5, hA2, x0, x1, x2, x3, x4, x5, y4, z4, y5, z5⟩ := at_T51 HK.out j g0 hlj
     have HD2 := Aside0.mk (sz_drop (s := s2) g0 hlj)
     obtain ⟨k2, rfl⟩ : ∃ m, gk = m + 1 := ⟨gk - 1, by have := hj.out; omega⟩
     have HY2 := Aside0.mk (And.intro (show wrap64 (j + 1) = j + 1 by have := HK.out.2.1; exact w64 (by omega) (by omega)) (show 0 ≤ j + 1 ∧ j + 1 + (k2 : Int) = T.f10.length by have := hj.out; omega))
     have HJ := Aside0.mk hj.out.2.2
     subst hA2
     generalize rd_T51 T.f10 j = X at *
     replace g0 := eq_true g0
     replace hlj := eq_true hlj
     clear hj y4 z4 y5 z5
     go_wp2_with fail
     repeat (go_quiet (fail); try go_wp2)
     go_roundg k2
     case measure => omega
     case rel => exact ⟨_, j + 1, rfl, by rw [HY2.out.1], ⟨HY2.out.2.1, HY2.out.2.2, by rw [HJ.out, HD2.out]⟩, HM, HE, HK, ⟨pw_below_drewN HB.out _⟩⟩
    ·have hlb2 : decide (j < (T.f10.length : Int)) = false := decide_eq_false hlj
     have HJ := Aside0.mk (show szL T.f10 s = s2 by
      rw [hj.out.2.2, List.drop_of_length_le (by have := hj.out; omega)]
      rfl)
     replace hlj := eq_false hlj
     clear hj
     go_wp2_with fail
     go_roundg k1
     case measure => omega
     case rel => exact ⟨_, s2, i + 1, rfl, rfl, by rw [HY.out.1], ⟨HY.out.2.1, HY.out.2.2, by rw [HI2.out, HJ.out]⟩, HM, HB⟩
  ·have hlb : decide (i < (ts.length : Int)) = false := decide_eq_false hlt
   have HI := Aside0.mk (show V = (decide (a ≤ n) && (decide (s ≤ 1048576) && decide ((ts.length : Int) ≤ 12))) by
    rw [HV.out, hi.out.2.2, List.drop_of_length_le (by have := hi.out; omega)]
    simp only [trV]
    congr 2
    rw [decide_eq_decide]
    omega)
   have m3 : wr.cell? ⟨gb, 3, none⟩ = some (.slice none 0 0) := (blk_cell HM.out 3).trans rfl
   have m4 : wr.cell? ⟨gb, 4, none⟩ = some (.slice none 0 0) := (blk_cell HM.out 4).trans rfl
   have m5 : wr.cell? ⟨gb, 5, none⟩ = some (.slice none 0 0) := (blk_cell HM.out 5).trans rfl
   replace hlt := eq_false hlt
   clear hi HV
   go_wp2_with fail
   refine wp_loop_rounds 1 ?_
   rw [rounds_succ]
   go_wp2_with fail
   refine wp_loop_rounds 1 ?_
   rw [rounds_succ]
   cases hx : decide (a ≤ n) with
   | false =>
    have HV2 := Aside0.mk (show V = false by rw [HI.out, hx, Bool.false_and])
    clear HI
    go_wp2_with fail
    go_ret
    exact ⟨ret_b HV2.out.symm, HB.out⟩
   | true =>
    cases hy : decide (s ≤ 1048576) with
    | false =>
     have HV2 := Aside0.mk (show V = false by rw [HI.out, hx, hy]; rfl)
     clear HI
     go_wp2_with fail
     go_ret
     exact ⟨ret_b HV2.out.symm, HB.out⟩
    | true =>
     have HV2 := Aside0.mk (show V = decide ((ts.length : Int) ≤ 12) by rw [HI.out, hx, hy]; rfl)
     clear HI
     cases hz : decide ((ts.length : Int) ≤ 12) with
     | false =>
      rw [hz] at HV2
      go_wp2_with fail
      go_ret
      exact ⟨ret_b HV2.out.symm, HB.out⟩
     | true =>
      rw [hz] at HV2
      go_wp2_with fail
      go_ret
      exact ⟨ret_b HV2.out.symm, HB.out⟩
end Go.Proofs.Ytknklchmpohjfaa.Gs
namespace Go.Proofs.Ytknklchmpohjfaa.Gv
open Go.RowKit Go Go.Proofs.YtknklchmpohjfaaW.PrintWords Go.Proofs.YtknklchmpohjfaaW.PrintLast Go.Proofs.YtknklchmpohjfaaW.PrintMore Go.Proofs.Ytknklchmpohjfaa.Mn Go.Proofs.Ytknklchmpohjfaa.Nd Go.Proofs.Ytknklchmpohjfaa.Z Go.Proofs.Ytknklchmpohjfaa.E Go.Proofs.Ytknklchmpohjfaa.Tk Go.Proofs.Ytknklchmpohjfaa.Gs
set_option linter.unusedVariables false
set_option linter.unusedSimpArgs false
section
variable {P : Program} {ops : Array Oper} {Q : Exit → Act → World → Prop} {rest : List Oper} {oi : Oper} {a : Act} {w : World}
theorem zS (N : Tmp) (e : TypeId) (cs : Array Value) (h : ∀ g, g = w.heap.size → ∀ w1, w1.heap[g]? = some (.cells cs e (0, 0)) → Below w.heap.size w w1 → wpList P ops Q rest (a.put oi.dst (.slice (some ⟨g, 0, none⟩) 1 1)) w1)
  (hgd : oi.guard = none := by rfl) (hd : oi.dst = some N := by rfl) (hrun : (execOp a.eval oi).run P w = .ok (.value (.slice (some ⟨w.heap.size, 0, none⟩) 1 1)) (w.alloc (.cells cs e (0, 0))) := by first | (go_simp; done) | (go_simp; rfl)) : wpList P ops Q (oi :: rest) a w :=
 Kd.event_run hgd hrun (h _ rfl _ (blk_new w _) (below_alloc (Below.refl _ _) _))
end
end Go.Proofs.Ytknklchmpohjfaa.Gv
namespace Go.Proofs.Ytknklchmpohjfaa.E
open Go.RowKit Go Go.Proofs.YtknklchmpohjfaaW.PrintWords Go.Proofs.YtknklchmpohjfaaW.PrintLast Go.Proofs.YtknklchmpohjfaaW.PrintMore Go.Proofs.Ytknklchmpohjfaa.Tk Go.Proofs.Ytknklchmpohjfaa.Gs Go.Proofs.Ytknklchmpohjfaa.Gv
set_option linter.unusedVariables false
def model_Order.f (a0_0 : Int) (a0_1 : Int) (a0_2 : ByteArray) (a0_3 : Int) (l0_4 : List Int) (a0_5 : ByteArray) (a0_6 : ByteArray) (a0_7 : Int) (l0_8 : List (S86)) (l0_9 : List (S68)) (l0_10 : List (S51)) (a1 : Int) : Option (Bool) := some (smlV [⟨a0_0, a0_1, a0_2, a0_3, l0_4, a0_5, a0_6, a0_7, l0_8, l0_9, l0_10⟩] a1)
set_option maxRecDepth 100000 in
theorem small_one (a0_0 : Int) (a0_1 : Int) (a0_2 : ByteArray) (a0_3 : Int) (A0_4 : Option Addr) (c0_4 : Nat) (l0_4 : List Int) (a0_5 : ByteArray) (a0_6 : ByteArray) (a0_7 : Int) (A0_8 : Option Addr) (c0_8 : Nat) (l0_8 : List (S86)) (A0_9 : Option Addr) (c0_9 : Nat) (l0_9 : List (S68)) (A0_10 : Option Addr) (c0_10 : Nat) (l0_10 : List (S51)) (a1 : Int) (r : Bool) (g : Nat) (w : World) (hr0_4 : Kd.C (Kd.int .u8) w A0_4 l0_4.length l0_4) (hc0_4 : l0_4.length ≤ c0_4) (hr0_8 : Kd.C k86 w A0_8 l0_8.length l0_8) (hc0_8 : l0_8.length ≤ c0_8) (hr0_9 : Kd.C k68 w A0_9 l0_9.length l0_9) (hc0_9 : l0_9.length ≤ c0_9) (hr0_10 : Kd.C k51 w A0_10 l0_10.length l0_10) (hc0_10 : l0_10.length ≤ c0_10)
  (hg : w.heap[g]? = some (.cells #[.int .i64 a0_0, .int .i64 a0_1, .string a0_2, .int .i64 a0_3, .slice A0_4 l0_4.length c0_4, .string a0_5, .string a0_6, .int .i64 a0_7, .slice A0_8 l0_8.length c0_8, .slice A0_9 l0_9.length c0_9, .slice A0_10 l0_10.length c0_10] 40 (0, 0))) (h : model_Order.f a0_0 a0_1 a0_2 a0_3 l0_4 a0_5 a0_6 a0_7 l0_8 l0_9 l0_10 a1 = some r) :
  Calls Try.prog 8 #[.agg #[.int .i64 0, .string (⟨#[]⟩ : ByteArray), .slice (some ⟨g, 0, none⟩) 1 1, .slice none 0 0, .slice none 0 0, .slice none 0 0], .int .i64 a1] w fun e w' => e = .returned (.bool r) ∧ Below w.heap.size w w' := by
 have hv : smlV [⟨a0_0, a0_1, a0_2, a0_3, l0_4, a0_5, a0_6, a0_7, l0_8, l0_9, l0_10⟩] a1 = r := Option.some.inj h
 have hC : Kd.C k40 w (some ⟨g, 0, none⟩) 1 [(⟨a0_0, a0_1, a0_2, a0_3, l0_4, a0_5, a0_6, a0_7, l0_8, l0_9, l0_10⟩ : Tr')] := by
  refine ⟨rfl, by decide, fun _ => ⟨⟨g, 0, none⟩, rfl, fun j p hj => ?_⟩⟩
  cases j with
  | succ j => simp at hj
  | zero =>
   simp only [List.getElem?_cons_zero, Option.some.injEq] at hj
   subst hj
   refine ⟨_, rfl, k40_mk w _ hc0_4 hr0_4 hc0_8 hr0_8 hc0_9 hr0_9 hc0_10 hr0_10, fun i u hu => ?_⟩
   have hc := blk_cell hg i
   have ha : (⟨g, 0, none⟩ : Addr).add (0 * k40.sz + i) = ⟨g, i, none⟩ := by
    simp only [Addr.add, Nat.zero_mul, Nat.zero_add]
    split
    ·rename_i h0
     rw [h0]
    ·rfl
   rw [ha, hc, ← hu]
   simp
 have := small_n [(⟨a0_0, a0_1, a0_2, a0_3, l0_4, a0_5, a0_6, a0_7, l0_8, l0_9, l0_10⟩ : Tr')] (some ⟨g, 0, none⟩) 1 a1 w hC
 rw [hv] at this
 exact this
end Go.Proofs.Ytknklchmpohjfaa.E
namespace Go.Proofs.Ytknklchmpohjfaa.Nc
open Go.RowKit Go Go.Proofs.YtknklchmpohjfaaW.PrintWords Go.Proofs.YtknklchmpohjfaaW.PrintLast Go.Proofs.YtknklchmpohjfaaW.PrintMore Go.Proofs.Ytknklchmpohjfaa.Ml Go.Proofs.Ytknklchmpohjfaa.Mn Go.Proofs.Ytknklchmpohjfaa.Nd Go.Proofs.Ytknklchmpohjfaa.Z Go.Proofs.Ytknklchmpohjfaa.P
set_option linter.unusedVariables false
set_option linter.unusedSimpArgs false
set_option maxHeartbeats 1000000 in
theorem set_w (g o : Nat) (A : Option Addr) (n c : Nat) (neg neg0 : Bool) (v0 : Value) (w : World) (hs : Slot w g o neg0 v0) :
  Calls Try.prog 107 #[.pointer (some ⟨g, o, none⟩), .bool neg, .slice A n c] w fun e w' => e = .returned (.pointer (some ⟨g, o, none⟩)) ∧ ∃ k, ((w.setCell ⟨g, o, none⟩ (.bool (neg && decide (0 < n)))).setCell ⟨g, o + 1, none⟩ (.slice A n c)).drewN k = w' := by
 have h0 := hs.cell0
 have h1 := hs.cell1
 have f0 := hs.free o
 have f1 := hs.free (o + 1)
 clear hs
 cases neg
 all_goals
  go_enter Try.func107, Try.ntmps107
  go_wp2
  go_ret
  exact ⟨rfl, 0, rfl⟩
theorem set_n (g o : Nat) (v : Value) (l : List Int) (neg : Bool) (n : Nat) (w : World) (hr : Room w g o) (hm : Mag w v l) (hc : Cn 4294967296 l) (hn : l.length ≤ n) :
  Calls Try.prog 107 #[.pointer (some ⟨g, o, none⟩), .bool neg, v] w (SetP w g o (sg neg (dv 4294967296 l)) n) := by
 obtain ⟨neg0, v0, hs⟩ := hr
 obtain ⟨A, c, rfl, _, _⟩ := hm.slice
 refine (set_w g o A l.length c neg neg0 v0 w hs).mono ?_
 rintro e w' ⟨rfl, k, rfl⟩
 obtain ⟨hw, hs'⟩ := Wrote.set hs (neg && decide (0 < l.length)) A l.length c k rfl
 refine ⟨rfl, hw, _, _, l, hs', hw.mag ⟨_, _, hs⟩ hm, hc, hn, ?_, ?_⟩
 ·cases l with
  | nil => cases neg <;> simp [dv, sg]
  | cons x l => cases neg <;> simp
 ·cases l with
  | nil => simp
  | cons x l => simp
theorem room_new (w : World) : Room (w.alloc (.cells #[.bool false, .slice none 0 0] 129)) w.heap.size 0 :=
 ⟨false, .slice none 0 0, ⟨#[.bool false, .slice none 0 0], 129, blk_new w _, ⟨none, 0, 0, rfl⟩, rfl, rfl⟩⟩
set_option maxHeartbeats 1000000 in
theorem setInt_n (g o : Nat) (z : Int) (w : World) (hr : Room w g o) (h0 : -9223372036854775808 ≤ z) (h1 : z ≤ 9223372036854775807) :
  Calls Try.prog 108 #[.pointer (some ⟨g, o, none⟩), .int .i64 z] w (SetP w g o z 2) := by
 by_cases hz : z < 0
 ·obtain ⟨r, hf, hc, hv, hn⟩ := magOf_f (-z) (by omega) (by omega)
  have e1 : IntKind.u64.wrap (-IntKind.u64.wrap z) = -z := by rw [u64m, u64m]; omega
  have HR := Lib.hid hr
  have HE := Lib.hid e1
  clear hr e1
  go_enter Try.func108, Try.ntmps108
  go_wp2_with fail
  rw [HE.out]
  refine (num_magOf.calls 3 (-z) r w hf).mono ?_
  rintro e w1 ⟨v, rfl, hV, hb⟩
  go_wp2_with fail
  refine (set_n g o v r true 2 w1 (HR.out.below hb) (Mag.of hV) hc hn).mono ?_
  rintro e w2 ⟨rfl, hw, hN⟩
  go_wp2_with fail
  go_ret
  exact ⟨rfl, (Wrote.of_below hb g o).trans hw, by simpa [hv, sg] using hN⟩
 ·obtain ⟨r, hf, hc, hv, hn⟩ := magOf_f z (by omega) (by omega)
  have HR := Lib.hid hr
  clear hr
  go_enter Try.func108, Try.ntmps108
  go_wp2_with fail
  refine (num_magOf.calls 3 z r w hf).mono ?_
  rintro e w1 ⟨v, rfl, hV, hb⟩
  go_wp2_with fail
  refine (set_n g o v r false 2 w1 (HR.out.below hb) (Mag.of hV) hc hn).mono ?_
  rintro e w2 ⟨rfl, hw, hN⟩
  go_wp2_with fail
  go_ret
  exact ⟨rfl, (Wrote.of_below hb g o).trans hw, by simpa [hv, sg] using hN⟩
set_option maxHeartbeats 1000000 in
theorem newInt_n (z : Int) (w : World) (h0 : -9223372036854775808 ≤ z) (h1 : z ≤ 9223372036854775807) :
  Calls Try.prog 99 #[.int .i64 z] w (NewP w z 2) := by
 go_enter Try.func99, Try.ntmps99
 go_wp2_with fail
 refine (setInt_n w.heap.size 0 z _ (room_new w) h0 h1).mono ?_
 rintro e w1 ⟨rfl, hw, hN⟩
 go_wp2_with fail
 go_ret
 exact ⟨_, Nat.le_refl _, rfl, (below_alloc (Below.refl _ w) _).trans (hw.below (Nat.le_refl _) (by simp)), hN⟩
set_option maxHeartbeats 2000000 in
set_option maxRecDepth 100000 in
theorem mul_n (gx ox ga oa gb ob : Nat) (a b : Int) (na nb : Nat) (w : World) (hx : Room w gx ox) (ha : IsN w ga oa a na) (hb : IsN w gb ob b nb) (hl : na + nb ≤ 1000) :
  Calls Try.prog 102 #[.pointer (some ⟨gx, ox, none⟩), .pointer (some ⟨ga, oa, none⟩), .pointer (some ⟨gb, ob, none⟩)] w (SetP w gx ox (a * b) (na + nb)) := by
 obtain ⟨nega, va, la, sa, ma, ca, hla, hza, qa⟩ := ha.at_
 obtain ⟨negb, vb, lb, sb, mb, cb, hlb, hzb, qb⟩ := hb.at_
 have hz : sg (!nega == negb) (dv 4294967296 la * dv 4294967296 lb) = a * b := by rw [sg_mul, hza, hzb]
 clear hza hzb
 obtain ⟨Aa, cca, rfl, hca, ra⟩ := ma.slice
 obtain ⟨Ab, ccb, rfl, hcb, rb⟩ := mb.slice
 obtain ⟨k, r, hf, hc, hv, hn⟩ := mul_f la lb ca.dg cb.dg (by omega)
 have a0 := sa.cell0
 have a1 := sa.cell1
 have b0 := sb.cell0
 have b1 := sb.cell1
 rw [← hv] at hz
 have HZ := Lib.hid hz
 clear ha hb hz hv
 go_enter Try.func102, Try.ntmps102
 go_wp2_with fail
 refine start_ (n := 21) (S := fun w' => w'.cell? ⟨ga, oa, none⟩ = some (.bool nega) ∧ w'.cell? ⟨ga, oa + 1, none⟩ = some (.slice Aa la.length cca) ∧ w'.cell? ⟨gb, ob, none⟩ = some (.bool negb) ∧ w'.cell? ⟨gb, ob + 1, none⟩ = some (.slice Ab lb.length ccb)) (ds := [19]) (bs 21 0) (by kernel_rfl) rfl rfl ⟨a0, a1, b0, b1⟩ (fun hHeld => ?_)
 refine zP 0 7 21 1 ?_
 refine zP 1 8 21 3 ?_
 refine zP 2 9 21 7 ?_
 refine zP 3 10 21 15 ?_
 refine zP 5 12 21 47 ?_
 refine zP 6 13 21 111 ?_
 refine zP 7 14 21 239 ?_
 refine zP 10 17 21 1263 ?_
 refine zP 11 18 21 3311 ?_
 refine zP 12 19 21 7407 ?_
 refine zP 14 21 21 23791 ?_
 refine zP 15 22 21 56559 ?_
 refine zP 16 23 21 122095 ?_
 refine zT 4 11 21 122111 hHeld ?_
 refine zT 8 15 21 122367 hHeld ?_
 refine zP 9 16 21 122879 ?_
 refine zT 13 20 21 131071 hHeld ?_
 refine zT 17 24 21 262143 hHeld ?_
 refine zN 18 (some 25) 21 524287 (fun K hK => ?_)
 refine zG Try.func112 #[.slice Aa la.length cca, .slice Ab lb.length ccb] ?_
 with_reducible refine (num_mulMag.calls k Aa cca la Ab ccb lb r _ (Kd.C_drew ra) hca (Kd.C_drew rb) hcb hf).mono ?_
 rintro e w1 ⟨v, rfl, hV, hb⟩
 refine ⟨_, rfl, ?_⟩
 have hb' := below_drew' hb
 refine hK.out _ _ ⟨(sa.below hb').cell0, (sa.below hb').cell1, (sb.below hb').cell0, (sb.below hb').cell1⟩ (fun hHeld => ?_)
 clear hK K
 refine zM 25 ?_
 refine zL 19 (some 26) 21 1048575 (fun K hK => ?_)
 refine zG Try.func107 #[.pointer (some ⟨gx, ox, none⟩), .bool (!nega == negb), v] ?_
 with_reducible refine (set_n gx ox v r (!nega == negb) (na + nb) w1 (hx.below hb') (Mag.of hV) hc (by omega)).mono ?_
 rintro e w2 ⟨rfl, hw, hN⟩
 refine ⟨_, rfl, ?_⟩
 refine hK.out _ _ ?_
 clear hK K
 refine zM 26 ?_
 refine zP 20 6 21 2097151 ?_
 refine done_ (by kernel_rfl) ?_
 go_wp2
 go_ret
 exact ⟨rfl, (Wrote.of_below hb' gx ox).trans hw, HZ.out ▸ hN⟩
theorem trim_n (v : Value) (l : List Int) (base : Nat) (ok : Nat → Prop) (w : World) (h : Kd.R (Kd.int .u32) 147 w base ok v l) (hd : Dg 4294967296 l) (hn : l.length ≤ 1099511627776) :
  Calls Try.prog 114 #[v] w fun e w' => ∃ v r, e = .returned v ∧ Mag w' v r ∧ Cn 4294967296 r ∧ dv 4294967296 r = dv 4294967296 l ∧ r.length ≤ l.length ∧ Below w.heap.size w w' := by
 obtain ⟨A, c, rfl⟩ := Kd.R_slice h
 obtain ⟨r, hf, hc, hv, hl⟩ := trim_f l hd hn (l.length + 1) (by omega)
 refine (num_trim.calls (l.length + 1) ok A c l r w (Kd.R_V h) hf).mono ?_
 rintro e w' ⟨v, rfl, hV, hb⟩
 exact ⟨v, r, rfl, Mag.of hV, hc, hv, hl, hb⟩
end Go.Proofs.Ytknklchmpohjfaa.Nc
namespace Go.Proofs.Ytknklchmpohjfaa.Na
open Go.RowKit Go Go.Proofs.YtknklchmpohjfaaW.PrintWords Go.Proofs.YtknklchmpohjfaaW.PrintLast Go.Proofs.YtknklchmpohjfaaW.PrintMore Go.Proofs.Ytknklchmpohjfaa.Ml Go.Proofs.Ytknklchmpohjfaa.Mn Go.Proofs.Ytknklchmpohjfaa.Nd Go.Proofs.Ytknklchmpohjfaa.Z Go.Proofs.Ytknklchmpohjfaa.P Go.Proofs.Ytknklchmpohjfaa.Nc
set_option linter.unusedVariables false
set_option linter.unusedSimpArgs false
structure AddI (x y : List Int) (i : Nat) (c : Int) (out : List Int) : Prop where
 c0 : 0 ≤ c
 c1 : c ≤ 1
 dg : Dg 4294967296 out
 len : out.length = x.length + 1
 val : dv 4294967296 out + c * pw 4294967296 i = dv 4294967296 (x.take i) + dv 4294967296 (y.take i)
 zero : ∀ m, i ≤ m → out.getD m 0 = 0
theorem AddI.start (x y : List Int) : AddI x y 0 0 (List.replicate (x.length + 1) 0) :=
 ⟨by omega, by omega, Dg.replicate (by decide) _, by simp, by rw [dv_replicate]; simp [dv], fun m _ => by
  rw [List.getD_eq_getElem?_getD, List.getElem?_replicate]
  split <;> rfl⟩
theorem AddI.step {x y : List Int} {i : Nat} {c : Int} {out : List Int} (h : AddI x y i c out) (hx : Dg 4294967296 x) (hy : Dg 4294967296 y) (hi : i < x.length) :
  AddI x y (i + 1) ((c + x.getD i 0 + y.getD i 0) / 4294967296) (out.set i ((c + x.getD i 0 + y.getD i 0) % 4294967296)) := by
 have h1 := hx.getD (by decide) i
 have h2 := hy.getD (by decide) i
 have h3 := h.c0
 have h4 := h.c1
 obtain ⟨s, hs⟩ : ∃ s, s = c + x.getD i 0 + y.getD i 0 := ⟨_, rfl⟩
 rw [← hs]
 refine ⟨by omega, by omega, h.dg.set _ (by omega) (by omega), by simpa using h.len, ?_, fun m hm => by rw [getD_set (by omega)]; exact h.zero m (by omega)⟩
 have h5 := h.val
 rw [dv_set _ _ _ _ (by have := h.len; omega), h.zero i (Nat.le_refl _), dv_take_succ', dv_take_succ', pw_succ]
 have h6 : s % 4294967296 = s - 4294967296 * (s / 4294967296) := by omega
 rw [h6]
 generalize s / 4294967296 = q
 rw [hs]
 grind
theorem AddI.done {x y : List Int} {c : Int} {out : List Int} (h : AddI x y x.length c out) (hy : y.length ≤ x.length) : Dg 4294967296 (out.set x.length c) ∧ dv 4294967296 (out.set x.length c) = dv 4294967296 x + dv 4294967296 y ∧ (out.set x.length c).length = x.length + 1 := by
 have h1 := h.val
 have h3 := h.c0
 have h4 := h.c1
 rw [List.take_of_length_le (Nat.le_refl _), List.take_of_length_le hy] at h1
 refine ⟨h.dg.set _ (by omega) (by omega), ?_, by simpa using h.len⟩
 rw [dv_set _ _ _ _ (by have := h.len; omega), h.zero _ (Nat.le_refl _)]
 rw [← h1]
 grind
end Go.Proofs.Ytknklchmpohjfaa.Na
namespace Go.Proofs.Ytknklchmpohjfaa.Nb
open Go.RowKit Go Go.Proofs.YtknklchmpohjfaaW.PrintWords Go.Proofs.YtknklchmpohjfaaW.PrintLast Go.Proofs.YtknklchmpohjfaaW.PrintMore Go.Proofs.Ytknklchmpohjfaa.Ml Go.Proofs.Ytknklchmpohjfaa.Mn Go.Proofs.Ytknklchmpohjfaa.Nd Go.Proofs.Ytknklchmpohjfaa.Z Go.Proofs.Ytknklchmpohjfaa.P Go.Proofs.Ytknklchmpohjfaa.Nc Go.Proofs.Ytknklchmpohjfaa.Na
attribute [local go_sem] max2_int min2_int max_two min_two
set_option linter.unusedVariables false
set_option linter.unusedSimpArgs false
set_option maxHeartbeats 400000 in
theorem sign_n (c : Int) (w : World) : Calls Try.prog 113 #[.int .i64 c] w fun e w' => e = .returned (.int .i64 (cmpI c 0)) ∧ w = w' := by
 go_enter Try.func113, Try.ntmps113
 go_wp2
 all_goals
  go_ret
  refine ⟨?_, rfl⟩
  have h1 : ∀ x y : Int, x = y → Ending.returned (Value.int .i64 x) = Ending.returned (Value.int .i64 y) := fun _ _ h => by rw [h]
  refine h1 _ _ ?_
  unfold cmpI
  repeat' split
  all_goals first | omega | (split at * <;> omega)
theorem cmpMag_n (A0 : Option Addr) (c0 : Nat) (la : List Int) (A1 : Option Addr) (c1 : Nat) (lb : List Int) (w : World) (h0 : la.length ≤ c0) (r0 : Kd.C (Kd.int .u32) w A0 la.length la) (h1 : lb.length ≤ c1) (r1 : Kd.C (Kd.int .u32) w A1 lb.length lb) (ha : Cn 4294967296 la) (hb : Cn 4294967296 lb) (hn : la.length ≤ 1000000) (hm : lb.length ≤ 1000000) :
  Calls Try.prog 110 #[.slice A0 la.length c0, .slice A1 lb.length c1] w fun e w' => ∃ c, e = .returned (.int .i64 c) ∧ Sg c (dv 4294967296 la) (dv 4294967296 lb) ∧ Below w.heap.size w w' := by
 obtain ⟨c, hf, hs, _, _⟩ := cmp_f la lb ha hb (by omega) (by omega) (la.length + 1) (by omega)
 refine (num_cmpMag.calls (la.length + 1) A0 c0 la A1 c1 lb c w r0 h0 r1 h1 hf).mono ?_
 rintro e w' ⟨rfl, hd⟩
 exact ⟨c, rfl, hs, hd.below⟩
theorem Sg_cmp {c a b : Int} (h : Sg c a b) : cmpI c 0 = cmpI a b := by
 unfold Sg at h
 unfold cmpI
 repeat' split
 all_goals omega
set_option maxHeartbeats 2000000 in
set_option maxRecDepth 100000 in
theorem cmpAbs_n (ga oa gb ob : Nat) (a b : Int) (na nb : Nat) (w : World) (ha : IsN w ga oa a na) (hb : IsN w gb ob b nb) (hl : na + nb ≤ 1000) :
  Calls Try.prog 103 #[.pointer (some ⟨ga, oa, none⟩), .pointer (some ⟨gb, ob, none⟩)] w (ValP w (.int .i64 (cmpI (a.natAbs : Int) (b.natAbs : Int)))) := by
 obtain ⟨nega, Aa, cca, la, sa, hca, ra, ca, hla, hza, qa⟩ := ha.open
 obtain ⟨negb, Ab, ccb, lb, sb, hcb, rb, cb, hlb, hzb, qb⟩ := hb.open
 have eq1 := sg_abs (dv_nonneg (by decide) ca.dg) hza
 have eq2 := sg_abs (dv_nonneg (by decide) cb.dg) hzb
 rw [eq1, eq2]
 have a1 := sa.cell1
 have b1 := sb.cell1
 clear hza hzb eq1 eq2 ha hb
 go_enter Try.func103, Try.ntmps103
 go_wp2_with fail
 refine start_ (n := 11) (S := fun w' => w'.cell? ⟨ga, oa + 1, none⟩ = some (.slice Aa la.length cca) ∧ w'.cell? ⟨gb, ob + 1, none⟩ = some (.slice Ab lb.length ccb)) (ds := []) (bs 11 0) (by kernel_rfl) rfl rfl ⟨a1, b1⟩ (fun hHeld => ?_)
 refine zP 0 5 11 1 ?_
 refine zP 1 6 11 3 ?_
 refine zP 2 7 11 7 ?_
 refine zP 4 9 11 23 ?_
 refine zP 5 10 11 55 ?_
 refine zP 6 11 11 119 ?_
 refine zT 3 8 11 127 hHeld ?_
 refine zT 7 12 11 255 hHeld ?_
 refine zN 8 (some 13) 11 511 (fun K hK => ?_)
 refine zG Try.func110 #[.slice Aa la.length cca, .slice Ab lb.length ccb] ?_
 with_reducible refine (cmpMag_n Aa cca la Ab ccb lb _ hca (Kd.C_drew ra) hcb (Kd.C_drew rb) ca cb (by omega) (by omega)).mono ?_
 rintro e w1 ⟨c, rfl, hs, hd⟩
 refine ⟨_, rfl, ?_⟩
 have hb' := below_drew' hd
 refine hK.out _ _ ⟨(sa.below hb').cell1, (sb.below hb').cell1⟩ (fun hHeld => ?_)
 clear hK K
 refine zM 13 ?_
 refine zN 9 (some 14) 11 1023 (fun K hK => ?_)
 refine zG Try.func113 #[.int .i64 c] ?_
 with_reducible refine (sign_n c _).mono ?_
 rintro e w2 ⟨rfl, rfl⟩
 refine ⟨_, rfl, ?_⟩
 refine hK.out _ _ ⟨(sa.below hb').cell1, (sb.below hb').cell1⟩ (fun hHeld => ?_)
 clear hK K
 refine zM 14 ?_
 refine zP 10 4 11 2047 ?_
 refine done_ (by kernel_rfl) ?_
 have HS := Aside0.mk hs
 clear hs
 go_wp2
 go_ret
 exact ⟨ret_i (Sg_cmp HS.out), hb'⟩
set_option maxHeartbeats 2000000 in
set_option maxRecDepth 100000 in
theorem cmp_n (ga oa gb ob : Nat) (a b : Int) (na nb : Nat) (w : World) (ha : IsN w ga oa a na) (hb : IsN w gb ob b nb) (hl : na + nb ≤ 1000) :
  Calls Try.prog 91 #[.pointer (some ⟨ga, oa, none⟩), .pointer (some ⟨gb, ob, none⟩)] w (ValP w (.int .i64 (cmpI a b))) := by
 obtain ⟨nega, Aa, cca, la, sa, hca, ra, ca, hla, hza, qa⟩ := ha.open
 obtain ⟨negb, Ab, ccb, lb, sb, hcb, rb, cb, hlb, hzb, qb⟩ := hb.open
 have pa := dv_nonneg (by decide) ca.dg
 have pb := dv_nonneg (by decide) cb.dg
 have HQ := Aside0.mk (show (nega = true → 0 < dv 4294967296 la) ∧ (negb = true → 0 < dv 4294967296 lb) from ⟨fun h => dv_pos (by decide) ca (qa h), fun h => dv_pos (by decide) cb (qb h)⟩)
 have HP := Aside0.mk (And.intro pa pb)
 have HZ := Aside0.mk (And.intro hza hzb)
 have HA := Aside0.mk (And.intro ha hb)
 have a0 := sa.cell0
 have b0 := sb.cell0
 clear hza hzb ha hb pa pb qa qb sa sb hca hcb ra rb ca cb hla hlb
 cases nega <;> cases negb
 ·go_enter Try.func91, Try.ntmps91
  go_wp2_with fail
  refine (cmpAbs_n ga oa gb ob a b na nb w HA.out.1 HA.out.2 hl).mono ?_
  rintro e w1 ⟨rfl, hb⟩
  go_wp2_with fail
  go_ret
  refine ⟨ret_i ?_, hb⟩
  obtain ⟨h1, h2⟩ := HP.out
  obtain ⟨h3, h4⟩ := HZ.out
  simp [sg] at h3 h4
  rw [show (a.natAbs : Int) = a by omega, show (b.natAbs : Int) = b by omega]
 ·go_enter Try.func91, Try.ntmps91
  go_wp2_with fail
  go_ret
  refine ⟨ret_i ?_, Below.refl _ _⟩
  obtain ⟨h1, h2⟩ := HP.out
  obtain ⟨h3, h4⟩ := HZ.out
  have h5 := HQ.out.2
  simp at h5
  simp [sg] at h3 h4
  have : cmpI a b = 1 := by unfold cmpI; rw [if_neg (by omega), if_pos (by omega)]
  exact this.symm
 ·go_enter Try.func91, Try.ntmps91
  go_wp2_with fail
  go_ret
  refine ⟨ret_i ?_, Below.refl _ _⟩
  obtain ⟨h1, h2⟩ := HP.out
  obtain ⟨h3, h4⟩ := HZ.out
  have h5 := HQ.out.1
  simp at h5
  simp [sg] at h3 h4
  have : cmpI a b = -1 := by unfold cmpI; rw [if_pos (by omega)]
  exact this.symm
 ·go_enter Try.func91, Try.ntmps91
  go_wp2_with fail
  refine (cmpAbs_n ga oa gb ob a b na nb w HA.out.1 HA.out.2 hl).mono ?_
  rintro e w1 ⟨rfl, hb⟩
  go_wp2_with fail
  go_ret
  refine ⟨ret_i ?_, hb⟩
  obtain ⟨h1, h2⟩ := HP.out
  obtain ⟨h3, h4⟩ := HZ.out
  simp [sg] at h3 h4
  have e1 : (a.natAbs : Int) = -a := by omega
  have e2 : (b.natAbs : Int) = -b := by omega
  rw [e1, e2]
  have : wrap64 (-cmpI (-a) (-b)) = cmpI a b := by
   unfold cmpI wrap64
   repeat' split
   all_goals omega
  exact this
end Go.Proofs.Ytknklchmpohjfaa.Nb
namespace Go.Proofs.Ytknklchmpohjfaa.Ns
open Go.RowKit Go Go.Proofs.YtknklchmpohjfaaW.PrintWords Go.Proofs.YtknklchmpohjfaaW.PrintLast Go.Proofs.YtknklchmpohjfaaW.PrintMore Go.Proofs.Ytknklchmpohjfaa.Ml Go.Proofs.Ytknklchmpohjfaa.Mn Go.Proofs.Ytknklchmpohjfaa.Nd Go.Proofs.Ytknklchmpohjfaa.Z Go.Proofs.Ytknklchmpohjfaa.P Go.Proofs.Ytknklchmpohjfaa.Nc
set_option linter.unusedVariables false
set_option linter.unusedSimpArgs false
theorem wraps_u64 (n : Int) (h0 : 0 ≤ n) (h1 : n < 2 ^ 64) : IntKind.u64.wrap n = n := by
 rw [u64m]
 omega
theorem or_high (x y : Int) (i : Nat) (hx0 : 0 ≤ x) (hx : x % 2 ^ i = 0) (hx1 : x < 18446744073709551616) (hy0 : 0 ≤ y) (hy : y < 2 ^ i) (hy1 : y < 18446744073709551616) : bits .or .u64 x y = x + y :=
 bits_join .u64 64 (by decide) wraps_u64 i x y hx0 hx (by omega) hy0 hy (by omega)
theorem or_low (c y : Int) (i : Nat) (hx0 : 0 ≤ y) (hx : y % 2 ^ i = 0) (hx1 : y < 18446744073709551616) (hy0 : 0 ≤ c) (hy : c < 2 ^ i) (hy1 : c < 18446744073709551616) : bits .or .u64 c y = c + y := by
 have h := or_high y c i hx0 hx hx1 hy0 hy hy1
 obtain ⟨a, rfl⟩ := Int.eq_ofNat_of_zero_le hx0
 obtain ⟨b, rfl⟩ := Int.eq_ofNat_of_zero_le hy0
 have ha : a < 2 ^ 64 := by omega
 have hb : b < 2 ^ 64 := by omega
 rw [(bits_nat .u64 64 (by decide) wraps_u64 a b ha hb).2] at h
 rw [(bits_nat .u64 64 (by decide) wraps_u64 b a hb ha).2, Nat.or_comm, h]
 omega
structure ShI (x : List Int) (p : Int) (i : Nat) (c : Int) (out : List Int) : Prop where
 c0 : 0 ≤ c
 c1 : c < p
 dg : Dg 4294967296 out
 len : out.length = x.length + 1
 val : dv 4294967296 out + c * pw 4294967296 i = dv 4294967296 (x.take i) * p
 zero : ∀ m, i ≤ m → out.getD m 0 = 0
theorem ShI.start (x : List Int) (p : Int) (hp : 0 < p) : ShI x p 0 0 (List.replicate (x.length + 1) 0) :=
 ⟨by omega, hp, Dg.replicate (by decide) _, by simp, by rw [dv_replicate]; simp [dv], fun m _ => by
  rw [List.getD_eq_getElem?_getD, List.getElem?_replicate]
  split <;> rfl⟩
theorem sh_num {c x p : Int} (c0 : 0 ≤ c) (c1 : c < p) (hp : p ≤ 4294967296) (x0 : 0 ≤ x) (x1 : x < 4294967296) : 0 ≤ c + x * p ∧ c + x * p < p * 4294967296 := by
 have h1 : 0 ≤ x * p := Int.mul_nonneg x0 (by omega)
 have h2 : x * p ≤ 4294967295 * p := Int.mul_le_mul_of_nonneg_right (by omega) (by omega)
 omega
theorem ShI.step {x : List Int} {p : Int} {i : Nat} {c : Int} {out : List Int} (h : ShI x p i c out) (hx : Dg 4294967296 x) (hp : p ≤ 4294967296) (hi : i < x.length) :
  ShI x p (i + 1) ((c + x.getD i 0 * p) / 4294967296) (out.set i ((c + x.getD i 0 * p) % 4294967296)) := by
 have h1 := hx.getD (by decide) i
 have h3 := h.c0
 have h4 := h.c1
 have h2 := sh_num h3 h4 hp h1.1 h1.2
 obtain ⟨s, hs⟩ : ∃ s, s = c + x.getD i 0 * p := ⟨_, rfl⟩
 rw [← hs] at h2 ⊢
 refine ⟨by omega, by omega, h.dg.set _ (by omega) (by omega), by simpa using h.len, ?_, fun m hm => by rw [getD_set (by omega)]; exact h.zero m (by omega)⟩
 have h5 := h.val
 rw [dv_set _ _ _ _ (by have := h.len; omega), h.zero i (Nat.le_refl _), dv_take_succ', pw_succ]
 have h6 : s % 4294967296 = s - 4294967296 * (s / 4294967296) := by omega
 rw [h6]
 generalize s / 4294967296 = q
 rw [hs]
 grind
theorem ShI.done {x : List Int} {p : Int} {c : Int} {out : List Int} (h : ShI x p x.length c out) (hp : p ≤ 4294967296) : Dg 4294967296 (out.set x.length c) ∧ dv 4294967296 (out.set x.length c) = dv 4294967296 x * p ∧ (out.set x.length c).length = x.length + 1 ∧ (out.set x.length c).getD x.length 0 < p := by
 have h1 := h.val
 have h3 := h.c0
 have h4 := h.c1
 rw [List.take_of_length_le (Nat.le_refl _)] at h1
 refine ⟨h.dg.set _ (by omega) (by omega), ?_, by simpa using h.len, ?_⟩
 ·rw [dv_set _ _ _ _ (by have := h.len; omega), h.zero _ (Nat.le_refl _)]
  rw [← h1]
  grind
 ·rw [getD_set_self (by have := h.len; omega)]
  exact h4
set_option maxHeartbeats 4000000 in
set_option maxRecDepth 100000 in
theorem shift_n (Ax : Option Addr) (cx : Nat) (x : List Int) (b : Nat) (w : World) (hcx : x.length ≤ cx) (HX : Kd.C (Kd.int .u32) w Ax x.length x) (hd : Dg 4294967296 x) (hn : x.length ≤ 1000000) (hb : b ≤ 31) :
  Calls Try.prog 117 #[.slice Ax x.length cx, .int .i64 (b : Int)] w fun e w' => ∃ g c r, w.heap.size ≤ g ∧ e = .returned (.slice (some ⟨g, 0, none⟩) (x.length + 1) c) ∧ Kd.R (Kd.int .u32) 147 w' w.heap.size (fun _ => True) (.slice (some ⟨g, 0, none⟩) (x.length + 1) c) r ∧ Dg 4294967296 r ∧ r.length = x.length + 1 ∧ dv 4294967296 r = dv 4294967296 x * 2 ^ b ∧ r.getD x.length 0 < 2 ^ b ∧ Below w.heap.size w w' := by
 have hp0 : (0 : Int) < 2 ^ b := Int.pow_pos (by decide)
 have hp1 : (2 : Int) ^ b ≤ 2147483648 := by
  have : b = 0 ∨ b = 1 ∨ b = 2 ∨ b = 3 ∨ b = 4 ∨ b = 5 ∨ b = 6 ∨ b = 7 ∨ b = 8 ∨ b = 9 ∨ b = 10 ∨ b = 11 ∨ b = 12 ∨ b = 13 ∨ b = 14 ∨ b = 15 ∨ b = 16 ∨ b = 17 ∨ b = 18 ∨ b = 19 ∨ b = 20 ∨ b = 21 ∨ b = 22 ∨ b = 23 ∨ b = 24 ∨ b = 25 ∨ b = 26 ∨ b = 27 ∨ b = 28 ∨ b = 29 ∨ b = 30 ∨ b = 31 := by omega
  rcases this with h | h | h | h | h | h | h | h | h | h | h | h | h | h | h | h | h | h | h | h | h | h | h | h | h | h | h | h | h | h | h | h <;> subst h <;> decide
 obtain ⟨p, hp⟩ : ∃ p : Int, p = 2 ^ b := ⟨_, rfl⟩
 rw [← hp] at hp0 hp1 ⊢
 have HP := Aside0.mk hp
 have HXa := Aside0.mk HX
 have HD := Aside0.mk hd
 clear hp HX hd
 have hlen : 0 ≤ (x.length : Int) + 1 := by omega
 go_enter Try.func117, Try.ntmps117
 go_wp2_with ((with_reducible refine gate_dst (N := 12) rfl ?_); refine Kd.R_make (Kd.int .u32) _ 147 rfl (N := 12) rfl 127 _ _ rfl ((x.length : Int) + 1) rfl rfl Try.underlying127 (.int .u32 0) 4 info147 rfl (by decide) (by omega) 0 (ok := fun _ => True) (okp := fun _ => True) rfl (fun _ hk => hk) trivial hlen (by omega) (Below.refl _ _) (Nat.le_refl _) ?_; intro v w5 ho hb hg_ hnew_; clear hg_ hnew_; have HO := Aside0.mk ho; have HB := Aside0.mk hb; clear ho hb)
 obtain ⟨go, co, eo, gb, _, _⟩ := Kd.R_form HO.out (by simp)
 have eo2 : v = .slice (some ⟨go, 0, none⟩) (x.length + 1) co := by rw [eo]; simp
 have HO2 := Aside0.mk (show ∃ out, ShI x p 0 0 out ∧ Kd.R (Kd.int .u32) 147 w5 w.heap.size (fun _ => True) (.slice (some ⟨go, 0, none⟩) (x.length + 1) co) out from ⟨_, ShI.start x p hp0, by have := HO.out; rw [eo2] at this; simpa using this⟩)
 subst eo2
 clear HO eo
 go_loopg [6, 15] x.length (fun kq v6 v15 w' => ∃ (i : Nat) (c : Int) (out : List Int), v6 = .int .u64 c ∧ v15 = .int .i64 (i : Int) ∧ Aside0 (i + kq = x.length) ∧ Aside0 (ShI x p i c out) ∧ Aside0 (Kd.R (Kd.int .u32) 147 w' w.heap.size (fun _ => True) (.slice (some ⟨go, 0, none⟩) (x.length + 1) co) out) ∧ Aside0 (Below w.heap.size w w'))
 case atStart =>
  obtain ⟨out, h1, h2⟩ := HO2.out
  exact ⟨0, 0, out, rfl, rfl, ⟨by omega⟩, ⟨h1⟩, ⟨h2⟩, HB⟩
 case round =>
  clear HO2 HB
  obtain ⟨i, c, out, rfl, rfl, HK, HI, HO, HB⟩ := hrel
  cases gk with
  | zero =>
   have hi : i = x.length := HK.out
   have hb0 : decide (i < x.length) = false := decide_eq_false (by omega)
   obtain ⟨hy1, hz1⟩ := own_cell HO.out x.length (by omega)
   have hc0 := HI.out.c0
   have hc1 := HI.out.c1
   have HI2 := Aside0.mk hi
   have HF := Aside0.mk ((show ShI x p x.length c out from HI2.out ▸ HI.out).done (by omega))
   clear hi
   go_wp2_with fail
   refine bodyPost_ret (v := .slice (some ⟨go, 0, none⟩) (x.length + 1) co) (by simp [results, Try.results117, go_sem]) rfl ?_
   exact ⟨go, co, out.set x.length c, gb, rfl, own_put HO.out x.length c, HF.out.1, HF.out.2.2.1, HF.out.2.1, HF.out.2.2.2, HB.out.setCell gb _⟩
  | succ k1 =>
   have hi : i < x.length := by have := HK.out; omega
   have hb0 : decide (i < x.length) = true := decide_eq_true hi
   obtain ⟨adx, ex, hxc⟩ := mag_cell HXa.out HB.out i hi
   obtain ⟨hy1, hz1⟩ := own_cell HO.out i (by omega)
   have hdx := HD.out.getD (by decide) i
   have hc0 := HI.out.c0
   have hc1 := HI.out.c1
   cases ex
   have hst := HI.out.step HD.out (by omega) hi
   generalize hxi : x.getD i 0 = xi at hxc hdx hst
   have HT := Aside0.mk hst
   obtain ⟨hdx0, hdx1⟩ := hdx
   clear hst hxi
   have hbit : bits BinOp.or IntKind.u64 c (IntKind.u64.wrap (xi * 2 ^ b)) = c + xi * p := by
    have h2 := sh_num hc0 hc1 (by omega) hdx0 hdx1
    have h3 : p * 4294967296 ≤ 2147483648 * 4294967296 := Int.mul_le_mul_of_nonneg_right hp1 (by decide)
    have h4 : 0 ≤ xi * p := Int.mul_nonneg hdx0 (by omega)
    rw [← HP.out, u64 (x := xi * p) h4 (by omega)]
    refine or_low c (xi * p) b h4 ?_ (by omega) hc0 (by rw [← HP.out]; exact hc1) (by omega)
    rw [← HP.out]
    exact Int.mul_emod_left _ _
   have HBI := Aside0.mk hbit
   clear hbit
   go_wp2_with fail
   go_roundg k1
   case measure => omega
   case rel =>
    rw [← HBI.out] at HT
    exact ⟨i + 1, _, _, rfl, by simp, ⟨by have := HK.out; omega⟩, HT, ⟨own_put HO.out i _⟩, ⟨HB.out.setCell gb _⟩⟩
theorem shift_m (Ax : Option Addr) (cx : Nat) (x : List Int) (m : Nat) (hm : x.length = m) (b : Nat) (w : World) (hcx : m ≤ cx) (HX : Kd.C (Kd.int .u32) w Ax m x) (hd : Dg 4294967296 x) (hn : m ≤ 1000000) (hb : b ≤ 31) :
  Calls Try.prog 117 #[.slice Ax m cx, .int .i64 (b : Int)] w fun e w' => ∃ g c r, w.heap.size ≤ g ∧ e = .returned (.slice (some ⟨g, 0, none⟩) (m + 1) c) ∧ Kd.R (Kd.int .u32) 147 w' w.heap.size (fun _ => True) (.slice (some ⟨g, 0, none⟩) (m + 1) c) r ∧ Dg 4294967296 r ∧ r.length = m + 1 ∧ dv 4294967296 r = dv 4294967296 x * 2 ^ b ∧ r.getD m 0 < 2 ^ b ∧ Below w.heap.size w w' := by
 subst hm
 exact shift_n Ax cx x b w hcx HX hd hn hb
end Go.Proofs.Ytknklchmpohjfaa.Ns
namespace Go.Proofs.Ytknklchmpohjfaa.Nk
open Go.Proofs.YtknklchmpohjfaaW.PrintWords Go.Proofs.Ytknklchmpohjfaa.Ml Go.Proofs.Ytknklchmpohjfaa.Mn
open Go.RowKit (wrap64)
set_option linter.unusedVariables false
theorem mul_mono {a b c d : Int} (h1 : a ≤ b) (h2 : c ≤ d) (h3 : 0 ≤ c) (h4 : 0 ≤ b) : a * c ≤ b * d := Int.le_trans (Int.mul_le_mul_of_nonneg_right h1 h3) (Int.mul_le_mul_of_nonneg_left h2 h4)
theorem lt_of_mul {a b c : Int} (h : a * c < b * c) (hc : 0 < c) : a < b := Int.lt_of_mul_lt_mul_right h (Int.le_of_lt hc)
structure Kn (v1 v2 vl top u2 ul M : Int) : Prop where
 m : 0 < M
 v1a : 2147483648 ≤ v1
 v1b : v1 < 4294967296
 v2a : 0 ≤ v2
 v2b : v2 < 4294967296
 vla : 0 ≤ vl
 vlb : vl < M
 ta : 0 ≤ top
 tb : top < 18446744073709551616
 u2a : 0 ≤ u2
 u2b : u2 < 4294967296
 ula : 0 ≤ ul
 ulb : ul < M
 lt : (top * 4294967296 + u2) * M + ul < ((v1 * 4294967296 + v2) * M + vl) * 4294967296
section
variable {v1 v2 vl top u2 ul M q r : Int}
theorem Kn.top_le (h : Kn v1 v2 vl top u2 ul M) : top < v1 * 4294967296 + 4294967296 := by
 have h1 := h.lt
 have h2 := h.m
 have hv1a := h.v1a
 have hv1b := h.v1b
 have hv2b := h.v2b
 have hvlb := h.vlb
 have hula := h.ula
 have hu2a := h.u2a
 refine Int.lt_of_not_ge fun hc => ?_
 have h3 : (v1 * 4294967296 + 4294967296) * 4294967296 ≤ top * 4294967296 + u2 := by omega
 have h4 := Int.mul_le_mul_of_nonneg_right h3 (Int.le_of_lt h2)
 have h5 : (v1 * 4294967296 + v2 + 1) * M ≤ (v1 * 4294967296 + 4294967296) * M := Int.mul_le_mul_of_nonneg_right (by omega) (Int.le_of_lt h2)
 have h6 : (v1 * 4294967296 + 4294967296) * 4294967296 * M = (v1 * 4294967296 + 4294967296) * M * 4294967296 := by grind
 have h7 : (v1 * 4294967296 + v2 + 1) * M = (v1 * 4294967296 + v2) * M + M := by grind
 generalize (v1 * 4294967296 + v2) * M = A at *
 generalize (v1 * 4294967296 + 4294967296) * M = C at *
 generalize (top * 4294967296 + u2) * M = D at *
 omega
structure Qt (v1 v2 vl top u2 ul M Q : Int) : Prop where
 q0 : 0 ≤ Q
 lo : Q * ((v1 * 4294967296 + v2) * M + vl) ≤ (top * 4294967296 + u2) * M + ul
 hi : (top * 4294967296 + u2) * M + ul < (Q + 1) * ((v1 * 4294967296 + v2) * M + vl)
theorem Kn.v_pos (h : Kn v1 v2 vl top u2 ul M) : 0 < (v1 * 4294967296 + v2) * M + vl := by
 have h1 := h.v1a
 have h2 := h.v2a
 have h3 := h.vla
 have := Int.mul_pos (show 0 < v1 * 4294967296 + v2 by omega) h.m
 omega
theorem Kn.u_nn (h : Kn v1 v2 vl top u2 ul M) : 0 ≤ (top * 4294967296 + u2) * M + ul := by
 have h1 := h.ta
 have h2 := h.u2a
 have h3 := h.ula
 have := Int.mul_nonneg (show 0 ≤ top * 4294967296 + u2 by omega) (Int.le_of_lt h.m)
 omega
theorem Kn.qt (h : Kn v1 v2 vl top u2 ul M) : Qt v1 v2 vl top u2 ul M (((top * 4294967296 + u2) * M + ul) / ((v1 * 4294967296 + v2) * M + vl)) := by
 exact ⟨Int.ediv_nonneg h.u_nn (Int.le_of_lt h.v_pos), Int.ediv_mul_le _ (Int.ne_of_gt h.v_pos), Int.lt_ediv_add_one_mul_self _ h.v_pos⟩
theorem Kn.q_lt (h : Kn v1 v2 vl top u2 ul M) {Q : Int} (hq : Qt v1 v2 vl top u2 ul M Q) : Q < 4294967296 := by
 have h1 := h.lt
 have h2 := hq.lo
 have hv := h.v_pos
 generalize (v1 * 4294967296 + v2) * M + vl = V at *
 refine lt_of_mul (c := V) ?_ hv
 rw [Int.mul_comm 4294967296 V]
 omega
theorem Kn.first (h : Kn v1 v2 vl top u2 ul M) {Q : Int} (hq : Qt v1 v2 vl top u2 ul M Q) : Q ≤ top / v1 := by
 have h1 := hq.lo
 have h2 := h.m
 have h3 : Q * (v1 * 4294967296 * M) ≤ Q * ((v1 * 4294967296 + v2) * M + vl) := by
  refine Int.mul_le_mul_of_nonneg_left ?_ hq.q0
  have h4 : v1 * 4294967296 * M ≤ (v1 * 4294967296 + v2) * M := Int.mul_le_mul_of_nonneg_right (by have := h.v2a; omega) (Int.le_of_lt h2)
  have := h.vla
  omega
 have h4 : (top * 4294967296 + u2) * M + ul < (top + 1) * 4294967296 * M := by
  have h5 : (top * 4294967296 + u2 + 1) * M ≤ (top + 1) * 4294967296 * M := Int.mul_le_mul_of_nonneg_right (by have := h.u2b; omega) (Int.le_of_lt h2)
  have h6 : (top * 4294967296 + u2 + 1) * M = (top * 4294967296 + u2) * M + M := by grind
  have := h.ulb
  omega
 have h5 : Q * v1 * (4294967296 * M) < (top + 1) * (4294967296 * M) := by
  have e1 : Q * v1 * (4294967296 * M) = Q * (v1 * 4294967296 * M) := by grind
  have e2 : (top + 1) * (4294967296 * M) = (top + 1) * 4294967296 * M := by grind
  omega
 have h6 := lt_of_mul h5 (by omega)
 exact (Int.le_ediv_iff_mul_le (by have := h.v1a; omega)).2 (by omega)
theorem Kn.step (h : Kn v1 v2 vl top u2 ul M) {Q : Int} (hq : Qt v1 v2 vl top u2 ul M Q) (hqr : q * v1 + r = top) (h0 : Q ≤ q) (ht : 4294967296 ≤ q ∨ r * 4294967296 + u2 < q * v2) : Q ≤ q - 1 := by
 rcases ht with ht | ht
 ·have := h.q_lt hq
  omega
 ·have hq0 := hq.q0
  have h1 := h.m
  have h2 : q * (v1 * 4294967296 + v2) ≥ top * 4294967296 + u2 + 1 := by
   have e : q * (v1 * 4294967296 + v2) = (q * v1) * 4294967296 + q * v2 := by grind
   rw [e]
   generalize q * v2 = a at *
   generalize q * v1 = b at *
   omega
  have h3 : (top * 4294967296 + u2 + 1) * M ≤ q * (v1 * 4294967296 + v2) * M := Int.mul_le_mul_of_nonneg_right h2 (Int.le_of_lt h1)
  have h4 : q * (v1 * 4294967296 + v2) * M ≤ q * ((v1 * 4294967296 + v2) * M + vl) := by
   have e : q * ((v1 * 4294967296 + v2) * M + vl) = q * (v1 * 4294967296 + v2) * M + q * vl := by grind
   have := Int.mul_nonneg (show 0 ≤ q by omega) h.vla
   omega
  have h5 : (top * 4294967296 + u2 + 1) * M = (top * 4294967296 + u2) * M + M := by grind
  have h6 := hq.lo
  have h7 := h.ulb
  have hv := h.v_pos
  generalize (v1 * 4294967296 + v2) * M + vl = V at *
  have h8 : Q * V < q * V := by omega
  have := lt_of_mul h8 hv
  omega
theorem Kn.pass (h : Kn v1 v2 vl top u2 ul M) {Q : Int} (hq : Qt v1 v2 vl top u2 ul M Q) (hqr : q * v1 + r = top) (h0 : Q ≤ q) (h1 : q < 4294967296) (hr : 0 ≤ r) (ht : 4294967296 ≤ r ∨ q * v2 ≤ r * 4294967296 + u2) : q ≤ Q + 1 := by
 have hq0 := hq.q0
 have h2 : q * (v1 * 4294967296 + v2) ≤ top * 4294967296 + u2 := by
  have e : q * (v1 * 4294967296 + v2) = (q * v1) * 4294967296 + q * v2 := by grind
  have h3 : q * v2 ≤ r * 4294967296 + u2 := by
   rcases ht with ht | ht
   ·have h4 : q * v2 ≤ 4294967295 * 4294967295 := mul_mono (by omega) (by have := h.v2b; omega) h.v2a (by omega)
    have := h.u2a
    omega
   ·exact ht
  rw [e]
  generalize q * v2 = a at *
  generalize q * v1 = b at *
  omega
 refine Int.le_of_not_gt fun hc => ?_
 have h3 : (Q + 1) * ((v1 * 4294967296 + v2) * M + vl) ≤ (q - 1) * ((v1 * 4294967296 + v2) * M + vl) := Int.mul_le_mul_of_nonneg_right (by omega) (Int.le_of_lt h.v_pos)
 have h4 : (q - 1) * ((v1 * 4294967296 + v2) * M + vl) ≤ (q - 1) * ((v1 * 4294967296 + v2) * M + M) := Int.mul_le_mul_of_nonneg_left (by have := h.vlb; omega) (by omega)
 have h5 : (q - 1) * ((v1 * 4294967296 + v2) * M + M) = (q * (v1 * 4294967296 + v2) + (q - 1 - (v1 * 4294967296 + v2))) * M := by grind
 have h6 : (q * (v1 * 4294967296 + v2) + (q - 1 - (v1 * 4294967296 + v2))) * M ≤ (top * 4294967296 + u2) * M := Int.mul_le_mul_of_nonneg_right (by have := h.v1a; have := h.v2a; omega) (Int.le_of_lt h.m)
 have h7 := hq.hi
 have h8 := h.ula
 omega
theorem Kn.small (h : Kn v1 v2 vl top u2 ul M) (hqr : q * v1 + r = top) (hr : 4294967296 ≤ r) : q < 4294967296 := by
 have h1 := h.top_le
 have h2 := h.v1a
 refine lt_of_mul (c := v1) ?_ (by omega)
 rw [Int.mul_comm 4294967296 v1]
 omega
theorem Kn.left (h : Kn v1 v2 vl top u2 ul M) {Q : Int} (hq : Qt v1 v2 vl top u2 ul M Q) (h0 : Q ≤ q) (h1 : q ≤ Q + 1) :
  -((v1 * 4294967296 + v2) * M + vl) ≤ (top * 4294967296 + u2) * M + ul - q * ((v1 * 4294967296 + v2) * M + vl) ∧ (top * 4294967296 + u2) * M + ul - q * ((v1 * 4294967296 + v2) * M + vl) < (v1 * 4294967296 + v2) * M + vl := by
 have h2 := hq.lo
 have h3 := hq.hi
 generalize (v1 * 4294967296 + v2) * M + vl = V at *
 generalize (top * 4294967296 + u2) * M + ul = U at *
 rcases (show q = Q ∨ q = Q + 1 by omega) with e | e
 ·subst e
  rw [Int.add_mul] at h3
  omega
 ·subst e
  rw [Int.add_mul] at h3 ⊢
  omega
end
theorem dv_top (l : List Int) (n : Nat) (hl : l.length = n + 2) : dv 4294967296 l = (l.getD (n + 1) 0 * 4294967296 + l.getD n 0) * pw 4294967296 n + dv 4294967296 (l.take n) := by
 have h1 := dv_take_succ 4294967296 l (n + 1) (by omega)
 have h2 := dv_take_succ 4294967296 l n (by omega)
 rw [List.take_of_length_le (by omega), pw_succ] at h1
 rw [h1, h2]
 grind
theorem Kn.of (v u : List Int) (n : Nat) (hv : v.length = n + 2) (hu : u.length = n + 3) (dv_ : Dg 4294967296 v) (du : Dg 4294967296 u) (ht : 2147483648 ≤ v.getD (n + 1) 0) (hlt : dv 4294967296 u < dv 4294967296 v * 4294967296) :
  Kn (v.getD (n + 1) 0) (v.getD n 0) (dv 4294967296 (v.take n)) (u.getD (n + 2) 0 * 4294967296 + u.getD (n + 1) 0) (u.getD n 0) (dv 4294967296 (u.take n)) (pw 4294967296 n) ∧
  dv 4294967296 v = (v.getD (n + 1) 0 * 4294967296 + v.getD n 0) * pw 4294967296 n + dv 4294967296 (v.take n) ∧
  dv 4294967296 u = ((u.getD (n + 2) 0 * 4294967296 + u.getD (n + 1) 0) * 4294967296 + u.getD n 0) * pw 4294967296 n + dv 4294967296 (u.take n) := by
 have e1 := dv_top v n hv
 have e2 : dv 4294967296 u = ((u.getD (n + 2) 0 * 4294967296 + u.getD (n + 1) 0) * 4294967296 + u.getD n 0) * pw 4294967296 n + dv 4294967296 (u.take n) := by
  have h1 := dv_take_succ 4294967296 u (n + 2) (by omega)
  have h2 := dv_take_succ 4294967296 u (n + 1) (by omega)
  have h3 := dv_take_succ 4294967296 u n (by omega)
  rw [List.take_of_length_le (by omega), pw_succ, pw_succ] at h1
  rw [pw_succ] at h2
  rw [h1, h2, h3]
  grind
 have a1 := dv_.getD (by decide) (n + 1)
 have a2 := dv_.getD (by decide) n
 have a3 := du.getD (by decide) (n + 2)
 have a4 := du.getD (by decide) (n + 1)
 have a5 := du.getD (by decide) n
 have b1 := dv_nonneg (by decide) (dv_.take n)
 have b2 := dv_lt (by decide) (dv_.take n)
 have b3 := dv_nonneg (by decide) (du.take n)
 have b4 := dv_lt (by decide) (du.take n)
 rw [List.length_take, Nat.min_eq_left (by omega)] at b2 b4
 refine ⟨⟨pow_pos (by decide) n, ht, a1.2, a2.1, a2.2, b1, b2, by omega, by omega, a5.1, a5.2, b3, b4, ?_⟩, e1, e2⟩
 rw [← e1, ← e2]
 exact hlt
end Go.Proofs.Ytknklchmpohjfaa.Nk
namespace Go.Proofs.Ytknklchmpohjfaa.Ng
open Go.RowKit Go Go.Proofs.YtknklchmpohjfaaW.PrintWords Go.Proofs.YtknklchmpohjfaaW.PrintLast Go.Proofs.YtknklchmpohjfaaW.PrintMore Go.Proofs.Ytknklchmpohjfaa.Ml Go.Proofs.Ytknklchmpohjfaa.Mn Go.Proofs.Ytknklchmpohjfaa.Nd Go.Proofs.Ytknklchmpohjfaa.Z Go.Proofs.Ytknklchmpohjfaa.P Go.Proofs.Ytknklchmpohjfaa.Nc Go.Proofs.Ytknklchmpohjfaa.Ns Go.Proofs.Ytknklchmpohjfaa.Nk
set_option linter.unusedVariables false
set_option linter.unusedSimpArgs false
theorem getD_app {P Y Z : List Int} (i : Nat) (hi : i < Y.length) : (P ++ (Y ++ Z)).getD (P.length + i) 0 = Y.getD i 0 := by
 simp [List.getD_eq_getElem?_getD, List.getElem?_append_right (Nat.le_add_right _ _), List.getElem?_append_left hi]
theorem set_app {P Y Z : List Int} (i : Nat) (v : Int) (hi : i < Y.length) : (P ++ (Y ++ Z)).set (P.length + i) v = P ++ (Y.set i v ++ Z) := by
 rw [List.set_append_right _ _ (Nat.le_add_right _ _), Nat.add_sub_cancel_left, List.set_append_left _ _ hi]
structure Two (w0 W : World) (gu gv N cu n cv : Nat) (P Z Y V : List Int) : Prop where
 u : Kd.R (Kd.int .u32) 147 W 0 (fun _ => True) (.slice (some ⟨gu, 0, none⟩) N cu) (P ++ (Y ++ Z))
 v : Kd.R (Kd.int .u32) 147 W 0 (fun _ => True) (.slice (some ⟨gv, 0, none⟩) n cv) V
 g : w0.grownBy W (some gu)
theorem Two.drewN {w0 W : World} {gu gv N cu n cv : Nat} {P Z Y V : List Int} (h : Two w0 W gu gv N cu n cv P Z Y V) (m : Nat) : Two w0 (W.drewN m) gu gv N cu n cv P Z Y V :=
 ⟨Kd.R_drewN h.u m, Kd.R_drewN h.v m, h.g.trans (grown_of_below (pw_below_drewN (Below.refl _ _) m) _)⟩
theorem Two.ucell {w0 W : World} {gu gv N cu n cv : Nat} {P Z Y V : List Int} (h : Two w0 W gu gv N cu n cv P Z Y V) (i : Nat) (hi : i < Y.length) : W.cell? ⟨gu, P.length + i, none⟩ = some (.int .u32 (Y.getD i 0)) ∧ W.frozen? ⟨gu, P.length + i, none⟩ = false := by
 have h1 := Kd.R_reads' h.u
 have := own_cell h.u (P.length + i) (by rw [h1.1]; simp; omega)
 rwa [getD_app i hi] at this
theorem Two.vcell {w0 W : World} {gu gv N cu n cv : Nat} {P Z Y V : List Int} (h : Two w0 W gu gv N cu n cv P Z Y V) (i : Nat) (hi : i < n) : W.cell? ⟨gv, i, none⟩ = some (.int .u32 (V.getD i 0)) := (own_cell h.v i hi).1
theorem Two.put {w0 W : World} {gu gv N cu n cv : Nat} {P Z Y V : List Int} (h : Two w0 W gu gv N cu n cv P Z Y V) (hne : gv ≠ gu) (i : Nat) (hi : i < Y.length) (x : Int) : Two w0 (W.setCell ⟨gu, P.length + i, none⟩ (.int .u32 x)) gu gv N cu n cv P Z (Y.set i x) V := by
 refine ⟨?_, ?_, ?_⟩
 ·have := own_put h.u (P.length + i) x
  rwa [set_app i x hi] at this
 ·refine Kd.R_mono (ok := fun k => k = gv) (Kd.R_far (p := ⟨gu, P.length + i, none⟩) (Kd.R_mono (Kd.R_tight rfl h.v) (fun k hk => ?_)) (fun k hk => ?_) _) (fun _ _ => trivial)
  ·simpa [Value.ownBlock] using hk
  ·rw [hk]; exact hne
 ·have := (Kd.R_putg h.u ((P.length + i : Nat) : Int) x).2
  rw [Int.toNat_natCast] at this
  exact h.g.trans this
structure GsI (V Y : List Int) (n : Nat) (Q q r : Int) : Prop where
 qr : q * V.getD (n + 1) 0 + r = Y.getD (n + 2) 0 * 4294967296 + Y.getD (n + 1) 0
 le : Q ≤ q
 r0 : 0 ≤ r
def GsP (V Y : List Int) (q : Int) : Prop := 0 ≤ q ∧ q < 4294967296 ∧ -dv 4294967296 V ≤ dv 4294967296 Y - q * dv 4294967296 V ∧ dv 4294967296 Y - q * dv 4294967296 V < dv 4294967296 V
abbrev KnO (V Y : List Int) (n : Nat) : Prop := Kn (V.getD (n + 1) 0) (V.getD n 0) (dv 4294967296 (V.take n)) (Y.getD (n + 2) 0 * 4294967296 + Y.getD (n + 1) 0) (Y.getD n 0) (dv 4294967296 (Y.take n)) (pw 4294967296 n)
abbrev QtO (V Y : List Int) (n : Nat) (Q : Int) : Prop := Qt (V.getD (n + 1) 0) (V.getD n 0) (dv 4294967296 (V.take n)) (Y.getD (n + 2) 0 * 4294967296 + Y.getD (n + 1) 0) (Y.getD n 0) (dv 4294967296 (Y.take n)) (pw 4294967296 n) Q
theorem GsI.next {V Y : List Int} {n : Nat} {Q q r : Int} (h : GsI V Y n Q q r) (hK : KnO V Y n) (hQ : QtO V Y n Q) (ht : 4294967296 ≤ q ∨ r * 4294967296 + Y.getD n 0 < q * V.getD n 0) : GsI V Y n Q (q - 1) (r + V.getD (n + 1) 0) ∧ 1 ≤ q := by
 have h1 := hK.step hQ h.qr h.le ht
 have h2 := hQ.q0
 refine ⟨⟨?_, h1, by have := h.r0; have := hK.v1a; omega⟩, by omega⟩
 have := h.qr
 rw [← this]
 grind
theorem GsI.done {V Y : List Int} {n : Nat} {Q q r : Int} (h : GsI V Y n Q q r) (hK : KnO V Y n) (hQ : QtO V Y n Q)
  (hS : dv 4294967296 V = (V.getD (n + 1) 0 * 4294967296 + V.getD n 0) * pw 4294967296 n + dv 4294967296 (V.take n) ∧ dv 4294967296 Y = ((Y.getD (n + 2) 0 * 4294967296 + Y.getD (n + 1) 0) * 4294967296 + Y.getD n 0) * pw 4294967296 n + dv 4294967296 (Y.take n))
  (ht : 4294967296 ≤ r ∨ (q < 4294967296 ∧ q * V.getD n 0 ≤ r * 4294967296 + Y.getD n 0)) : GsP V Y q := by
 have h2 := hQ.q0
 have h3 := h.le
 have h4 : q < 4294967296 := by
  rcases ht with ht | ht
  ·exact hK.small h.qr ht
  ·exact ht.1
 have h5 := hK.pass hQ h.qr h3 h4 h.r0 (ht.imp id And.right)
 have h6 := hK.left hQ h3 h5
 rw [← hS.1, ← hS.2] at h6
 exact ⟨by omega, h4, h6⟩
structure SbI (V Y0 : List Int) (q : Int) (i : Nat) (c b : Int) (Y : List Int) : Prop where
 c0 : 0 ≤ c
 c1 : c < 4294967296
 b0 : 0 ≤ b
 b1 : b ≤ 1
 dg : Dg 4294967296 Y
 len : Y.length = Y0.length
 val : dv 4294967296 (Y.take i) - (c + b) * pw 4294967296 i = dv 4294967296 (Y0.take i) - q * dv 4294967296 (V.take i)
 same : ∀ m, i ≤ m → Y.getD m 0 = Y0.getD m 0
theorem take_set {l : List Int} {i : Nat} {v : Int} : (l.set i v).take i = l.take i := by
 rw [List.take_set]
 exact List.set_eq_of_length_le (by simp; omega)
theorem dv_take_set {l : List Int} {i : Nat} {v : Int} (hi : i < l.length) : dv 4294967296 ((l.set i v).take (i + 1)) = dv 4294967296 (l.take i) + v * pw 4294967296 i := by
 rw [dv_take_succ', take_set, getD_set_self hi]
theorem sb_num {u x b : Int} (hu0 : 0 ≤ u) (hu1 : u < 4294967296) (hx : 0 ≤ x) (hb0 : 0 ≤ b) (hb1 : b ≤ 1) :
  ∃ r b', IntKind.u64.wrap (IntKind.u64.wrap (u - x % 4294967296) - b) % 4294967296 = r ∧ IntKind.u64.wrap (IntKind.u64.wrap (u - x % 4294967296) - b) / 9223372036854775808 = b' ∧ 0 ≤ r ∧ r < 4294967296 ∧ 0 ≤ b' ∧ b' ≤ 1 ∧ u - x % 4294967296 - b = r - 4294967296 * b' := by
 rw [u64m, u64m]
 exact ⟨_, _, rfl, rfl, by omega, by omega, by omega, by omega, by omega⟩
theorem SbI.step {V Y0 Y : List Int} {q c b : Int} {i : Nat} (h : SbI V Y0 q i c b Y) (hV : Dg 4294967296 V) (hq0 : 0 ≤ q) (hq1 : q < 4294967296) (hi : i < Y.length) :
  SbI V Y0 q (i + 1) ((c + q * V.getD i 0) / 4294967296) (IntKind.u64.wrap (IntKind.u64.wrap (Y.getD i 0 - (c + q * V.getD i 0) % 4294967296) - b) / 9223372036854775808)
   (Y.set i (IntKind.u64.wrap (IntKind.u64.wrap (Y.getD i 0 - (c + q * V.getD i 0) % 4294967296) - b) % 4294967296)) := by
 have h1 := hV.getD (by decide) i
 have h2 := h.dg.getD (by decide) i
 have h3 := mul_lt_sq hq0 hq1 h1.1 h1.2
 have c0 := h.c0
 have c1 := h.c1
 obtain ⟨x, hx⟩ : ∃ x, x = c + q * V.getD i 0 := ⟨_, rfl⟩
 rw [← hx]
 have hx0 : 0 ≤ x := by omega
 have hx1 : x ≤ 18446744069414584320 := by omega
 obtain ⟨r, b', hr, hb, r0, r1, b0, b1, he⟩ := sb_num h2.1 h2.2 hx0 h.b0 h.b1
 rw [hr, hb]
 refine ⟨by omega, by omega, b0, b1, h.dg.set _ r0 r1, by simpa using h.len, ?_, fun m hm => by rw [getD_set (by omega)]; exact h.same m (by omega)⟩
 rw [dv_take_set hi, dv_take_succ', dv_take_succ', pw_succ, ← h.same i (Nat.le_refl _)]
 have h4 := h.val
 have h5 : x % 4294967296 = x - 4294967296 * (x / 4294967296) := by omega
 rw [h5] at he
 generalize x / 4294967296 = xq at he ⊢
 generalize Y.getD i 0 = u at he ⊢
 generalize V.getD i 0 = y at hx ⊢
 have hr2 : r = u - x + 4294967296 * xq - b + 4294967296 * b' := by omega
 rw [hr2, hx]
 grind
structure AbI (V Y1 : List Int) (i : Nat) (c : Int) (Y : List Int) : Prop where
 c0 : 0 ≤ c
 c1 : c ≤ 1
 dg : Dg 4294967296 Y
 len : Y.length = Y1.length
 val : dv 4294967296 (Y.take i) + c * pw 4294967296 i = dv 4294967296 (Y1.take i) + dv 4294967296 (V.take i)
 same : ∀ m, i ≤ m → Y.getD m 0 = Y1.getD m 0
theorem AbI.step {V Y1 Y : List Int} {c : Int} {i : Nat} (h : AbI V Y1 i c Y) (hV : Dg 4294967296 V) (hi : i < Y.length) :
  AbI V Y1 (i + 1) ((c + (Y.getD i 0 + V.getD i 0)) / 4294967296) (Y.set i ((c + (Y.getD i 0 + V.getD i 0)) % 4294967296)) := by
 have h1 := hV.getD (by decide) i
 have h2 := h.dg.getD (by decide) i
 have c0 := h.c0
 have c1 := h.c1
 obtain ⟨x, hx⟩ : ∃ x, x = c + (Y.getD i 0 + V.getD i 0) := ⟨_, rfl⟩
 rw [← hx]
 refine ⟨by omega, by omega, h.dg.set _ (by omega) (by omega), by simpa using h.len, ?_, fun m hm => by rw [getD_set (by omega)]; exact h.same m (by omega)⟩
 rw [dv_take_set hi, dv_take_succ', dv_take_succ', pw_succ, ← h.same i (Nat.le_refl _)]
 have h4 := h.val
 have h5 : x % 4294967296 = x - 4294967296 * (x / 4294967296) := by omega
 rw [h5]
 generalize x / 4294967296 = xq
 rw [hx]
 grind
theorem SbI.top {V Y0 Y : List Int} {q c b : Int} {n : Nat} (h : SbI V Y0 q (n + 2) c b Y) (hV : V.length = n + 2) (hY : Y0.length = n + 3) :
  dv 4294967296 (Y.take (n + 2)) + (Y.getD (n + 2) 0 - c - b) * pw 4294967296 (n + 2) = dv 4294967296 Y0 - q * dv 4294967296 V := by
 have h1 := h.val
 have h2 := dv_take_succ' 4294967296 Y0 (n + 2)
 rw [List.take_of_length_le (show Y0.length ≤ n + 2 + 1 by omega)] at h2
 rw [List.take_of_length_le (show V.length ≤ n + 2 by omega)] at h1
 rw [h2, h.same (n + 2) (Nat.le_refl _)]
 grind
theorem SbI.two {V Y0 Y : List Int} {q c b : Int} {n : Nat} (h : SbI V Y0 q (n + 2) c b Y) (hV : V.length = n + 2) (hY : Y0.length = n + 3) (dV : Dg 4294967296 V) (hP : GsP V Y0 q) :
  (Y.getD (n + 2) 0 - c - b = 0 ∧ 0 ≤ dv 4294967296 Y0 - q * dv 4294967296 V) ∨ (Y.getD (n + 2) 0 - c - b = -1 ∧ dv 4294967296 Y0 - q * dv 4294967296 V < 0) := by
 have h1 := h.top hV hY
 have h2 := dv_nonneg (by decide) (h.dg.take (n + 2))
 have h3 := dv_lt (by decide) (h.dg.take (n + 2))
 have h4 := dv_lt (by decide) dV
 have h5 := pow_pos (B := 4294967296) (by decide) (n + 2)
 rw [List.length_take, Nat.min_eq_left (by have := h.len; omega)] at h3
 rw [hV] at h4
 have h6 := hP.2.2
 generalize dv 4294967296 Y0 - q * dv 4294967296 V = T at *
 generalize Y.getD (n + 2) 0 - c - b = e at *
 generalize dv 4294967296 (Y.take (n + 2)) = D at *
 generalize pw 4294967296 (n + 2) = M at *
 have h7 : e = 0 ∨ e = -1 ∨ 1 ≤ e ∨ e ≤ -2 := by omega
 rcases h7 with h7 | h7 | h7 | h7
 ·subst h7
  left
  omega
 ·subst h7
  right
  omega
 ·have := Int.mul_le_mul_of_nonneg_right h7 (Int.le_of_lt h5)
  omega
 ·have := Int.mul_le_mul_of_nonneg_right h7 (Int.le_of_lt h5)
  omega
theorem SbI.fin {V Y0 Y : List Int} {q c b : Int} {n : Nat} (h : SbI V Y0 q (n + 2) c b Y) (hV : V.length = n + 2) (hY : Y0.length = n + 3) (hP : GsP V Y0 q) (he : Y.getD (n + 2) 0 - c - b = 0) :
  (Y.set (n + 2) 0).length = n + 3 ∧ Dg 4294967296 (Y.set (n + 2) 0) ∧ dv 4294967296 Y0 = q * dv 4294967296 V + dv 4294967296 (Y.set (n + 2) 0) ∧ dv 4294967296 (Y.set (n + 2) 0) < dv 4294967296 V := by
 have h1 := h.top hV hY
 have h2 := dv_take_set (l := Y) (i := n + 2) (v := 0) (by have := h.len; omega)
 rw [List.take_of_length_le (by have := h.len; simp; omega)] at h2
 rw [he] at h1
 have h6 := hP.2.2
 refine ⟨by have := h.len; simp; omega, h.dg.set _ (by omega) (by omega), by omega, by omega⟩
theorem AbI.fin {V Y0 Y Y1 : List Int} {q c : Int} {n : Nat} (h : AbI V Y1 (n + 2) c Y) (hV : V.length = n + 2) (hY1 : Y1.length = n + 3) (hP : GsP V Y0 q) (hT : dv 4294967296 Y0 - q * dv 4294967296 V < 0) (h1 : dv 4294967296 (Y1.take (n + 2)) - pw 4294967296 (n + 2) = dv 4294967296 Y0 - q * dv 4294967296 V) :
  c = 1 ∧ (Y.set (n + 2) 0).length = n + 3 ∧ Dg 4294967296 (Y.set (n + 2) 0) ∧ dv 4294967296 Y0 = (q - 1) * dv 4294967296 V + dv 4294967296 (Y.set (n + 2) 0) ∧ dv 4294967296 (Y.set (n + 2) 0) < dv 4294967296 V := by
 have h2 := h.val
 rw [List.take_of_length_le (show V.length ≤ n + 2 by omega)] at h2
 have h3 := dv_take_set (l := Y) (i := n + 2) (v := 0) (by have := h.len; omega)
 rw [List.take_of_length_le (by have := h.len; simp; omega)] at h3
 have h4 := dv_lt (by decide) (h.dg.take (n + 2))
 rw [List.length_take, Nat.min_eq_left (by have := h.len; omega)] at h4
 have h6 := hP.2.2
 have c0 := h.c0
 have c1 := h.c1
 have hc : c = 1 := by
  rcases (show c = 0 ∨ c = 1 by omega) with e | e
  ·rw [e] at h2
   omega
  ·exact e
 rw [hc] at h2
 have e1 : (q - 1) * dv 4294967296 V = q * dv 4294967296 V - dv 4294967296 V := by grind
 refine ⟨hc, by have := h.len; simp; omega, h.dg.set _ (by omega) (by omega), by rw [e1]; omega, by omega⟩
def DigP (w0 : World) (gu gv N cu n cv : Nat) (P Z Y V : List Int) (e : Ending) (w' : World) : Prop := ∃ q Y', e = .returned (.int .u32 q) ∧ Two w0 w' gu gv N cu (n + 2) cv P Z Y' V ∧ Y'.length = n + 3 ∧ Dg 4294967296 Y' ∧ 0 ≤ q ∧ q < 4294967296 ∧ dv 4294967296 Y = q * dv 4294967296 V + dv 4294967296 Y' ∧ dv 4294967296 Y' < dv 4294967296 V
set_option maxHeartbeats 8000000 in
set_option maxRecDepth 100000 in
theorem digit_n (w0 W : World) (gu gv N cu cv n c2 : Nat) (P Z Y V : List Int) (hne : gv ≠ gu) (H2 : Two w0 W gu gv N cu (n + 2) cv P Z Y V) (hV : V.length = n + 2) (hY : Y.length = n + 3) (dV : Dg 4294967296 V) (dY : Dg 4294967296 Y) (htop : 2147483648 ≤ V.getD (n + 1) 0) (hlt : dv 4294967296 Y < dv 4294967296 V * 4294967296) (hn : n ≤ 1000000) (hP : P.length ≤ 1000000) :
  Calls Try.prog 118 #[.slice (some ⟨gu, P.length, none⟩) (n + 3) c2, .slice (some ⟨gv, 0, none⟩) (n + 2) cv] W (DigP w0 gu gv N cu n cv P Z Y V) := by
 obtain ⟨hK, eV, eY⟩ := Kn.of V Y n hV hY dV dY htop hlt
 obtain ⟨Q, hQ⟩ : ∃ Q, Qt (V.getD (n + 1) 0) (V.getD n 0) (dv 4294967296 (V.take n)) (Y.getD (n + 2) 0 * 4294967296 + Y.getD (n + 1) 0) (Y.getD n 0) (dv 4294967296 (Y.take n)) (pw 4294967296 n) Q := ⟨_, hK.qt⟩
 have u0 := (H2.ucell (n + 2) (by omega)).1
 have u1 := (H2.ucell (n + 1) (by omega)).1
 have v1 := H2.vcell (n + 1) (by omega)
 have b0 := dY.getD (by decide) (n + 2)
 have b1 := dY.getD (by decide) (n + 1)
 have b2 := dV.getD (by decide) (n + 1)
 generalize hy2 : Y.getD (n + 2) 0 = y2 at u0 b0
 generalize hy1 : Y.getD (n + 1) 0 = y1 at u1 b1
 generalize hv1 : V.getD (n + 1) 0 = x1 at v1 b2 htop
 obtain ⟨b00, b01⟩ := b0
 obtain ⟨b10, b11⟩ := b1
 obtain ⟨b20, b21⟩ := b2
 have hor : bits BinOp.or IntKind.u64 (y2 * 4294967296) y1 = y2 * 4294967296 + y1 := or_high _ _ 32 (by omega) (by omega) (by omega) b10 (by omega) (by omega)
 have HE := Aside0.mk (And.intro hy2 (And.intro hy1 hv1))
 have HK := Aside0.mk hK
 have HQ := Aside0.mk hQ
 have HS := Aside0.mk (And.intro eV eY)
 have HD := Aside0.mk (And.intro dV (And.intro dY (And.intro hV hY)))
 have HT := Aside0.mk H2
 clear hy2 hy1 hv1 hK hQ eV eY dV dY hV hY H2 hlt
 go_enter Try.func118, Try.ntmps118
 go_wp2_with fail
 go_quiet (fail)
 go_wp2_with fail
 go_quiet (fail)
 generalize hq : World.drewN (World.drewN W _) _ = W1
 have HT1 := Aside0.mk (show Two w0 W1 gu gv N cu (n + 2) cv P Z Y V by rw [← hq]; exact (HT.out.drewN _).drewN _)
 clear hq HT u0 u1 v1
 go_upto_block 0 with fail
 go_cut [7] (fun q w' => ∃ z : Int, q = .int .u64 z ∧ Aside0 (GsP V Y z) ∧ Aside0 (Two w0 w' gu gv N cu (n + 2) cv P Z Y V))
 case first =>
  have hx1 : 0 < x1 := by omega
  have htt : 0 ≤ y2 * 4294967296 + y1 := by omega
  have e0 : 0 ≤ (y2 * 4294967296 + y1) / x1 := Int.ediv_nonneg htt (by omega)
  have hfirst := HK.out.first HQ.out
  rw [HE.out.1, HE.out.2.1, HE.out.2.2] at hfirst
  have hrem0 := Int.emod_nonneg (y2 * 4294967296 + y1) (show x1 ≠ 0 by omega)
  have hrem1 := Int.emod_lt_of_pos (y2 * 4294967296 + y1) hx1
  have hrem2 := Int.ediv_mul_add_emod (y2 * 4294967296 + y1) x1
  have HI0 := Aside0.mk (show GsI V Y n Q ((y2 * 4294967296 + y1) / x1) ((y2 * 4294967296 + y1) % x1) from ⟨by rw [HE.out.1, HE.out.2.1, HE.out.2.2]; exact hrem2, hfirst, hrem0⟩)
  have HR0 := Aside0.mk (show (y2 * 4294967296 + y1) % x1 < 4294967296 by omega)
  have HE0 := Aside0.mk (show (((((y2 * 4294967296 + y1) / x1).toNat : Nat) : Int)) = (y2 * 4294967296 + y1) / x1 by omega)
  clear hfirst hrem0 hrem1 hrem2 e0
  have c0 := HD.out.2.1.getD (by decide) n
  have c1 := HD.out.1.getD (by decide) n
  generalize hx2 : V.getD n 0 = x2 at c1
  generalize hy0 : Y.getD n 0 = y0 at c0
  have HF := Aside0.mk (And.intro hx2 hy0)
  clear hx2 hy0
  obtain ⟨c00, c01⟩ := c0
  obtain ⟨c10, c11⟩ := c1
  go_wp2_with fail
  go_loopg [7, 8] ((y2 * 4294967296 + y1) / x1).toNat (fun kq v7 v8 w' => ∃ q r : Int, v7 = .int .u64 q ∧ v8 = .int .u64 r ∧ Aside0 ((kq : Int) = q) ∧ Aside0 (GsI V Y n Q q r) ∧ Aside0 (r < 4294967296) ∧ Aside0 (Two w0 w' gu gv N cu (n + 2) cv P Z Y V))
  case atStart =>
   exact ⟨_, _, rfl, rfl, HE0, HI0, HR0, HT1⟩
  case round =>
   clear HI0 HE0 HT1 HR0
   obtain ⟨q, r, rfl, rfl, HKq, HI, HR, HT1⟩ := hrel
   have v1 := HT1.out.vcell (n + 1) (by omega)
   rw [HE.out.2.2] at v1
   have v2 := HT1.out.vcell n (by omega)
   rw [HF.out.1] at v2
   have u2 := (HT1.out.ucell n (by rw [HD.out.2.2.2]; omega)).1
   rw [HF.out.2] at u2
   have r0 := HI.out.r0
   have r1 := HR.out
   have q0 : 0 ≤ q := Int.le_trans HQ.out.q0 HI.out.le
   have hqr := HI.out.qr
   rw [HE.out.1, HE.out.2.1, HE.out.2.2] at hqr
   have qx : q ≤ q * x1 := by
    have := Int.mul_le_mul_of_nonneg_left (show 1 ≤ x1 by omega) q0
    omega
   have q1 : q < 18446744073709551616 := by omega
   clear qx hqr
   have HK1 := Aside0.mk (show (KnO V Y n) ∧ QtO V Y n Q from ⟨HK.out, HQ.out⟩)
   have hgo : 4294967296 ≤ q ∨ ¬ 4294967296 ≤ q := by omega
   by_cases hr : 4294967296 ≤ r + x1
   ·have hgr : decide (0 < (r + x1) / 4294967296) = true := decide_eq_true (by omega)
    rcases hgo with hq | hq
    ·obtain ⟨hI, h1q⟩ := HI.out.next HK1.out.1 HK1.out.2 (.inl hq)
     have HD2 := Aside0.mk (hI.done HK1.out.1 HK1.out.2 HS.out (.inl (by rw [HE.out.2.2]; exact hr)))
     have hg : decide (0 < q / 4294967296) = true := decide_eq_true (by omega)
     clear hI
     go_wp2_with fail
     go_quiet (fail)
     go_wp2_with fail
     go_meet
     exact ⟨q - 1, rfl, HD2, ⟨HT1.out.drewN _⟩⟩
    ·have hg : decide (0 < q / 4294967296) = false := decide_eq_false (by omega)
     have hp := mul_lt_sq q0 (show q < 4294967296 by omega) c10 c11
     obtain ⟨hp0, hp1⟩ := hp
     have hor2 : bits BinOp.or IntKind.u64 (r * 4294967296) y0 = r * 4294967296 + y0 := or_high _ _ 32 (by omega) (by omega) (by omega) c00 (by omega) (by omega)
     by_cases ht : r * 4294967296 + y0 < q * x2
     ·obtain ⟨hI, h1q⟩ := HI.out.next HK1.out.1 HK1.out.2 (.inr (by rw [HF.out.1, HF.out.2]; exact ht))
      have HD2 := Aside0.mk (hI.done HK1.out.1 HK1.out.2 HS.out (.inl (by rw [HE.out.2.2]; exact hr)))
      clear hI
      go_wp2_with fail
      go_quiet (fail)
      go_wp2_with fail
      go_meet
      exact ⟨q - 1, rfl, HD2, ⟨HT1.out.drewN _⟩⟩
     ·have HD2 := Aside0.mk (HI.out.done HK1.out.1 HK1.out.2 HS.out (.inr ⟨by omega, by rw [HF.out.1, HF.out.2]; omega⟩))
      go_wp2_with fail
      go_quiet (fail)
      go_wp2_with fail
      go_meet
      exact ⟨q, rfl, HD2, ⟨HT1.out.drewN _⟩⟩
   ·have hgr : decide (0 < (r + x1) / 4294967296) = false := decide_eq_false (by omega)
    rcases hgo with hq | hq
    ·obtain ⟨hI, h1q⟩ := HI.out.next HK1.out.1 HK1.out.2 (.inl hq)
     rw [HE.out.2.2] at hI
     have HD2 := Aside0.mk hI
     have hg : decide (0 < q / 4294967296) = true := decide_eq_true (by omega)
     have HRR := Aside0.mk (show r + x1 < 4294967296 by omega)
     clear hI
     go_wp2_with fail
     go_quiet (fail)
     go_wp2_with fail
     go_roundg (gk - 1)
     case measure => have := HKq.out; omega
     case rel => exact ⟨q - 1, r + x1, rfl, rfl, ⟨by have := HKq.out; omega⟩, HD2, HRR, ⟨HT1.out.drewN _⟩⟩
    ·have hg : decide (0 < q / 4294967296) = false := decide_eq_false (by omega)
     have hp := mul_lt_sq q0 (show q < 4294967296 by omega) c10 c11
     obtain ⟨hp0, hp1⟩ := hp
     have hor2 : bits BinOp.or IntKind.u64 (r * 4294967296) y0 = r * 4294967296 + y0 := or_high _ _ 32 (by omega) (by omega) (by omega) c00 (by omega) (by omega)
     by_cases ht : r * 4294967296 + y0 < q * x2
     ·obtain ⟨hI, h1q⟩ := HI.out.next HK1.out.1 HK1.out.2 (.inr (by rw [HF.out.1, HF.out.2]; exact ht))
      rw [HE.out.2.2] at hI
      have HD2 := Aside0.mk hI
      have HRR := Aside0.mk (show r + x1 < 4294967296 by omega)
      clear hI
      go_wp2_with fail
      go_quiet (fail)
      go_wp2_with fail
      go_roundg (gk - 1)
      case measure => have := HKq.out; omega
      case rel => exact ⟨q - 1, r + x1, rfl, rfl, ⟨by have := HKq.out; omega⟩, HD2, HRR, ⟨HT1.out.drewN _⟩⟩
     ·have HD2 := Aside0.mk (HI.out.done HK1.out.1 HK1.out.2 HS.out (.inr ⟨by omega, by rw [HF.out.1, HF.out.2]; omega⟩))
      go_wp2_with fail
      go_quiet (fail)
      go_wp2_with fail
      go_meet
      exact ⟨q, rfl, HD2, ⟨HT1.out.drewN _⟩⟩
 case rest =>
  obtain ⟨q, rfl, HG, HT⟩ := hcut
  clear HK HQ HS HE HT1 hor
  have q0 := HG.out.1
  have q1 := HG.out.2.1
  have HS0 := Aside0.mk (show SbI V Y q 0 0 0 Y from ⟨by omega, by omega, by omega, by omega, HD.out.2.1, rfl, by simp [dv, pw], fun _ _ => rfl⟩)
  go_wp2_with fail
  go_loopg [9, 10, 87] (n + 2) (fun kq v9 v10 v87 w' => ∃ (i : Nat) (c b : Int) (Y9 : List Int), v9 = .int .u64 c ∧ v10 = .int .u64 b ∧ v87 = .int .i64 (i : Int) ∧ Aside0 (i + kq = n + 2) ∧ Aside0 (SbI V Y q i c b Y9) ∧ Aside0 (Two w0 w' gu gv N cu (n + 2) cv P Z Y9 V))
  case atStart => exact ⟨0, 0, 0, Y, rfl, rfl, rfl, ⟨by omega⟩, HS0, HT⟩
  case round =>
   clear HT HS0
   obtain ⟨i, c, b, Y9, rfl, rfl, rfl, HK, HI, HT⟩ := hrel
   have hc0 := HI.out.c0
   have hc1 := HI.out.c1
   have hb0 := HI.out.b0
   have hb1 := HI.out.b1
   cases gk with
   | zero =>
    have hi : i = n + 2 := HK.out
    subst hi
    have htwo := HI.out.two HD.out.2.2.1 HD.out.2.2.2 HD.out.1 HG.out
    have hlz : Y9.length = n + 3 := by rw [HI.out.len]; exact HD.out.2.2.2
    obtain ⟨hu, hf⟩ := HT.out.ucell (n + 2) (by omega)
    have hz := HI.out.dg.getD (by decide) (n + 2)
    rcases htwo with ⟨he, h0⟩ | ⟨he, h0⟩
    ·have HF := Aside0.mk (HI.out.fin HD.out.2.2.1 HD.out.2.2.2 HG.out he)
     have HLN := Aside0.mk (show n + 2 < Y9.length by omega)
     have hd : IntKind.u64.wrap (IntKind.u64.wrap (Y9.getD (n + 2) 0 - c) - b) = 0 := by
      rw [u64m, u64m]
      omega
     generalize hun : Y9.getD (n + 2) 0 = un at hu hd he hz
     obtain ⟨hz0, hz1⟩ := hz
     have hd2 : ((0 : Int) / 9223372036854775808 == 0) = true := by decide
     clear h0 he hlz hun
     go_wp2_with fail
     go_ret
     exact ⟨q, Y9.set (n + 2) 0, rfl, HT.out.put hne (n + 2) HLN.out 0, HF.out.1, HF.out.2.1, q0, q1, HF.out.2.2.1, HF.out.2.2.2⟩
    ·have htp := HI.out.top HD.out.2.2.1 HD.out.2.2.2
     rw [he, Int.neg_mul, Int.one_mul, ← Int.sub_eq_add_neg] at htp
     have hd : IntKind.u64.wrap (IntKind.u64.wrap (Y9.getD (n + 2) 0 - c) - b) = 18446744073709551615 := by
      rw [u64m, u64m]
      omega
     have q2 : 1 ≤ q := by
      rcases (show q = 0 ∨ 1 ≤ q by omega) with e | e
      ·have := dv_nonneg (by decide) HD.out.2.1
       rw [e] at h0
       omega
      ·exact e
     have hz9 : dv 4294967296 ((Y9.set (n + 2) 4294967295).take (n + 2)) = dv 4294967296 (Y9.take (n + 2)) := by rw [take_set]
     rw [← hz9] at htp
     have HA0 := Aside0.mk (show AbI V (Y9.set (n + 2) 4294967295) 0 0 (Y9.set (n + 2) 4294967295) from ⟨by omega, by omega, HI.out.dg.set _ (by omega) (by omega), rfl, by simp [dv, pw], fun _ _ => rfl⟩)
     have HT3 := Aside0.mk (HT.out.put hne (n + 2) (by omega) 4294967295)
     have HL1 := Aside0.mk (show (Y9.set (n + 2) 4294967295).length = n + 3 by simp; omega)
     have HZ9 := Aside0.mk (show (Y9.set (n + 2) 4294967295).getD (n + 2) 0 = 4294967295 from getD_set_self (by omega))
     have HTP := Aside0.mk htp
     have H0 := Aside0.mk h0
     obtain ⟨hz0, hz1⟩ := hz
     generalize hun : Y9.getD (n + 2) 0 = un at hu hd hz0 hz1
     have hd2 : ((18446744073709551615 : Int) / 9223372036854775808 == 0) = false := by decide
     clear h0 he hlz hun hz9 htp HT
     generalize hZ1 : Y9.set (n + 2) 4294967295 = Z1 at *
     clear hZ1
     go_wp2_with fail
     go_loopg [15, 140] (n + 2) (fun kq v15 v140 w' => ∃ (i : Nat) (c : Int) (Y9 : List Int), v15 = .int .u64 c ∧ v140 = .int .i64 (i : Int) ∧ Aside0 (i + kq = n + 2) ∧ Aside0 (AbI V Z1 i c Y9) ∧ Aside0 (Two w0 w' gu gv N cu (n + 2) cv P Z Y9 V))
     case atStart => exact ⟨0, 0, Z1, rfl, rfl, ⟨by omega⟩, HA0, HT3⟩
     case round =>
      clear HT3 HA0 hu hf hd hd2 HI hz0 hz1 HK hc0 hc1 hb0 hb1
      obtain ⟨i, c, Y9, rfl, rfl, HK, HI, HT⟩ := hrel
      have hc0 := HI.out.c0
      have hc1 := HI.out.c1
      cases gk with
      | zero =>
       have hi : i = n + 2 := HK.out
       subst hi
       have HF := Aside0.mk (HI.out.fin HD.out.2.2.1 HL1.out HG.out H0.out HTP.out)
       obtain ⟨hu, hf⟩ := HT.out.ucell (n + 2) (by rw [HI.out.len, HL1.out]; omega)
       have hce : c = 1 := HF.out.1
       subst hce
       have HLN := Aside0.mk (show n + 2 < Y9.length by rw [HI.out.len, HL1.out]; omega)
       rw [HI.out.same (n + 2) (Nat.le_refl _), HZ9.out] at hu
       have hb9 : decide ((n : Int) + 2 < (n : Int) + 2) = false := decide_eq_false (by omega)
       go_wp2_with fail
       go_ret
       exact ⟨q - 1, Y9.set (n + 2) 0, rfl, HT.out.put hne (n + 2) HLN.out 0, HF.out.2.1, HF.out.2.2.1, by omega, by omega, HF.out.2.2.2.1, HF.out.2.2.2.2⟩
      | succ k1 =>
       have hi : i < n + 2 := by have := HK.out; omega
       have hb9 : decide (i < n + 2) = true := decide_eq_true hi
       have hzl : Y9.length = n + 3 := by rw [HI.out.len]; exact HL1.out
       have hv := HT.out.vcell i hi
       obtain ⟨hu, hf⟩ := HT.out.ucell i (by omega)
       have hst := HI.out.step HD.out.1 (by omega)
       have hz := HI.out.dg.getD (by decide) i
       have hy := HD.out.1.getD (by decide) i
       generalize V.getD i 0 = y at hv hst hy
       generalize Y9.getD i 0 = u at hu hst hz
       obtain ⟨hz0, hz1⟩ := hz
       obtain ⟨hy0, hy1⟩ := hy
       have HST := Aside0.mk hst
       have HLN := Aside0.mk (show i < Y9.length by omega)
       clear hst hzl
       go_wp2_with fail
       go_roundg k1
       case measure => omega
       case rel =>
        exact ⟨i + 1, _, _, rfl, by simp, ⟨by have := HK.out; omega⟩, HST, ⟨HT.out.put hne i HLN.out _⟩⟩
   | succ k1 =>
    have hi : i < n + 2 := by have := HK.out; omega
    have hb0 : decide (i < n + 2) = true := decide_eq_true hi
    have hzl : Y9.length = n + 3 := by rw [HI.out.len]; exact HD.out.2.2.2
    have hv := HT.out.vcell i hi
    obtain ⟨hu, hf⟩ := HT.out.ucell i (by omega)
    have hst := HI.out.step HD.out.1 q0 q1 (by omega)
    have hz := HI.out.dg.getD (by decide) i
    have hy := HD.out.1.getD (by decide) i
    generalize V.getD i 0 = y at hv hst hy
    generalize Y9.getD i 0 = u at hu hst hz
    obtain ⟨hz0, hz1⟩ := hz
    obtain ⟨hy0, hy1⟩ := hy
    obtain ⟨hp0, hp1⟩ := mul_lt_sq q0 q1 hy0 hy1
    have HST := Aside0.mk hst
    have HLN := Aside0.mk (show i < Y9.length by omega)
    clear hst hzl
    go_wp2_with fail
    go_roundg k1
    case measure => omega
    case rel =>
     refine ⟨i + 1, _, _, _, rfl, rfl, by simp, ⟨by have := HK.out; omega⟩, HST, ⟨HT.out.put hne i HLN.out _⟩⟩
end Go.Proofs.Ytknklchmpohjfaa.Ng
namespace Go.Proofs.Ytknklchmpohjfaa.Lz
open Go.Shelf
def lays133_ren : Go.Shelf.Ren := ⟨fun | 133 => 116 | 128 => 119 | n => n, fun | 51 => 147 | 3 => 3 | 4 => 4 | 46 => 140 | 5 => 5 | 9 => 9 | n => n, fun | n => n⟩
theorem lays133 : Go.Proofs.Lays.n133 Try.prog lays133_ren := {
 mixed := by kernel_rfl
 f128 := Try.func119.trans (congrArg some (by kernel_rfl))
 f133 := Try.func116.trans (congrArg some (by kernel_rfl))
 t3 := Try.underlying3
 a3 := Try.isAgg3
 z3 := Try.sizeOf3
 v3 := Try.zeroValue3
 t4 := Try.underlying4
 a4 := Try.isAgg4
 z4 := Try.sizeOf4
 v4 := Try.zeroValue4
 t5 := Try.underlying5
 a5 := Try.isAgg5
 z5 := Try.sizeOf5
 v5 := Try.zeroValue5
 t9 := Try.underlying9
 a9 := Try.isAgg9
 z9 := Try.sizeOf9
 v9 := Try.zeroValue9
 t46 := Try.underlying140
 a46 := Try.isAgg140
 z46 := Try.sizeOf140
 v46 := Try.zeroValue140
 t51 := Try.underlying147
 a51 := Try.isAgg147
 z51 := Try.sizeOf147
 v51 := Try.zeroValue147 }
theorem bits_LeadingZeros32 (x : Int) (w : World) (h0 : 0 ≤ x) (h1 : x ≤ 4294967295) :
  Calls Try.prog 116 #[.int .u32 x] w fun e w' => e = .returned (.int .i64 (32 - (Lib.bitLen x.toNat : Int))) ∧ w' = w := Any.bits_LeadingZeros32 lays133 x w h0 h1
end Go.Proofs.Ytknklchmpohjfaa.Lz
namespace Go.Proofs.Ytknklchmpohjfaa.Da
open Go.RowKit Go Go.Proofs.YtknklchmpohjfaaW.PrintWords Go.Proofs.YtknklchmpohjfaaW.PrintLast Go.Proofs.YtknklchmpohjfaaW.PrintMore Go.Proofs.Ytknklchmpohjfaa.Ml Go.Proofs.Ytknklchmpohjfaa.Mn Go.Proofs.Ytknklchmpohjfaa.Nd Go.Proofs.Ytknklchmpohjfaa.Z Go.Proofs.Ytknklchmpohjfaa.P Go.Proofs.Ytknklchmpohjfaa.Nc Go.Proofs.Ytknklchmpohjfaa.Nb Go.Proofs.Ytknklchmpohjfaa.Ns Go.Proofs.Ytknklchmpohjfaa.Nk Go.Proofs.Ytknklchmpohjfaa.Ng Go.Proofs.Ytknklchmpohjfaa.Lz
set_option linter.unusedVariables false
set_option linter.unusedSimpArgs false
def ClP (w : World) (l : List Int) (e : Ending) (w' : World) : Prop := ∃ v, e = .returned v ∧ Mag w' v l ∧ Below w.heap.size w w'
set_option maxHeartbeats 1000000 in
set_option maxRecDepth 100000 in
theorem clone_n (A : Option Addr) (c : Nat) (l : List Int) (w : World) (hc : l.length ≤ c) (h : Kd.C (Kd.int .u32) w A l.length l) (hn : l.length ≤ 1000000) :
  Calls Try.prog 105 #[.slice A l.length c] w (ClP w l) := by
 cases A with
 | none =>
  have hl : l = [] := by
   cases l with
   | nil => rfl
   | cons x l =>
    obtain ⟨ad, ha, _⟩ := h.2.2 (by simp)
    simp at ha
  subst hl
  have hnil := fun (wx : World) => Lib.run_eql_slice_nil (P := Try.prog) wx 127 147 none 0 c 0 0 Try.underlying127
  clear hn h hc
  have e0 : ([] : List Int).length = 0 := rfl
  rw [e0]
  clear e0
  go_enter Try.func105, Try.ntmps105
  go_wp2_with fail
  go_ret
  exact ⟨_, rfl, Mag.nil _, Below.refl _ _⟩
 | some ad =>
  have hnil := fun (wx : World) => Lib.run_eql_slice_nil (P := Try.prog) wx 127 147 (some ad) l.length c 0 0 Try.underlying127
  have HC := Aside0.mk h
  clear h
  go_enter Try.func105, Try.ntmps105
  go_wp2_with (first | ((with_reducible refine gate_dst (N := 5) rfl ?_); refine Kd.R_lit (Kd.int .u32) _ 147 ?hg (N := 5) ?hd (xs := ([] : List Int)) (inner := []) (ok := fun _ => True) (okp := fun _ => True) ?hr ?hp (fun _ hk => hk) trivial (Below.refl _ _) (Nat.le_refl _) (by simp) ?_; (case hd => rfl); (case hg => rfl); (case hr => first | (go_simp; done) | (go_simp; rfl)); (case hp => exact Reps.none _ _); intro v5 w3 ho4 hb hg_ hnew_; clear hg_ hnew_; have HO := Aside0.mk ho4; have HB := Aside0.mk hb; clear ho4 hb) | ((with_reducible refine gate_builtin (b := .append) (xs := #[.tmp 5, .tmp 6]) rfl ?_); at_builtin; refine Kd.R_append_row (Value.int .u32) (0 : Int) (w0 := w) w.heap.size rfl (.tmp 5) (.tmp 6) 127 147 (.int .u32 0) 4 rfl Try.underlying127 info147 rfl (by decide) v5 [] l (some ad) l.length c (fun _ => True) rfl rfl (fun _ _ => trivial) HO.out (Kd.C_below HC.out HB.out) HB.out HB.out.size (by simp; omega) ?_; intro v6 w4 ho5 hb2 hg2 hn2; have HO2 := Aside0.mk ho5; have HB2 := Aside0.mk hb2; clear ho5 hb2 hg2 hn2))
  go_ret
  exact ⟨v6, rfl, Mag.ofR HO2.out, HB2.out⟩
structure QrI (a : List Int) (b0 : Int) (m : Nat) (r : Int) (quo : List Int) : Prop where
 r0 : 0 ≤ r
 r1 : r < b0
 dg : Dg 4294967296 quo
 len : quo.length = a.length
 val : dv 4294967296 (a.drop m) = dv 4294967296 (quo.drop m) * b0 + r
theorem QrI.start (a : List Int) (b0 : Int) (hb : 0 < b0) : QrI a b0 a.length 0 (List.replicate a.length 0) :=
 ⟨by omega, hb, Dg.replicate (by decide) _, by simp, by simp [List.drop_of_length_le, dv]⟩
theorem drop_set {l : List Int} {m : Nat} {v : Int} : (l.set m v).drop (m + 1) = l.drop (m + 1) := by
 rw [List.drop_set_of_lt (by omega)]
theorem QrI.step {a quo : List Int} {b0 r : Int} {m : Nat} (h : QrI a b0 (m + 1) r quo) (ha : Dg 4294967296 a) (hm : m < a.length) (hb : b0 < 4294967296) :
  QrI a b0 m ((r * 4294967296 + a.getD m 0) % b0) (quo.set m ((r * 4294967296 + a.getD m 0) / b0 % 4294967296)) := by
 have h1 := ha.getD (by decide) m
 have r0 := h.r0
 have r1 := h.r1
 have hq0 : 0 ≤ (r * 4294967296 + a.getD m 0) / b0 := Int.ediv_nonneg (by omega) (by omega)
 have hq1 : (r * 4294967296 + a.getD m 0) / b0 < 4294967296 := by
  refine Int.ediv_lt_of_lt_mul (by omega) ?_
  have : (r + 1) * 4294967296 ≤ b0 * 4294967296 := Int.mul_le_mul_of_nonneg_right (by omega) (by decide)
  rw [Int.mul_comm 4294967296 b0]
  omega
 rw [Int.emod_eq_of_lt hq0 hq1]
 refine ⟨Int.emod_nonneg _ (by omega), Int.emod_lt_of_pos _ (by omega), h.dg.set _ hq0 hq1, by simpa using h.len, ?_⟩
 rw [dv_drop _ a m hm, dv_drop _ (quo.set m _) m (by simp; have := h.len; omega), drop_set, getD_set_self (by have := h.len; omega), h.val]
 have h2 := Int.ediv_mul_add_emod (r * 4294967296 + a.getD m 0) b0
 generalize (r * 4294967296 + a.getD m 0) / b0 = q at *
 generalize (r * 4294967296 + a.getD m 0) % b0 = s at *
 grind
def DivP (w : World) (la lb : List Int) (e : Ending) (w' : World) : Prop := ∃ v0 v1 q r, e = .returned (.tuple #[v0, v1]) ∧ Mag w' v0 q ∧ Mag w' v1 r ∧ Cn 4294967296 q ∧ Cn 4294967296 r ∧ q.length ≤ la.length ∧ r.length ≤ lb.length ∧ dv 4294967296 la = dv 4294967296 q * dv 4294967296 lb + dv 4294967296 r ∧ dv 4294967296 r < dv 4294967296 lb ∧ Below w.heap.size w w'
set_option maxHeartbeats 8000000 in
set_option maxRecDepth 100000 in
theorem divMag_a (A0 : Option Addr) (c0 : Nat) (la : List Int) (A1 : Option Addr) (c1 : Nat) (lb : List Int) (w : World) (h0 : la.length ≤ c0) (r0 : Kd.C (Kd.int .u32) w A0 la.length la) (h1 : lb.length ≤ c1) (r1 : Kd.C (Kd.int .u32) w A1 lb.length lb) (ha : Cn 4294967296 la) (hb : Cn 4294967296 lb) (hn : la.length ≤ 1000) (hm : lb.length ≤ 1000) (hlt : dv 4294967296 la < dv 4294967296 lb) :
  Calls Try.prog 106 #[.slice A0 la.length c0, .slice A1 lb.length c1] w (DivP w la lb) := by
 have HR := Aside0.mk (And.intro r0 r1)
 have HC := Aside0.mk (And.intro ha hb)
 have HL := Aside0.mk hlt
 clear r0 r1 ha hb hlt
 go_enter Try.func106, Try.ntmps106
 go_wp2_with fail
 refine (cmpMag_n A0 c0 la A1 c1 lb w h0 HR.out.1 h1 HR.out.2 HC.out.1 HC.out.2 (by omega) (by omega)).mono ?_
 rintro e w1 ⟨c, rfl, hs, hb1⟩
 have hc : c < 0 := by have := HL.out; unfold Sg at hs; omega
 clear hs
 go_wp2_with fail
 refine (clone_n A0 c0 la w1 h0 (Kd.C_below HR.out.1 hb1) (by omega)).mono ?_
 rintro e w2 ⟨v, rfl, hM, hb2⟩
 go_wp2_with fail
 go_ret2
 refine ⟨_, _, [], la, rfl, Mag.nil _, hM, Cn.nil _, HC.out.1, by simp, ?_, by simp [dv], HL.out, hb1.trans (hb2.mono hb1.size)⟩
 rcases Nat.lt_or_ge lb.length la.length with h | h
 ·have := dv_len (by decide) HC.out.2.dg HC.out.1 h
  have := HL.out
  omega
 ·exact h
set_option maxHeartbeats 8000000 in
set_option maxRecDepth 100000 in
theorem divMag_b (A0 : Option Addr) (c0 : Nat) (la : List Int) (A1 : Option Addr) (c1 : Nat) (x0 : Int) (w : World) (h0 : la.length ≤ c0) (r0 : Kd.C (Kd.int .u32) w A0 la.length la) (h1 : 1 ≤ c1) (r1 : Kd.C (Kd.int .u32) w A1 1 [x0]) (ha : Cn 4294967296 la) (hb : Cn 4294967296 [x0]) (hn : la.length ≤ 1000) (hle : dv 4294967296 [x0] ≤ dv 4294967296 la) :
  Calls Try.prog 106 #[.slice A0 la.length c0, .slice A1 1 c1] w (DivP w la [x0]) := by
 have hx := hb.dg x0 (by simp)
 have hx2 : x0 ≠ 0 := by simpa using hb.top (by simp)
 obtain ⟨hx0, hx1⟩ := hx
 have hx3 : 1 ≤ x0 := by omega
 have HR := Aside0.mk (And.intro r0 r1)
 have HC := Aside0.mk (And.intro ha hb)
 have HL := Aside0.mk hle
 have hlen : 0 ≤ (la.length : Int) := by omega
 clear r0 r1 ha hb hle hx2
 go_enter Try.func106, Try.ntmps106
 go_wp2_with fail
 refine (cmpMag_n A0 c0 la A1 c1 [x0] w h0 HR.out.1 h1 HR.out.2 HC.out.1 HC.out.2 (by omega) (by simp)).mono ?_
 rintro e w1 ⟨c, rfl, hs, hb1⟩
 have hc : 0 ≤ c := by have := HL.out; unfold Sg at hs; omega
 have HB1 := Aside0.mk hb1
 clear hs hb1
 go_wp2_with ((with_reducible refine gate_dst (N := 25) rfl ?_); refine Kd.R_make (Kd.int .u32) _ 147 rfl (N := 25) rfl 127 _ _ rfl (la.length : Int) rfl rfl Try.underlying127 (.int .u32 0) 4 info147 rfl (by decide) (by omega) 0 (ok := fun _ => True) (okp := fun _ => True) rfl (fun _ hk => hk) trivial hlen (by omega) (Below.refl _ _) (Nat.le_refl _) ?_; intro v w5 ho hb hg_ hnew_; clear hg_ hnew_; have HO := Aside0.mk ho; have HB := Aside0.mk hb; clear ho hb)
 have hpos : 0 < la.length := by
  rcases Nat.eq_zero_or_pos la.length with h | h
  ·have := HL.out
   rw [List.eq_nil_of_length_eq_zero h] at this
   simp [dv] at this
   omega
  ·exact h
 obtain ⟨go, co, eo, gb, _, _⟩ := Kd.R_form HO.out (by simpa using hpos)
 have eo2 : v = .slice (some ⟨go, 0, none⟩) la.length co := by rw [eo]; simp
 have HO2 := Aside0.mk (show Kd.R (Kd.int .u32) 147 w5 0 (fun _ => True) (.slice (some ⟨go, 0, none⟩) la.length co) (List.replicate la.length 0) by have := Kd.R_lower HO.out (Nat.zero_le _); rw [eo2] at this; simpa using this)
 have HB2 := Aside0.mk (show Below w.heap.size w w5 from HB1.out.trans (HB.out.mono HB1.out.size))
 have gb2 : w.heap.size ≤ go := Nat.le_trans HB1.out.size gb
 subst eo2
 clear HO eo HB HB1
 go_loopg [6, 7] la.length (fun kq v6 v7 w' => ∃ (r z : Int) (quo : List Int), v6 = .int .u64 r ∧ v7 = .int .i64 z ∧ Aside0 (z = (kq : Int) - 1 ∧ kq ≤ la.length) ∧ Aside0 (QrI la x0 kq r quo) ∧ Aside0 (Kd.R (Kd.int .u32) 147 w' 0 (fun _ => True) (.slice (some ⟨go, 0, none⟩) la.length co) quo) ∧ Aside0 (Below w.heap.size w w'))
 case atStart => exact ⟨0, _, _, rfl, rfl, ⟨rfl, Nat.le_refl _⟩, ⟨QrI.start la x0 (by omega)⟩, HO2, HB2⟩
 case round =>
  clear HO2 HB2
  obtain ⟨r, z, quo, rfl, rfl, HK, HI, HO, HB⟩ := hrel
  have hr0 := HI.out.r0
  have hr1 := HI.out.r1
  cases gk with
  | zero =>
   obtain rfl : z = -1 := by have := HK.out.1; omega
   have hb9 : decide ((0 : Int) ≤ -1) = false := by decide
   go_wp2_with fail
   refine (trim_n _ quo _ _ _ HO.out HI.out.dg (by rw [HI.out.len]; omega)).mono ?_
   rintro e w6 ⟨v0, q, rfl, hM0, hc0, hv0, hl0, hb0⟩
   have HQ := Aside0.mk (And.intro hM0 (And.intro hc0 (And.intro hv0 (And.intro hl0 hb0))))
   clear hM0 hc0 hv0 hl0 hb0
   go_wp2_with fail
   obtain ⟨r2, hf, hcf, hvf, hlf⟩ := magOf_f r hr0 (by omega)
   refine (num_magOf.calls 3 r r2 w6 hf).mono ?_
   rintro e w7 ⟨v1, rfl, hV, hb7⟩
   have HV := Aside0.mk (And.intro hV (And.intro hcf (And.intro hvf hb7)))
   clear hV hf hcf hvf hlf hb7
   go_wp2_with fail
   go_ret2
   obtain ⟨m0, c0', e0, l0, b0'⟩ := HQ.out
   obtain ⟨m1, c1', e1, b1'⟩ := HV.out
   have hval := HI.out.val
   rw [List.drop_zero, List.drop_zero] at hval
   refine ⟨_, _, q, r2, rfl, m0.below b1', Mag.of m1, c0', c1', by rw [← HI.out.len]; exact l0, ?_, ?_, ?_, HB.out.trans ((b0'.mono HB.out.size).trans (b1'.mono (HB.out.trans (b0'.mono HB.out.size)).size))⟩
   ·refine Nat.le_of_not_lt fun h => ?_
    have h2 := dv_len (by decide) HC.out.2.dg c1' h
    rw [e1] at h2
    simp [dv] at h2
    omega
   ·rw [hval, e0, e1]
    simp [dv]
   ·rw [e1]
    simp [dv]
    omega
  | succ k1 =>
   obtain rfl : z = (k1 : Int) := by have := HK.out.1; omega
   have hk : k1 < la.length := by have := HK.out.2; omega
   obtain ⟨ada, ea, hac⟩ := mag_cell HR.out.1 HB.out k1 hk
   obtain ⟨adb, eb, hbc⟩ := mag_cell HR.out.2 HB.out 0 (by omega)
   obtain ⟨hy1, hz1⟩ := own_cell HO.out k1 hk
   cases ea
   cases eb
   have hst := HI.out.step HC.out.1.dg hk (by omega)
   have hda := HC.out.1.dg.getD (by decide) k1
   generalize la.getD k1 0 = a at hac hst hda
   obtain ⟨hda0, hda1⟩ := hda
   have hor : bits BinOp.or IntKind.u64 (r * 4294967296) a = r * 4294967296 + a := or_high _ _ 32 (by omega) (by omega) (by omega) hda0 (by omega) (by omega)
   have HST := Aside0.mk hst
   simp only [Addr.add, if_true, List.getD_cons_zero] at hbc
   have hadb : adb.block ≠ go := by
    obtain ⟨ad, e, hc⟩ := Kd.at_int HR.out.2 0 (by omega) (by omega)
    cases e
    have := World.block_lt_of_cell? w _ hc
    simp only [Int.toNat_zero, Addr.add, if_true] at this
    omega
   have hbc3 : ∀ u, (wr.setCell ⟨go, k1, none⟩ u).cell? adb = some (.int .u32 x0) := fun u => (World.cell?_of_block (w := wr) (Below.heap_setCell wr ⟨go, k1, none⟩ u adb.block hadb)).trans hbc
   clear hst hadb
   go_wp2_with fail
   go_roundg k1
   case measure => omega
   case rel =>
    refine ⟨_, _, _, rfl, rfl, ⟨by have := HK.out; omega⟩, HST, ⟨own_put HO.out k1 _⟩, ⟨HB.out.setCell gb2 _⟩⟩
end Go.Proofs.Ytknklchmpohjfaa.Da

/-
  The first error of a track, as a plain value: what the code and the reference tell. Words for whole numbers of any size in memory: where one lies, what it is worth, what a call that sets one leaves as it was. model.CheckTrack, walked: the first error of a track. What comes in, opened by kinds: whole numbers, bools, strings, rows and structures, one in another. A track that comes in. model.CheckTrack, told as a function of a track. What a sample needs, as a set of numbers: a dependence that leads to smaller numbers alone, followed to its end; what the code's walk and the chapter's loop compute of it. The needs of a sample as a list, and where decoding begins: plain laws. What the samples of a checked track need: plain. A map from numbers to bools that a call has made, told as a set of numbers: made, asked, stored into, kept. The code's walk over what a sample needs: a function value that calls itself, with a map of its own.
-/
import Derived.Test.YtknklchmpohjfaaQRModelNeedsa
import Derived.Test.YtknklchmpohjfaaQRModelNeedsc
import Derived.Lib.Hide
import Derived.Lib.MinMax
import Derived.Test.YtknklchmpohjfaaChecked
import Derived.Test.YtknklchmpohjfaaQRModelNeedsWWords
import Derived.Lib.SmallJoins
import Derived.ProofKit
import Derived.Deep.Slices
import Derived.Deep.Fields
import Derived.ChangeSame
import Derived.WalkKit
import Derived.Maps.OwnOps
import Derived.Maps.OwnSet
import Derived.Maps.Views
import Derived.Below
import Derived.Shelf.Abstract
namespace Go.Proofs.Ytknklchmpohjfaa.Tk
open Go.RowKit Go Go.Proofs.YtknklchmpohjfaaW.PrintWords Go.Proofs.YtknklchmpohjfaaW.PrintLast Go.Proofs.YtknklchmpohjfaaW.PrintMore Go.Proofs.Ytknklchmpohjfaa.Mn Go.Proofs.Ytknklchmpohjfaa.E
set_option linter.unusedVariables false
set_option linter.unusedSimpArgs false
abbrev Sm := S51
abbrev Rf := S68
abbrev Ed' := S86
def inB (a lo hi : Int) : Bool := decide (lo ≤ a) && decide (a ≤ hi)
theorem within_f (a lo hi : Int) : model_within.f a lo hi = some (inB a lo hi) := by
 unfold model_within.f inB
 by_cases h : a ≥ lo
 ·rw [if_pos h, decide_eq_true (show lo ≤ a from h), Bool.true_and]
 ·rw [if_neg h, decide_eq_false (show ¬ lo ≤ a from h), Bool.false_and]
theorem rin_f (a lo hi : Int) : dioramaref03_in.f a lo hi = some (inB a lo hi) := by
 unfold dioramaref03_in.f inB
 by_cases h : a ≥ lo
 ·rw [if_pos h, decide_eq_true (show lo ≤ a from h), Bool.true_and]
 ·rw [if_neg h, decide_eq_false (show ¬ lo ≤ a from h), Bool.false_and]
def allB (p : Int → Bool) (s : ByteArray) : Nat → Nat → Bool
 | _, 0 => true
 | i, n + 1 => p (bt s i) && allB p s (i + 1) n
def lowL (c : Int) : Bool := decide (97 ≤ c) && decide (c ≤ 122)
def anyL (c : Int) : Bool := lowL c || (decide (48 ≤ c) && decide (c ≤ 57))
def sign (c : Int) : Bool := decide (32 ≤ c) && decide (c ≤ 126)
def letB (s : ByteArray) : Bool := allB anyL s 0 s.size && decide (s.size = 4)
def lanB (s : ByteArray) : Bool := allB lowL s 0 s.size && decide (s.size = 3)
def namB (s : ByteArray) : Bool := decide (s.size ≤ 40) && allB sign s 0 s.size
def Bs (s : ByteArray) : Prop := s.size ≤ maxLen
theorem max_is : maxLen ≤ 9223372036854775807 := by unfold maxLen; omega
section
variable (s : ByteArray) (hs : Bs s)
include hs
theorem nxt {i n : Nat} (h : i + (n + 1) = s.size) : wrap64 ((i : Int) + 1) = ((i + 1 : Nat) : Int) := by
 have := max_is
 unfold Bs at hs
 rw [w64 (by omega) (by omega)]
 omega
theorem letters_l (b : Bool) (m : Nat) : ∀ n i : Nat, i + n = s.size → Ev (fun k => model_letters.l0 k s (m : Int) b (s.size : Int) (i : Int)) (allB (if b = true then anyL else lowL) s i n && decide (s.size = m))
 | 0, i, h => by
  refine Ev.step (f := fun _ => some (decide (s.size = m))) (fun k => ?_) (by simpa only [allB, Bool.true_and] using Ev.now _)
  rw [model_letters.l0, if_neg (by omega)]
  congr 1
  rw [Bool.eq_iff_iff]
  simp only [beq_iff_eq, decide_eq_true_eq]
  omega
 | n + 1, i, h => by
  have ih := letters_l b m n (i + 1) (by omega)
  have hn := nxt s hs h
  by_cases hp : (if b = true then anyL else lowL) (bt s i) = true
  ·rw [allB, hp, Bool.true_and]
   refine Ev.step (fun k => ?_) ih
   rw [model_letters.l0, if_pos (by omega), if_pos (by omega), if_pos (by omega), hn]
   cases b with
   | true =>
    simp only [if_true, anyL, lowL, Bool.or_eq_true, Bool.and_eq_true, decide_eq_true_eq] at hp
    repeat' split
    all_goals first | rfl | (exfalso; omega) | simp_all
   | false =>
    simp only [Bool.false_eq_true, if_false, lowL, Bool.and_eq_true, decide_eq_true_eq] at hp
    repeat' split
    all_goals first | rfl | (exfalso; omega) | simp_all
  ·rw [allB, Bool.eq_false_iff.2 hp, Bool.false_and, Bool.false_and]
   refine Ev.step (f := fun _ => some false) (fun k => ?_) (Ev.now _)
   rw [model_letters.l0, if_pos (by omega), if_pos (by omega), if_pos (by omega)]
   cases b with
   | true =>
    simp only [if_true, anyL, lowL, Bool.or_eq_true, Bool.and_eq_true, decide_eq_true_eq] at hp
    repeat' split
    all_goals first | rfl | (exfalso; omega) | simp_all
   | false =>
    simp only [Bool.false_eq_true, if_false, lowL, Bool.and_eq_true, decide_eq_true_eq] at hp
    repeat' split
    all_goals first | rfl | (exfalso; omega) | simp_all
theorem letters_f : Ev (fun k => model_letters.f k s 4 true) (letB s) := letters_l s hs true 4 s.size 0 (by omega)
theorem lang_f : Ev (fun k => model_letters.f k s 3 false) (lanB s) := letters_l s hs false 3 s.size 0 (by omega)
theorem name_l : ∀ n i : Nat, i + n = s.size → Ev (fun k => model_isName.l0 k s (s.size : Int) (i : Int)) (allB sign s i n)
 | 0, i, h => by
  refine Ev.step (f := fun _ => some true) (fun k => ?_) (Ev.now _)
  rw [model_isName.l0, if_neg (by omega)]
 | n + 1, i, h => by
  have ih := name_l n (i + 1) (by omega)
  have hn := nxt s hs h
  by_cases hp : sign (bt s i) = true
  ·rw [allB, hp, Bool.true_and]
   simp only [sign, Bool.and_eq_true, decide_eq_true_eq] at hp
   refine Ev.step (fun k => ?_) ih
   rw [model_isName.l0, if_pos (by omega), if_pos (by omega), if_pos (by omega), if_neg (by omega), if_neg (by omega), hn]
  ·rw [allB, Bool.eq_false_iff.2 hp, Bool.false_and]
   simp only [sign, Bool.and_eq_true, decide_eq_true_eq] at hp
   refine Ev.step (f := fun _ => some false) (fun k => ?_) (Ev.now _)
   rw [model_isName.l0, if_pos (by omega), if_pos (by omega), if_pos (by omega)]
   by_cases h1 : bt s i < 32
   ·rw [if_pos h1]
   ·rw [if_neg h1, if_pos (by omega)]
theorem name_f : Ev (fun k => model_isName.f k s) (namB s) := by
 unfold namB
 by_cases h : s.size ≤ 40
 ·rw [decide_eq_true h, Bool.true_and]
  exact Ev.congr (fun k => if_neg (by omega)) (name_l s hs s.size 0 (by omega))
 ·rw [decide_eq_false h, Bool.false_and]
  exact Ev.congr (fun k => if_pos (by omega)) (Ev.now _)
theorem rletters_l : ∀ n i : Nat, i + n = s.size → Ev (fun k => dioramaref03_Letters.l0 k s (i : Int)) (allB anyL s i n && decide (s.size = 4))
 | 0, i, h => by
  refine Ev.step (f := fun _ => some (decide (s.size = 4))) (fun k => ?_) (by simpa only [allB, Bool.true_and] using Ev.now _)
  rw [dioramaref03_Letters.l0, if_neg (by omega)]
  congr 1
  rw [Bool.eq_iff_iff]
  simp only [beq_iff_eq, decide_eq_true_eq]
  omega
 | n + 1, i, h => by
  have ih := rletters_l n (i + 1) (by omega)
  have hn := nxt s hs h
  by_cases hp : anyL (bt s i) = true
  ·rw [allB, hp, Bool.true_and]
   simp only [anyL, lowL, Bool.or_eq_true, Bool.and_eq_true, decide_eq_true_eq] at hp
   refine Ev.step (fun k => ?_) ih
   rw [dioramaref03_Letters.l0, if_pos (by omega), if_pos (by omega), hn]
   repeat' split
   all_goals first | rfl | (exfalso; omega)
  ·rw [allB, Bool.eq_false_iff.2 hp, Bool.false_and, Bool.false_and]
   simp only [anyL, lowL, Bool.or_eq_true, Bool.and_eq_true, decide_eq_true_eq] at hp
   refine Ev.step (f := fun _ => some false) (fun k => ?_) (Ev.now _)
   rw [dioramaref03_Letters.l0, if_pos (by omega), if_pos (by omega)]
   repeat' split
   all_goals first | rfl | (exfalso; omega)
theorem rletters_f : Ev (fun k => dioramaref03_Letters.f k s) (letB s) := rletters_l s hs s.size 0 (by omega)
theorem rlang_l : ∀ n i : Nat, i + n = s.size → Ev (fun k => dioramaref03_language.l0 k s (i : Int)) (allB lowL s i n && decide (s.size = 3))
 | 0, i, h => by
  refine Ev.step (f := fun _ => some (decide (s.size = 3))) (fun k => ?_) (by simpa only [allB, Bool.true_and] using Ev.now _)
  rw [dioramaref03_language.l0, if_neg (by omega)]
  congr 1
  rw [Bool.eq_iff_iff]
  simp only [beq_iff_eq, decide_eq_true_eq]
  omega
 | n + 1, i, h => by
  have ih := rlang_l n (i + 1) (by omega)
  have hn := nxt s hs h
  by_cases hp : lowL (bt s i) = true
  ·rw [allB, hp, Bool.true_and]
   simp only [lowL, Bool.and_eq_true, decide_eq_true_eq] at hp
   refine Ev.step (fun k => ?_) ih
   rw [dioramaref03_language.l0, if_pos (by omega), if_pos (by omega), if_neg (by omega), if_neg (by omega), hn]
  ·rw [allB, Bool.eq_false_iff.2 hp, Bool.false_and, Bool.false_and]
   simp only [lowL, Bool.and_eq_true, decide_eq_true_eq] at hp
   refine Ev.step (f := fun _ => some false) (fun k => ?_) (Ev.now _)
   rw [dioramaref03_language.l0, if_pos (by omega), if_pos (by omega)]
   repeat' split
   all_goals first | rfl | (exfalso; omega)
theorem rlang_f : Ev (fun k => dioramaref03_language.f k s) (lanB s) := rlang_l s hs s.size 0 (by omega)
theorem rname_l : ∀ n i : Nat, i + n = s.size → Ev (fun k => dioramaref03_Name.l0 k s (i : Int)) (allB sign s i n && decide (s.size ≤ 40))
 | 0, i, h => by
  refine Ev.step (f := fun _ => some (decide (s.size ≤ 40))) (fun k => ?_) (by simpa only [allB, Bool.true_and] using Ev.now _)
  rw [dioramaref03_Name.l0, if_neg (by omega)]
  congr 1
  rw [Bool.eq_iff_iff]
  simp only [decide_eq_true_eq]
  omega
 | n + 1, i, h => by
  have ih := rname_l n (i + 1) (by omega)
  have hn := nxt s hs h
  by_cases hp : sign (bt s i) = true
  ·rw [allB, hp, Bool.true_and]
   simp only [sign, Bool.and_eq_true, decide_eq_true_eq] at hp
   refine Ev.step (fun k => ?_) ih
   rw [dioramaref03_Name.l0, if_pos (by omega), if_pos (by omega), if_neg (by omega), if_neg (by omega), hn]
  ·rw [allB, Bool.eq_false_iff.2 hp, Bool.false_and, Bool.false_and]
   simp only [sign, Bool.and_eq_true, decide_eq_true_eq] at hp
   refine Ev.step (f := fun _ => some false) (fun k => ?_) (Ev.now _)
   rw [dioramaref03_Name.l0, if_pos (by omega), if_pos (by omega)]
   repeat' split
   all_goals first | rfl | (exfalso; omega)
theorem rname_f : Ev (fun k => dioramaref03_Name.f k s) (namB s) := by
 unfold namB
 rw [Bool.and_comm]
 exact rname_l s hs s.size 0 (by omega)
end
def edB (x : Ed') : Bool := inB x.f0 1 1099511627776 && (inB x.f1 (-1) 1099511627776 && (inB x.f2 0 1000 && (inB x.f3 1 1000 && (decide (x.f1 = -1) && (decide (x.f2 ≠ 1) || decide (x.f3 ≠ 1))) == false)))
def sumE : List Ed' → Int
 | [] => 0
 | x :: t => x.f0 + sumE t
def edsB (l : List Ed') : Bool := l.all edB && decide (sumE l ≤ 1099511627776)
theorem ed_is {x : Ed'} (h : edB x = true) : 1 ≤ x.f0 ∧ x.f0 ≤ 1099511627776 := by
 unfold edB inB at h
 simp only [Bool.and_eq_true, decide_eq_true_eq] at h
 exact h.1
theorem sumE_app : ∀ a b : List Ed', sumE (a ++ b) = sumE a + sumE b
 | [], b => by simp [sumE]
 | x :: t, b => by simp only [List.cons_append, sumE, sumE_app t b]; omega
theorem sumE_rng : ∀ l : List Ed', (∀ x ∈ l, edB x = true) → 0 ≤ sumE l ∧ sumE l ≤ 1099511627776 * l.length
 | [], _ => by simp [sumE]
 | x :: t, h => by
  have h1 := ed_is (h x (by simp))
  have h2 := sumE_rng t (fun y hy => h y (by simp [hy]))
  simp only [sumE, List.length_cons]
  omega
def depsB (i last : Int) : List Int → Bool
 | [] => true
 | d :: t => decide (last < d) && (decide (d < i) && depsB i d t)
def smV (i before : Int) (s : Sm) : Int :=
 if (inB s.f0 (-1099511627776) 1099511627776 && (inB s.f1 (-1099511627776) 1099511627776 && inB s.f2 0 1099511627776)) = true then
  (if 65536 < s.f5.length ∨ 4 < s.f4.length then 2 else if 0 < i ∧ s.f0 ≤ before then 31 else if (s.f3 = true ∧ 0 < s.f4.length) ∨ depsB i (-1) s.f4 = false then 32 else 0)
 else 1
def smsV : Nat → Int → List Sm → Int
 | _, _, [] => 0
 | i, before, s :: t => if smV i before s = 0 then smsV (i + 1) s.f0 t else smV i before s
def rfsB (l : List Rf) : Bool := l.all (fun r => letB r.f0)
def fldB (id kind : Int) (codec : ByteArray) (scale : Int) (lang name : ByteArray) (pre : Int) : Bool := inB id 1 1000 && (inB kind 1 7 && (letB codec && (inB scale 1 1000000 && (lanB lang && (namB name && inB pre 0 1099511627776)))))
def limB (setup : List Int) (edits : List Ed') (refs : List Rf) (samples : List Sm) : Bool := decide (1000 < setup.length) || (decide (20 < edits.length) || (decide (8 < refs.length) || decide (400 < samples.length)))
def chkT (id kind : Int) (codec : ByteArray) (scale : Int) (setup : List Int) (lang name : ByteArray) (pre : Int) (edits : List Ed') (refs : List Rf) (samples : List Sm) : Int :=
 if (fldB id kind codec scale lang name pre && rfsB refs) = true then (if limB setup edits refs samples = true then 2 else if edsB edits = true then smsV 0 0 samples else 33) else 1
theorem rd_mid {pre : List Int} {x : Int} {rest : List Int} : rd (pre ++ x :: rest) (pre.length : Int) = x := by
 unfold rd
 simp [List.getD_eq_getElem?_getD]
theorem rdE_mid (pre : List Ed') (x : Ed') (rest : List Ed') : rd_T86 (pre ++ x :: rest) (pre.length : Int) = x := by
 unfold rd_T86
 simp [List.getD_eq_getElem?_getD]
theorem rdR_mid (pre : List Rf) (x : Rf) (rest : List Rf) : rd_T68 (pre ++ x :: rest) (pre.length : Int) = x := by
 unfold rd_T68
 simp [List.getD_eq_getElem?_getD]
theorem rdS_mid (pre : List Sm) (x : Sm) (rest : List Sm) : rd_T51 (pre ++ x :: rest) (pre.length : Int) = x := by
 unfold rd_T51
 simp [List.getD_eq_getElem?_getD]
theorem deps_l (i : Int) (l : List Int) (hl : l.length ≤ 4) : ∀ (rest pre : List Int) (last : Int), l = pre ++ rest → Ev (fun k => model_checkSample.l0 k i last l (l.length : Int) (pre.length : Int)) (if depsB i last rest = true then 0 else 32)
 | [], pre, last, h => by
  rw [depsB, if_pos rfl]
  have : l.length = pre.length := by rw [h]; simp
  refine Ev.step (f := fun _ => some 0) (fun k => ?_) (Ev.now _)
  rw [model_checkSample.l0, if_neg (by omega)]
 | d :: t, pre, last, h => by
  have ih := deps_l i l hl t (pre ++ [d]) d (by rw [h]; simp)
  have hlen : l.length = pre.length + (t.length + 1) := by rw [h]; simp
  have hx : rd l (pre.length : Int) = d := by rw [h]; exact rd_mid
  rw [depsB]
  by_cases h1 : last < d
  ·rw [decide_eq_true h1, Bool.true_and]
   by_cases h2 : d < i
   ·rw [decide_eq_true h2, Bool.true_and]
    refine Ev.step (fun k => ?_) ih
    rw [model_checkSample.l0, if_pos (by omega), if_pos (by omega), if_pos (by omega), hx, if_neg (by omega), if_neg (by omega), w64 (by omega) (by omega)]
    simp
   ·rw [decide_eq_false h2, Bool.false_and, if_neg (by decide)]
    refine Ev.step (f := fun _ => some 32) (fun k => ?_) (Ev.now _)
    rw [model_checkSample.l0, if_pos (by omega), if_pos (by omega), if_pos (by omega), hx, if_neg (by omega), if_pos (by omega)]
  ·rw [decide_eq_false h1, Bool.false_and, if_neg (by decide)]
   refine Ev.step (f := fun _ => some 32) (fun k => ?_) (Ev.now _)
   rw [model_checkSample.l0, if_pos (by omega), if_pos (by omega), if_pos (by omega), hx, if_pos (by omega)]
theorem Ev.and {α : Type} {g : Nat → Option Bool} {a c : Nat → Option α} {b : Bool} {v : α} (h : Ev g b) (h1 : b = true → Ev a v) (h2 : b = false → Ev c v) : Ev (fun k => (g k).bind fun t => (if t = true then a k else c k)) v := by
 refine Ev.bind (f := fun k t => if t = true then a k else c k) h ?_
 cases b with
 | true => exact Ev.congr (fun k => if_pos rfl) (h1 rfl)
 | false => exact Ev.congr (fun k => if_neg (by decide)) (h2 rfl)
theorem tick_f (a : Int) : model_tick.f a = some (inB a (-1099511627776) 1099511627776) := by
 unfold model_tick.f
 rw [within_f]
 rfl
theorem checkSample_f (id kind : Int) (codec : ByteArray) (scale : Int) (setup : List Int) (lang name : ByteArray) (pr : Int) (edits : List Ed') (refs : List Rf) (samples : List Sm) (i : Nat) (before : Int) (s : Sm) (hi : i < samples.length) (hn : samples.length ≤ 1000000) (hb : 0 < i → (rd_T51 samples ((i : Int) - 1)).f0 = before) :
  Ev (fun k => model_checkSample.f k id kind codec scale setup lang name pr edits refs samples (i : Int) s.f0 s.f1 s.f2 s.f3 s.f4 s.f5) (smV i before s) := by
 have h0 : ∀ b : Bool, Ev (fun k => model_checkSample.j0 k (i : Int) b id kind codec scale setup lang name pr edits refs samples s.f0 s.f1 s.f2 s.f3 s.f4 s.f5) (if b = true then 1 else if 65536 < s.f5.length ∨ 4 < s.f4.length then 2 else if 0 < (i : Int) ∧ s.f0 ≤ before then 31 else if (s.f3 = true ∧ 0 < s.f4.length) ∨ depsB i (-1) s.f4 = false then 32 else 0) := by
  intro b
  cases b with
  | true =>
   rw [if_pos rfl]
   exact Ev.step (fun k => by rw [model_checkSample.j0]) (Ev.congr (fun k => if_pos rfl) (Ev.now _))
  | false =>
   rw [if_neg (by decide)]
   have j1 : ∀ b : Bool, (b = true ↔ (65536 < s.f5.length ∨ 4 < s.f4.length)) → Ev (fun k => model_checkSample.j1 k (i : Int) b id kind codec scale setup lang name pr edits refs samples s.f0 s.f1 s.f2 s.f3 s.f4 s.f5) (if 65536 < s.f5.length ∨ 4 < s.f4.length then 2 else if 0 < (i : Int) ∧ s.f0 ≤ before then 31 else if (s.f3 = true ∧ 0 < s.f4.length) ∨ depsB i (-1) s.f4 = false then 32 else 0) := by
    intro b hbb
    by_cases h1 : 65536 < s.f5.length ∨ 4 < s.f4.length
    ·rw [if_pos h1, hbb.2 h1]
     exact Ev.step (fun k => by rw [model_checkSample.j1]) (Ev.congr (fun k => if_pos rfl) (Ev.now _))
    ·rw [if_neg h1, Bool.eq_false_iff.2 (fun h => h1 (hbb.1 h))]
     have hl4 : s.f4.length ≤ 4 := by omega
     have hd := deps_l (i : Int) s.f4 hl4 s.f4 [] (-1) rfl
     have j3 : Ev (fun k => model_checkSample.j3 k (i : Int) s.f0 s.f1 s.f2 s.f3 s.f4 s.f5) (if depsB i (-1) s.f4 = true then 0 else 32) := Ev.step (fun k => by rw [model_checkSample.j3]; rfl) hd
     have j2 : ∀ b : Bool, (b = true ↔ (0 < (i : Int) ∧ s.f0 ≤ before)) → Ev (fun k => model_checkSample.j2 k (i : Int) b s.f0 s.f1 s.f2 s.f3 s.f4 s.f5) (if 0 < (i : Int) ∧ s.f0 ≤ before then 31 else if (s.f3 = true ∧ 0 < s.f4.length) ∨ depsB i (-1) s.f4 = false then 32 else 0) := by
      intro b hb2
      by_cases h2 : 0 < (i : Int) ∧ s.f0 ≤ before
      ·rw [if_pos h2, hb2.2 h2]
       exact Ev.step (fun k => by rw [model_checkSample.j2]) (Ev.congr (fun k => if_pos rfl) (Ev.now _))
      ·rw [if_neg h2, Bool.eq_false_iff.2 (fun h => h2 (hb2.1 h))]
       refine Ev.step (fun k => by rw [model_checkSample.j2]) (Ev.congr (fun k => if_neg (by decide)) ?_)
       by_cases h3 : s.f3 = true
       ·refine Ev.congr (fun k => if_pos h3) ?_
        by_cases h4 : 0 < s.f4.length
        ·rw [if_pos (.inl ⟨h3, h4⟩)]
         exact Ev.congr (fun k => if_pos (by omega)) (Ev.now _)
        ·refine Ev.congr (fun k => if_neg (by omega)) ?_
         by_cases h5 : depsB i (-1) s.f4 = true
         ·rw [if_neg (by rintro (⟨_, h⟩ | h) <;> simp_all)]
          rw [if_pos h5] at j3
          exact j3
         ·rw [if_pos (.inr (Bool.eq_false_iff.2 h5))]
          rw [if_neg h5] at j3
          exact j3
       ·refine Ev.congr (fun k => if_neg h3) ?_
        by_cases h5 : depsB i (-1) s.f4 = true
        ·rw [if_neg (by rintro (⟨h, _⟩ | h) <;> simp_all)]
         rw [if_pos h5] at j3
         exact j3
        ·rw [if_pos (.inr (Bool.eq_false_iff.2 h5))]
         rw [if_neg h5] at j3
         exact j3
     refine Ev.step (fun k => by rw [model_checkSample.j1]) (Ev.congr (fun k => if_neg (by decide)) ?_)
     by_cases h2 : 0 < i
     ·have hw : wrap64 ((i : Int) - 1) = (i : Int) - 1 := w64 (by omega) (by omega)
      refine Ev.congr (fun k => if_pos (by omega)) ?_
      rw [hw]
      refine Ev.congr (fun k => if_pos (by omega)) (Ev.congr (fun k => if_pos (by omega)) (j2 _ ?_))
      rw [decide_eq_true_eq, hb h2]
      exact ⟨fun h => ⟨by omega, h⟩, fun h => h.2⟩
     ·refine Ev.congr (fun k => if_neg (by omega)) (j2 _ ?_)
      exact ⟨fun h => by (cases h), fun h => by omega⟩
   refine Ev.step (fun k => by rw [model_checkSample.j0]) (Ev.congr (fun k => if_neg (by decide)) ?_)
   by_cases h1 : 65536 < s.f5.length
   ·exact Ev.congr (fun k => if_pos (by omega)) (j1 _ ⟨fun _ => .inl h1, fun _ => rfl⟩)
   ·refine Ev.congr (fun k => if_neg (by omega)) (j1 _ ?_)
    rw [decide_eq_true_eq]
    omega
 unfold smV
 refine Ev.congr (f := fun k => (some (inB s.f0 (-1099511627776) 1099511627776)).bind fun t => (if t = true then ((some (inB s.f1 (-1099511627776) 1099511627776)).bind fun t => (if t = true then ((some (inB s.f2 0 1099511627776)).bind fun t => (model_checkSample.j0 k (i : Int) (!t) id kind codec scale setup lang name pr edits refs samples s.f0 s.f1 s.f2 s.f3 s.f4 s.f5)) else (model_checkSample.j0 k (i : Int) true id kind codec scale setup lang name pr edits refs samples s.f0 s.f1 s.f2 s.f3 s.f4 s.f5))) else (model_checkSample.j0 k (i : Int) true id kind codec scale setup lang name pr edits refs samples s.f0 s.f1 s.f2 s.f3 s.f4 s.f5))) (fun k => ?_) ?_
 ·unfold model_checkSample.f
  rw [tick_f, tick_f, within_f]
 have off := h0 true
 rw [if_pos rfl] at off
 generalize inB s.f0 (-1099511627776) 1099511627776 = c0
 generalize inB s.f1 (-1099511627776) 1099511627776 = c1
 generalize inB s.f2 0 1099511627776 = c2
 cases c0 with
 | false => exact off
 | true =>
  cases c1 with
  | false => exact off
  | true =>
   cases c2 with
   | false => exact off
   | true => exact h0 false
theorem rdeps_l (i : Int) (l : List Int) (hl : l.length ≤ 4) (a b c : Int) (sy : Bool) (data : List Int) : ∀ (rest pre : List Int) (last : Int), l = pre ++ rest → -1 ≤ last → (pre = [] → last = -1) → (0 < pre.length → rd l ((pre.length : Int) - 1) = last) → Ev (fun k => dioramaref03_sample.l0 k i (pre.length : Int) a b c sy l data) (if depsB i last rest = true then (if sy = true ∧ 0 < l.length then 32 else 0) else 32)
 | [], pre, last, h, _, _, _ => by
  rw [depsB, if_pos rfl]
  have : l.length = pre.length := by rw [h]; simp
  by_cases h1 : sy = true ∧ 0 < l.length
  ·rw [if_pos h1]
   refine Ev.step (f := fun _ => some 32) (fun k => ?_) (Ev.now _)
   rw [dioramaref03_sample.l0, if_neg (by omega), if_pos h1.1, if_pos (by omega)]
  ·rw [if_neg h1]
   refine Ev.step (f := fun _ => some 0) (fun k => ?_) (Ev.now _)
   rw [dioramaref03_sample.l0, if_neg (by omega)]
   by_cases h2 : sy = true
   ·rw [if_pos h2, if_neg (fun hc => h1 ⟨h2, by omega⟩)]
   ·rw [if_neg h2]
 | d :: t, pre, last, h, hlo, h0, hp => by
  have hlen : l.length = pre.length + (t.length + 1) := by rw [h]; simp
  have hx : rd l (pre.length : Int) = d := by rw [h]; exact rd_mid
  have hx2 : rd l (((pre ++ [d]).length : Nat) - 1 : Int) = d := by
   rw [List.length_append]
   simp only [List.length_cons, List.length_nil]
   rw [show ((pre.length + (0 + 1) : Nat) : Int) - 1 = (pre.length : Int) by omega]
   exact hx
  have hw2 : wrap64 ((pre.length : Int) + 1) = ((pre ++ [d]).length : Nat) := by
   rw [w64 (by omega) (by omega)]
   simp
  have hw : 0 < pre.length → wrap64 ((pre.length : Int) - 1) = (pre.length : Int) - 1 := fun _ => w64 (by omega) (by omega)
  rw [depsB]
  by_cases h1 : last < d
  ·rw [decide_eq_true h1, Bool.true_and]
   by_cases h2 : d < i
   ·rw [decide_eq_true h2, Bool.true_and]
    have ih := rdeps_l i l hl a b c sy data t (pre ++ [d]) d (by rw [h]; simp) (by omega) (by simp) (fun _ => hx2)
    refine Ev.step (fun k => ?_) ih
    rw [dioramaref03_sample.l0, if_pos (by omega), if_pos (by omega), hx, if_neg (by omega), if_neg (by omega), hw2]
    by_cases h3 : 0 < pre.length
    ·rw [if_pos (by omega), hw h3, if_pos (by omega), if_pos (by omega), hp h3, if_neg (by omega)]
    ·rw [if_neg (by omega)]
   ·rw [decide_eq_false h2, Bool.false_and, if_neg (by decide)]
    refine Ev.step (f := fun _ => some 32) (fun k => ?_) (Ev.now _)
    rw [dioramaref03_sample.l0, if_pos (by omega), if_pos (by omega), hx, if_neg (by omega), if_pos (by omega)]
  ·rw [decide_eq_false h1, Bool.false_and, if_neg (by decide)]
   refine Ev.step (f := fun _ => some 32) (fun k => ?_) (Ev.now _)
   rw [dioramaref03_sample.l0, if_pos (by omega), if_pos (by omega), hx]
   by_cases h3 : d < 0
   ·rw [if_pos h3]
   ·rw [if_neg h3]
    by_cases h4 : d ≥ i
    ·rw [if_pos h4]
    ·rw [if_neg h4]
     have h5 : 0 < pre.length := by
      refine Nat.pos_of_ne_zero fun hz => ?_
      have := h0 (List.eq_nil_of_length_eq_zero hz)
      omega
     rw [if_pos (by omega), hw h5, if_pos (by omega), if_pos (by omega), hp h5, if_pos (by omega)]
theorem rsample_f (i : Nat) (before : Int) (s : Sm) : Ev (fun k => dioramaref03_sample.f k s.f0 s.f1 s.f2 s.f3 s.f4 s.f5 (i : Int) before) (smV i before s) := by
 have h0 : ∀ b : Bool, Ev (fun k => dioramaref03_sample.j0 k (i : Int) before b s.f0 s.f1 s.f2 s.f3 s.f4 s.f5) (if b = true then 1 else if 65536 < s.f5.length ∨ 4 < s.f4.length then 2 else if 0 < (i : Int) ∧ s.f0 ≤ before then 31 else if (s.f3 = true ∧ 0 < s.f4.length) ∨ depsB i (-1) s.f4 = false then 32 else 0) := by
  intro b
  cases b with
  | true =>
   rw [if_pos rfl]
   exact Ev.step (fun k => by rw [dioramaref03_sample.j0]) (Ev.congr (fun k => if_pos rfl) (Ev.now _))
  | false =>
   rw [if_neg (by decide)]
   have j1 : ∀ b : Bool, (b = true ↔ (65536 < s.f5.length ∨ 4 < s.f4.length)) → Ev (fun k => dioramaref03_sample.j1 k (i : Int) before b s.f0 s.f1 s.f2 s.f3 s.f4 s.f5) (if 65536 < s.f5.length ∨ 4 < s.f4.length then 2 else if 0 < (i : Int) ∧ s.f0 ≤ before then 31 else if (s.f3 = true ∧ 0 < s.f4.length) ∨ depsB i (-1) s.f4 = false then 32 else 0) := by
    intro b hbb
    by_cases h1 : 65536 < s.f5.length ∨ 4 < s.f4.length
    ·rw [if_pos h1, hbb.2 h1]
     exact Ev.step (fun k => by rw [dioramaref03_sample.j1]) (Ev.congr (fun k => if_pos rfl) (Ev.now _))
    ·rw [if_neg h1, Bool.eq_false_iff.2 (fun h => h1 (hbb.1 h))]
     have hl4 : s.f4.length ≤ 4 := by omega
     have hd := rdeps_l (i : Int) s.f4 hl4 s.f0 s.f1 s.f2 s.f3 s.f5 s.f4 [] (-1) rfl (by omega) (fun _ => rfl) (fun h => by cases h)
     have j2 : ∀ b : Bool, (b = true ↔ (0 < (i : Int) ∧ s.f0 ≤ before)) → Ev (fun k => dioramaref03_sample.j2 k (i : Int) b s.f0 s.f1 s.f2 s.f3 s.f4 s.f5) (if 0 < (i : Int) ∧ s.f0 ≤ before then 31 else if (s.f3 = true ∧ 0 < s.f4.length) ∨ depsB i (-1) s.f4 = false then 32 else 0) := by
      intro b hb2
      by_cases h2 : 0 < (i : Int) ∧ s.f0 ≤ before
      ·rw [if_pos h2, hb2.2 h2]
       exact Ev.step (fun k => by rw [dioramaref03_sample.j2]) (Ev.congr (fun k => if_pos rfl) (Ev.now _))
      ·rw [if_neg h2, Bool.eq_false_iff.2 (fun h => h2 (hb2.1 h))]
       refine Ev.step (f := fun k => dioramaref03_sample.l0 k (i : Int) (([] : List Int).length : Int) s.f0 s.f1 s.f2 s.f3 s.f4 s.f5) (fun k => by rw [dioramaref03_sample.j2, if_neg (by decide)]; rfl) ?_
       by_cases h5 : depsB i (-1) s.f4 = true
       ·rw [if_pos h5] at hd
        by_cases h4 : s.f3 = true ∧ 0 < s.f4.length
        ·rw [if_pos h4] at hd
         rw [if_pos (.inl h4)]
         exact hd
        ·rw [if_neg h4] at hd
         rw [if_neg (by rintro (h | h) <;> simp_all)]
         exact hd
       ·rw [if_neg h5] at hd
        rw [if_pos (.inr (Bool.eq_false_iff.2 h5))]
        exact hd
     refine Ev.step (fun k => by rw [dioramaref03_sample.j1]) (Ev.congr (fun k => if_neg (by decide)) ?_)
     by_cases h2 : 0 < i
     ·refine Ev.congr (fun k => if_pos (by omega)) (j2 _ ?_)
      rw [decide_eq_true_eq]
      exact ⟨fun h => ⟨by omega, h⟩, fun h => h.2⟩
     ·refine Ev.congr (fun k => if_neg (by omega)) (j2 _ ?_)
      exact ⟨fun h => by (cases h), fun h => by omega⟩
   refine Ev.step (fun k => by rw [dioramaref03_sample.j0]) (Ev.congr (fun k => if_neg (by decide)) ?_)
   by_cases h1 : 65536 < s.f5.length
   ·exact Ev.congr (fun k => if_pos (by omega)) (j1 _ ⟨fun _ => .inl h1, fun _ => rfl⟩)
   ·refine Ev.congr (fun k => if_neg (by omega)) (j1 _ ?_)
    rw [decide_eq_true_eq]
    omega
 unfold smV
 refine Ev.congr (f := fun k => (some (inB s.f0 (-1099511627776) 1099511627776)).bind fun t => (if t = true then ((some (inB s.f1 (-1099511627776) 1099511627776)).bind fun t => (if t = true then ((some (inB s.f2 0 1099511627776)).bind fun t => (dioramaref03_sample.j0 k (i : Int) before (!t) s.f0 s.f1 s.f2 s.f3 s.f4 s.f5)) else (dioramaref03_sample.j0 k (i : Int) before true s.f0 s.f1 s.f2 s.f3 s.f4 s.f5))) else (dioramaref03_sample.j0 k (i : Int) before true s.f0 s.f1 s.f2 s.f3 s.f4 s.f5))) (fun k => ?_) ?_
 ·unfold dioramaref03_sample.f
  rw [rin_f, rin_f, rin_f]
 have off := h0 true
 rw [if_pos rfl] at off
 generalize inB s.f0 (-1099511627776) 1099511627776 = c0
 generalize inB s.f1 (-1099511627776) 1099511627776 = c1
 generalize inB s.f2 0 1099511627776 = c2
 cases c0 with
 | false => exact off
 | true =>
  cases c1 with
  | false => exact off
  | true =>
   cases c2 with
   | false => exact off
   | true => exact h0 false
theorem redits_l (l : List Ed') (hl : l.length ≤ 20) : ∀ (rest pre : List Ed'), l = pre ++ rest → (∀ x ∈ pre, edB x = true) → Ev (fun k => dioramaref03_edits.l0 k l (sumE pre) (pre.length : Int)) (rest.all edB && decide (sumE l ≤ 1099511627776))
 | [], pre, h, _ => by
  have e : l.length = pre.length := by rw [h]; simp
  have e2 : sumE pre = sumE l := by rw [h, List.append_nil]
  refine Ev.step (f := fun _ => some (decide (sumE l ≤ 1099511627776))) (fun k => ?_) (by simpa using Ev.now _)
  rw [dioramaref03_edits.l0, if_neg (by omega), e2]
 | x :: t, pre, h, hp => by
  have hlen : l.length = pre.length + (t.length + 1) := by rw [h]; simp
  have hx : rd_T86 l (pre.length : Int) = x := by rw [h]; exact rdE_mid pre x t
  have hs := sumE_rng pre hp
  have bad : ∀ (b : Bool) (acc : Int), (b = true ∨ (x.f1 = -1 ∧ (x.f2 ≠ 1 ∨ x.f3 ≠ 1))) → Ev (fun k => dioramaref03_edits.j1 k l acc (pre.length : Int) b x.f0 x.f1 x.f2 x.f3) false := by
   intro b acc hb
   refine Ev.step (f := fun _ => some false) (fun k => ?_) (Ev.now _)
   rw [dioramaref03_edits.j1]
   rcases hb with hb | ⟨h1, h2⟩
   ·rw [if_pos hb]
   ·by_cases hb2 : b = true
    ·rw [if_pos hb2]
    ·rw [if_neg hb2, if_pos h1]
     by_cases h3 : x.f2 = 1
     ·rw [if_pos h3, if_neg (h2.resolve_left (fun hc => hc h3))]
     ·rw [if_neg h3]
  refine Ev.congr (f := fun k => dioramaref03_edits.l0 k l (sumE pre) (pre.length : Int)) (fun _ => rfl) ?_
  refine Ev.step (f := fun k => (some (inB x.f0 1 1099511627776)).bind fun t => (if t = true then ((some (inB x.f1 (-1) 1099511627776)).bind fun t => (if t = true then ((some (inB x.f2 0 1000)).bind fun t => (if t = true then ((some (inB x.f3 1 1000)).bind fun t => (dioramaref03_edits.j1 k l (sumE pre) (pre.length : Int) (!t) x.f0 x.f1 x.f2 x.f3)) else (dioramaref03_edits.j1 k l (sumE pre) (pre.length : Int) true x.f0 x.f1 x.f2 x.f3))) else (dioramaref03_edits.j1 k l (sumE pre) (pre.length : Int) true x.f0 x.f1 x.f2 x.f3))) else (dioramaref03_edits.j1 k l (sumE pre) (pre.length : Int) true x.f0 x.f1 x.f2 x.f3))) (fun k => ?_) ?_
  ·rw [dioramaref03_edits.l0, if_pos (by omega), if_pos (by omega), hx, rin_f, rin_f, rin_f, rin_f]
  by_cases hv : edB x = true
  ·have hf := ed_is hv
   have ih := redits_l l hl t (pre ++ [x]) (by rw [h]; simp) (fun y hy => by
    rcases List.mem_append.1 hy with h | h
    ·exact hp y h
    ·rw [List.mem_singleton.1 h]; exact hv)
   rw [List.all_cons, hv, Bool.true_and]
   unfold edB at hv
   simp only [Bool.and_eq_true] at hv
   obtain ⟨v0, v1, v2, v3, v4⟩ := hv
   rw [v0, v1, v2, v3]
   refine Ev.step (fun k => ?_) ih
   show dioramaref03_edits.j1 (k + 1) l (sumE pre) (pre.length : Int) false x.f0 x.f1 x.f2 x.f3 = _
   have e1 : wrap64 (sumE pre + x.f0) = sumE (pre ++ [x]) := by
    rw [w64 (by omega) (by omega), sumE_app]
    simp [sumE]
   have e2 : wrap64 ((pre.length : Int) + 1) = ((pre ++ [x]).length : Nat) := by
    rw [w64 (by omega) (by omega)]
    simp
   rw [dioramaref03_edits.j1, if_neg (by decide), e1, e2]
   simp only [beq_iff_eq, Bool.and_eq_false_iff, decide_eq_false_iff_not, Bool.or_eq_false_iff, ne_eq, Decidable.not_not] at v4
   by_cases h1 : x.f1 = -1
   ·rw [if_pos h1]
    rcases v4 with v4 | v4
    ·exact absurd h1 v4
    ·rw [if_pos v4.1, if_pos v4.2]
   ·rw [if_neg h1]
  ·rw [List.all_cons, Bool.eq_false_iff.2 hv, Bool.false_and, Bool.false_and]
   unfold edB at hv
   cases c0 : inB x.f0 1 1099511627776 with
   | false => exact bad _ _ (.inl rfl)
   | true =>
    cases c1 : inB x.f1 (-1) 1099511627776 with
    | false => exact bad _ _ (.inl rfl)
    | true =>
     cases c2 : inB x.f2 0 1000 with
     | false => exact bad _ _ (.inl rfl)
     | true =>
      cases c3 : inB x.f3 1 1000 with
      | false => exact bad _ _ (.inl rfl)
      | true =>
       rw [c0, c1, c2, c3] at hv
       refine bad _ _ (.inr ?_)
       simp only [Bool.true_and, beq_iff_eq, Bool.not_eq_false, Bool.and_eq_true, decide_eq_true_eq, Bool.or_eq_true] at hv
       exact hv
theorem redits_f (l : List Ed') (hl : l.length ≤ 20) : Ev (fun k => dioramaref03_edits.f k l) (edsB l) := redits_l l hl l [] rfl (by simp)
section
variable (id kind : Int) (codec : ByteArray) (scale : Int) (setup : List Int) (lang name : ByteArray) (pr : Int) (edits : List Ed') (refs : List Rf) (samples : List Sm)
theorem rrefs_l (hrl : refs.length ≤ maxLen) (hr : ∀ r ∈ refs, Bs r.f0) : ∀ (rest pre : List Rf), refs = pre ++ rest → Ev (fun k => dioramaref03_fields.l0 k (pre.length : Int) id kind codec scale setup lang name pr edits refs samples) (rfsB rest)
 | [], pre, h => by
  have e : refs.length = pre.length := by rw [h]; simp
  refine Ev.step (f := fun _ => some true) (fun k => ?_) (Ev.now _)
  rw [dioramaref03_fields.l0, if_neg (by omega)]
 | x :: t, pre, h => by
  have hlen : refs.length = pre.length + (t.length + 1) := by rw [h]; simp
  have hx : rd_T68 refs (pre.length : Int) = x := by rw [h]; exact rdR_mid pre x t
  have hm := max_is
  have e2 : wrap64 ((pre.length : Int) + 1) = ((pre ++ [x]).length : Nat) := by
   rw [w64 (by omega) (by omega)]
   simp
  refine Ev.step (f := fun k => (dioramaref03_Letters.f k x.f0).bind fun t => (if t = true then (dioramaref03_fields.l0 k ((pre ++ [x]).length : Nat) id kind codec scale setup lang name pr edits refs samples) else (some false))) (fun k => ?_) ?_
  ·rw [dioramaref03_fields.l0, if_pos (by omega), if_pos (by omega), hx, e2]
  ·refine Ev.and (rletters_f x.f0 (hr x (by rw [h]; simp))) (fun hb => ?_) (fun hb => ?_)
   ·have ih := rrefs_l hrl hr t (pre ++ [x]) (by rw [h]; simp)
    rw [show rfsB (x :: t) = rfsB t by unfold rfsB; rw [List.all_cons, hb, Bool.true_and]]
    exact ih
   ·rw [show rfsB (x :: t) = false by unfold rfsB; rw [List.all_cons, hb, Bool.false_and]]
    exact Ev.now _
theorem rfields_f (h1 : Bs codec) (h2 : Bs lang) (h3 : Bs name) (hrl : refs.length ≤ maxLen) (hr : ∀ r ∈ refs, Bs r.f0) : Ev (fun k => dioramaref03_fields.f k id kind codec scale setup lang name pr edits refs samples) (fldB id kind codec scale lang name pr && rfsB refs) := by
 have off : Ev (fun k => dioramaref03_fields.j0 k true id kind codec scale setup lang name pr edits refs samples) false := Ev.step (fun k => by rw [dioramaref03_fields.j0]) (Ev.congr (fun k => if_pos rfl) (Ev.now _))
 have on : Ev (fun k => dioramaref03_fields.j0 k false id kind codec scale setup lang name pr edits refs samples) (rfsB refs) := by
  refine Ev.step (fun k => ?_) (rrefs_l id kind codec scale setup lang name pr edits refs samples hrl hr refs [] rfl)
  rw [dioramaref03_fields.j0, if_neg (by decide)]
  rfl
 unfold fldB
 unfold dioramaref03_fields.f
 simp only [rin_f, Option.bind_some]
 cases c0 : inB id 1 1000 with
 | false => exact Ev.congr (fun k => if_neg (by decide)) off
 | true =>
 refine Ev.congr (fun k => if_pos rfl) ?_
 cases c1 : inB kind 1 7 with
 | false => exact Ev.congr (fun k => if_neg (by decide)) off
 | true =>
 refine Ev.congr (fun k => if_pos rfl) (Ev.and (rletters_f codec h1) (fun c2 => ?_) (fun c2 => by rw [c2]; exact off))
 rw [c2]
 cases c3 : inB scale 1 1000000 with
 | false => exact Ev.congr (fun k => if_neg (by decide)) off
 | true =>
 refine Ev.congr (fun k => if_pos rfl) (Ev.and (rlang_f lang h2) (fun c4 => ?_) (fun c4 => by rw [c4]; exact off))
 rw [c4]
 refine Ev.and (rname_f name h3) (fun c5 => ?_) (fun c5 => by rw [c5]; exact off)
 rw [c5]
 cases c6 : inB pr 0 1099511627776 with
 | false => exact off
 | true => exact on
theorem rsamples_l (hn : samples.length ≤ 400) : ∀ (rest pre : List Sm) (before : Int), samples = pre ++ rest → Ev (fun k => dioramaref03_CheckTrack.l0 k before (pre.length : Int) id kind codec scale setup lang name pr edits refs samples) (smsV pre.length before rest)
 | [], pre, before, h => by
  have e : samples.length = pre.length := by rw [h]; simp
  refine Ev.step (f := fun _ => some 0) (fun k => ?_) (Ev.now _)
  rw [dioramaref03_CheckTrack.l0, if_neg (by omega)]
 | x :: t, pre, before, h => by
  have hlen : samples.length = pre.length + (t.length + 1) := by rw [h]; simp
  have hx : rd_T51 samples (pre.length : Int) = x := by rw [h]; exact rdS_mid pre x t
  have ih := rsamples_l hn t (pre ++ [x]) x.f0 (by rw [h]; simp)
  have e2 : wrap64 ((pre.length : Int) + 1) = ((pre ++ [x]).length : Nat) := by
   rw [w64 (by omega) (by omega)]
   simp
  refine Ev.step (f := fun k => (dioramaref03_sample.f k x.f0 x.f1 x.f2 x.f3 x.f4 x.f5 (pre.length : Int) before).bind fun t => (if t = 0 then (dioramaref03_CheckTrack.l0 k x.f0 ((pre ++ [x]).length : Nat) id kind codec scale setup lang name pr edits refs samples) else (some t))) (fun k => ?_) ?_
  ·rw [dioramaref03_CheckTrack.l0, if_pos (by omega), if_pos (by omega), hx, e2]
  ·refine Ev.bind (rsample_f pre.length before x) ?_
   rw [smsV]
   by_cases h0 : smV (pre.length : Int) before x = 0
   ·rw [if_pos h0]
    refine Ev.congr (fun k => if_pos h0) ?_
    have e3 : (pre ++ [x]).length = pre.length + 1 := by simp
    rw [← e3]
    exact ih
   ·rw [if_neg h0]
    exact Ev.congr (fun k => if_neg h0) (Ev.now _)
theorem rCheckTrack_f (h1 : Bs codec) (h2 : Bs lang) (h3 : Bs name) (hrl : refs.length ≤ maxLen) (hr : ∀ r ∈ refs, Bs r.f0) : Ev (fun k => dioramaref03_CheckTrack.f k id kind codec scale setup lang name pr edits refs samples) (chkT id kind codec scale setup lang name pr edits refs samples) := by
 have hj : ∀ b : Bool, b = limB setup edits refs samples → Ev (fun k => dioramaref03_CheckTrack.j0 k b id kind codec scale setup lang name pr edits refs samples) (if limB setup edits refs samples = true then 2 else if edsB edits = true then smsV 0 0 samples else 33) := by
  intro b hb
  rw [← hb]
  cases b with
  | true =>
   rw [if_pos rfl]
   exact Ev.step (fun k => by rw [dioramaref03_CheckTrack.j0]) (Ev.congr (fun k => if_pos rfl) (Ev.now _))
  | false =>
   rw [if_neg (by decide)]
   have hb2 := hb.symm
   unfold limB at hb2
   simp only [Bool.or_eq_false_iff, decide_eq_false_iff_not] at hb2
   refine Ev.step (fun k => by rw [dioramaref03_CheckTrack.j0]) (Ev.congr (fun k => if_neg (by decide)) ?_)
   refine Ev.and (redits_f edits (by omega)) (fun hb => ?_) (fun hb => ?_)
   ·rw [if_pos hb]
    exact rsamples_l id kind codec scale setup lang name pr edits refs samples (by omega) samples [] 0 rfl
   ·rw [if_neg (by rw [hb]; decide)]
    exact Ev.now _
 unfold chkT
 refine Ev.congr (fun k => rfl) (Ev.and (rfields_f id kind codec scale setup lang name pr edits refs samples h1 h2 h3 hrl hr) (fun hb => ?_) (fun hb => ?_))
 ·rw [if_pos hb]
  by_cases h1 : 1000 < setup.length
  ·exact Ev.congr (fun k => if_pos (by omega)) (hj true (by unfold limB; rw [decide_eq_true h1]; rfl))
  refine Ev.congr (fun k => if_neg (by omega)) ?_
  by_cases h2 : 20 < edits.length
  ·exact Ev.congr (fun k => if_pos (by omega)) (hj true (by unfold limB; rw [decide_eq_false h1, decide_eq_true h2]; rfl))
  refine Ev.congr (fun k => if_neg (by omega)) ?_
  by_cases h3 : 8 < refs.length
  ·exact Ev.congr (fun k => if_pos (by omega)) (hj true (by unfold limB; rw [decide_eq_false h1, decide_eq_false h2, decide_eq_true h3]; rfl))
  refine Ev.congr (fun k => if_neg (by omega)) (hj _ ?_)
  unfold limB
  rw [decide_eq_false h1, decide_eq_false h2, decide_eq_false h3, Bool.false_or, Bool.false_or, Bool.false_or, Bool.eq_iff_iff, decide_eq_true_eq, decide_eq_true_eq]
  omega
 ·rw [if_neg (by rw [hb]; decide)]
  exact Ev.now _
end
end Go.Proofs.Ytknklchmpohjfaa.Tk
namespace Go.Proofs.Ytknklchmpohjfaa.Nd
open Go.RowKit Go Go.Proofs.YtknklchmpohjfaaW.PrintWords Go.Proofs.YtknklchmpohjfaaW.PrintLast Go.Proofs.YtknklchmpohjfaaW.PrintMore Go.Proofs.Ytknklchmpohjfaa.Ml
set_option linter.unusedVariables false
def Mag (w : World) (v : Value) (l : List Int) : Prop := ∃ A c, v = .slice A l.length c ∧ l.length ≤ c ∧ Kd.C (Kd.int .u32) w A l.length l
theorem Mag.of {w : World} {e base : Nat} {ok : Nat → Prop} {v : Value} {l : List Int} (h : Kd.V (Kd.int .u32) e w base ok v l) : Mag w v l := by
 obtain ⟨A, c, rfl, hc, hf⟩ := h
 exact ⟨A, c, rfl, hc, Kd.F_now hf⟩
theorem Mag.ofR {w : World} {e base : Nat} {ok : Nat → Prop} {v : Value} {l : List Int} (h : Kd.R (Kd.int .u32) e w base ok v l) : Mag w v l := Kd.R_reads h
theorem Mag.nil (w : World) : Mag w (.slice none 0 0) [] := ⟨none, 0, rfl, Nat.le_refl _, Kd.C_nil _ _⟩
theorem Mag.slice {w : World} {v : Value} {l : List Int} (h : Mag w v l) : ∃ A c, v = .slice A l.length c ∧ l.length ≤ c ∧ Kd.C (Kd.int .u32) w A l.length l := h
theorem Mag.step {w w' : World} {v : Value} {l : List Int} (h : Mag w v l) (hs : ∀ (a : Addr) (x : Int), w.cell? a = some (.int .u32 x) → w'.cell? a = some (.int .u32 x)) : Mag w' v l := by
 obtain ⟨A, c, rfl, hc, h1, h2, h3⟩ := h
 refine ⟨A, c, rfl, hc, h1, h2, fun hp => ?_⟩
 obtain ⟨ad, ha, hcell⟩ := h3 hp
 refine ⟨ad, ha, fun j p hj => ?_⟩
 obtain ⟨cs, hl, hK, hcc⟩ := hcell j p hj
 have hK' : cs = [.int .u32 p] := hK
 subst hK'
 refine ⟨_, hl, hK, fun i u hu => ?_⟩
 match i, hu with
 | 0, hu =>
  simp at hu
  subst hu
  exact hs _ _ (hcc 0 _ rfl)
theorem lt_of_some {w : World} {k : Nat} {o : Obj} (h : w.heap[k]? = some o) : k < w.heap.size := (Array.getElem?_eq_some_iff.1 h).1
theorem Mag.below {w w' : World} {v : Value} {l : List Int} (h : Mag w v l) (hb : Below w.heap.size w w') : Mag w' v l := h.step (fun a x hc => pw_cell_below hb hc)
theorem below_drew' {w w' : World} (h : Below w.drew.heap.size w.drew w') : Below w.heap.size w w' := ⟨h.os, h.tape, h.output, h.size, h.block⟩
def sg (neg : Bool) (x : Int) : Int := if neg then -x else x
structure Slot (w : World) (g o : Nat) (neg : Bool) (v : Value) : Prop where mk ::
 at_ : ∃ cells t, w.heap[g]? = some (.cells cells t (0, 0)) ∧ (∃ A n c, v = .slice A n c) ∧ cells[o]? = some (.bool neg) ∧ cells[o + 1]? = some v
def Room (w : World) (g o : Nat) : Prop := ∃ neg v, Slot w g o neg v
structure IsN (w : World) (g o : Nat) (z : Int) (n : Nat) : Prop where mk ::
 at_ : ∃ neg v l, Slot w g o neg v ∧ Mag w v l ∧ Cn 4294967296 l ∧ l.length ≤ n ∧ z = sg neg (dv 4294967296 l) ∧ (neg = true → l ≠ [])
theorem IsN.room {w : World} {g o : Nat} {z : Int} {n : Nat} (h : IsN w g o z n) : Room w g o := by
 obtain ⟨neg, v, l, hs, _⟩ := h.at_
 exact ⟨neg, v, hs⟩
theorem IsN.mono {w : World} {g o : Nat} {z : Int} {n m : Nat} (h : IsN w g o z n) (hm : n ≤ m) : IsN w g o z m := by
 obtain ⟨neg, v, l, h1, h2, h3, h4, h5⟩ := h.at_
 exact ⟨neg, v, l, h1, h2, h3, by omega, h5⟩
theorem Slot.lt {w : World} {g o : Nat} {neg : Bool} {v : Value} (h : Slot w g o neg v) : g < w.heap.size := by
 obtain ⟨cells, t, h1, _⟩ := h.at_
 exact lt_of_some h1
theorem Room.lt {w : World} {g o : Nat} (h : Room w g o) : g < w.heap.size := by
 obtain ⟨_, _, h⟩ := h
 exact h.lt
theorem IsN.lt {w : World} {g o : Nat} {z : Int} {n : Nat} (h : IsN w g o z n) : g < w.heap.size := h.room.lt
theorem blk_cells {w : World} {g : Nat} {cells : Array Value} {t : TypeId} (h : w.heap[g]? = some (.cells cells t (0, 0))) (o : Nat) {v : Value} (hv : cells[o]? = some v) : w.cell? ⟨g, o, none⟩ = some v := by
 rw [blk_cell h o]; exact hv
theorem Slot.cell0 {w : World} {g o : Nat} {neg : Bool} {v : Value} (h : Slot w g o neg v) : w.cell? ⟨g, o, none⟩ = some (.bool neg) := by
 obtain ⟨cells, t, h1, _, h2, _⟩ := h.at_
 exact blk_cells h1 o h2
theorem Slot.cell1 {w : World} {g o : Nat} {neg : Bool} {v : Value} (h : Slot w g o neg v) : w.cell? ⟨g, o + 1, none⟩ = some v := by
 obtain ⟨cells, t, h1, _, _, h2⟩ := h.at_
 exact blk_cells h1 (o + 1) h2
theorem Slot.free {w : World} {g o : Nat} {neg : Bool} {v : Value} (h : Slot w g o neg v) (j : Nat) : w.frozen? ⟨g, j, none⟩ = false := by
 obtain ⟨cells, t, h1, _⟩ := h.at_
 exact blk_frozen h1 j
theorem Slot.below {w w' : World} {g o : Nat} {neg : Bool} {v : Value} (h : Slot w g o neg v) (hb : Below w.heap.size w w') : Slot w' g o neg v := by
 obtain ⟨cells, t, h1, h2⟩ := h.at_
 exact ⟨cells, t, (hb.block g (lt_of_some h1)).trans h1, h2⟩
theorem Room.below {w w' : World} {g o : Nat} (h : Room w g o) (hb : Below w.heap.size w w') : Room w' g o := by
 obtain ⟨neg, v, h⟩ := h
 exact ⟨neg, v, h.below hb⟩
theorem IsN.below {w w' : World} {g o : Nat} {z : Int} {n : Nat} (h : IsN w g o z n) (hb : Below w.heap.size w w') : IsN w' g o z n := by
 obtain ⟨neg, v, l, h1, h2, h3⟩ := h.at_
 exact ⟨neg, v, l, h1.below hb, h2.below hb, h3⟩
structure Wrote (w w' : World) (g o : Nat) : Prop where
 os : w'.os = w.os
 tape : w'.tape = w.tape
 output : w'.output = w.output
 size : w.heap.size ≤ w'.heap.size
 other : ∀ k, k < w.heap.size → k ≠ g → w'.heap[k]? = w.heap[k]?
 own : ∀ cells t fr, w.heap[g]? = some (.cells cells t fr) → ∃ cells', w'.heap[g]? = some (.cells cells' t fr) ∧ cells'.size = cells.size ∧ ∀ j, j ≠ o → j ≠ o + 1 → cells'[j]? = cells[j]?
theorem Wrote.of_below {w w' : World} (h : Below w.heap.size w w') (g o : Nat) : Wrote w w' g o :=
 ⟨h.os, h.tape, h.output, h.size, fun k hk _ => h.block k hk, fun cells t fr hc => ⟨cells, (h.block g (lt_of_some hc)).trans hc, rfl, fun _ _ _ => rfl⟩⟩
theorem Wrote.trans {a b c : World} {g o : Nat} (h : Wrote a b g o) (k : Wrote b c g o) : Wrote a c g o :=
 ⟨k.os.trans h.os, k.tape.trans h.tape, k.output.trans h.output, Nat.le_trans h.size k.size, fun i hi hne => (k.other i (Nat.lt_of_lt_of_le hi h.size) hne).trans (h.other i hi hne), fun cells t fr hc => by
  obtain ⟨c1, h1, h2, h3⟩ := h.own cells t fr hc
  obtain ⟨c2, k1, k2, k3⟩ := k.own c1 t fr h1
  exact ⟨c2, k1, k2.trans h2, fun j h4 h5 => (k3 j h4 h5).trans (h3 j h4 h5)⟩⟩
theorem Wrote.below {w w' : World} {g o B : Nat} (h : Wrote w w' g o) (hB : B ≤ g) (hs : B ≤ w.heap.size) : Below B w w' :=
 ⟨h.os, h.tape, h.output, h.size, fun k hk => h.other k (by omega) (by omega)⟩
theorem Wrote.mag {w w' : World} {g o : Nat} (h : Wrote w w' g o) (hr : Room w g o) {v : Value} {l : List Int} (hm : Mag w v l) : Mag w' v l := by
 obtain ⟨_, _, hs⟩ := hr
 obtain ⟨cells, t, h1, ⟨A, n, c, rfl⟩, h3, h4⟩ := hs.at_
 refine hm.step (fun a x hc => ?_)
 by_cases e : a.block = g
 ·obtain ⟨c', k1, k2, k3⟩ := h.own _ _ _ h1
  unfold World.cell? at hc ⊢
  rw [e] at hc ⊢
  rw [h1] at hc
  rw [k1]
  simp only at hc ⊢
  by_cases hsp : a.spot.isSome
  ·simp [hsp] at hc
  ·rw [if_neg hsp] at hc ⊢
   by_cases e1 : a.off = o
   ·rw [e1, h3] at hc
    simp at hc
   ·by_cases e2 : a.off = o + 1
    ·rw [e2, h4] at hc
     simp at hc
    ·rw [k3 _ e1 e2]
     exact hc
 ·have hlt := World.block_lt_of_cell? w a hc
  rw [World.cell?_of_block (w := w) (h.other a.block hlt e)]
  exact hc
theorem Wrote.slot {w w' : World} {g o : Nat} (h : Wrote w w' g o) {g2 o2 : Nat} {neg : Bool} {v : Value} (hs : Slot w g2 o2 neg v) (hne : g2 ≠ g ∨ (o2 ≠ o ∧ o2 ≠ o + 1 ∧ o2 + 1 ≠ o)) : Slot w' g2 o2 neg v := by
 obtain ⟨cells, t, h1, h2, h3, h4⟩ := hs.at_
 by_cases e : g2 = g
 ·subst e
  obtain ⟨c', k1, k2, k3⟩ := h.own _ _ _ h1
  exact ⟨c', t, k1, h2, (k3 o2 (by omega) (by omega)).trans h3, (k3 (o2 + 1) (by omega) (by omega)).trans h4⟩
 ·exact ⟨cells, t, (h.other g2 (lt_of_some h1) e).trans h1, h2, h3, h4⟩
theorem Wrote.isN {w w' : World} {g o : Nat} (h : Wrote w w' g o) (hr : Room w g o) {g2 o2 : Nat} {z : Int} {n : Nat} (hs : IsN w g2 o2 z n) (hne : g2 ≠ g ∨ (o2 ≠ o ∧ o2 ≠ o + 1 ∧ o2 + 1 ≠ o)) : IsN w' g2 o2 z n := by
 obtain ⟨neg, v, l, h1, h2, h3⟩ := hs.at_
 exact ⟨neg, v, l, h.slot h1 hne, h.mag hr h2, h3⟩
theorem Wrote.set {w : World} {g o : Nat} {neg : Bool} {v : Value} (hs : Slot w g o neg v) (neg' : Bool) (A : Option Addr) (n c : Nat) (k : Nat) {v' : Value} (hv' : v' = .slice A n c) :
  Wrote w (((w.setCell ⟨g, o, none⟩ (.bool neg')).setCell ⟨g, o + 1, none⟩ v').drewN k) g o ∧ Slot (((w.setCell ⟨g, o, none⟩ (.bool neg')).setCell ⟨g, o + 1, none⟩ v').drewN k) g o neg' v' := by
 obtain ⟨cells, t, h1, h2, h3, h4⟩ := hs.at_
 have e3 := (Array.getElem?_eq_some_iff.1 h3).1
 have e4 := (Array.getElem?_eq_some_iff.1 h4).1
 have hb : (((w.setCell ⟨g, o, none⟩ (.bool neg')).setCell ⟨g, o + 1, none⟩ v').drewN k).heap[g]? = some (.cells ((cells.setIfInBounds o (.bool neg')).setIfInBounds (o + 1) v') t (0, 0)) := by
  refine blk_drewN ?_ k
  refine blk_put ?_ (o + 1) v' rfl
  exact blk_put h1 o _ rfl
 constructor
 ·refine ⟨?_, ?_, ?_, ?_, ?_, ?_⟩
  ·exact (pw_below_drewN (B := 0) (w := w) (W := (w.setCell ⟨g, o, none⟩ (.bool neg')).setCell ⟨g, o + 1, none⟩ v') (((Below.refl 0 w).setCell (Nat.zero_le _) _).setCell (Nat.zero_le _) _) k).os
  ·exact (pw_below_drewN (B := 0) (w := w) (W := (w.setCell ⟨g, o, none⟩ (.bool neg')).setCell ⟨g, o + 1, none⟩ v') (((Below.refl 0 w).setCell (Nat.zero_le _) _).setCell (Nat.zero_le _) _) k).tape
  ·exact (pw_below_drewN (B := 0) (w := w) (W := (w.setCell ⟨g, o, none⟩ (.bool neg')).setCell ⟨g, o + 1, none⟩ v') (((Below.refl 0 w).setCell (Nat.zero_le _) _).setCell (Nat.zero_le _) _) k).output
  ·exact (pw_below_drewN (B := 0) (w := w) (W := (w.setCell ⟨g, o, none⟩ (.bool neg')).setCell ⟨g, o + 1, none⟩ v') (((Below.refl 0 w).setCell (Nat.zero_le _) _).setCell (Nat.zero_le _) _) k).size
  ·intro j hj hne
   show (((w.setCell ⟨g, o, none⟩ (.bool neg')).setCell ⟨g, o + 1, none⟩ v')).heap[j]? = _
   rw [Below.heap_setCell _ _ _ _ hne, Below.heap_setCell _ _ _ _ hne]
  ·intro c t' fr hc
   rw [h1] at hc
   injection hc with hc
   injection hc with e1 e2 e5
   subst e1; subst e2; subst e5
   refine ⟨_, hb, by simp, fun j h5 h6 => ?_⟩
   rw [Array.getElem?_setIfInBounds_ne (by omega), Array.getElem?_setIfInBounds_ne (by omega)]
 ·refine ⟨_, t, hb, ⟨A, n, c, hv'⟩, ?_, ?_⟩
  ·rw [Array.getElem?_setIfInBounds_ne (by omega), Array.getElem?_setIfInBounds_self_of_lt e3]
  ·rw [Array.getElem?_setIfInBounds_self_of_lt (by simpa using e4)]
theorem own_cell {k : IntKind} {e base : Nat} {ok : Nat → Prop} {W : World} {g n cap : Nat} {xs : List Int} (h : Kd.R (Kd.int k) e W base ok (.slice (some ⟨g, 0, none⟩) n cap) xs) (i : Nat) (hi : i < n) : W.cell? ⟨g, i, none⟩ = some (.int k (xs.getD i 0)) ∧ W.frozen? ⟨g, i, none⟩ = false := by
 have := Kd.R_celln (0 : Int) h (i : Int) (by omega) (by omega)
 simpa [rdOf] using this
theorem own_put {k : IntKind} {e base : Nat} {ok : Nat → Prop} {W : World} {g n cap : Nat} {xs : List Int} (h : Kd.R (Kd.int k) e W base ok (.slice (some ⟨g, 0, none⟩) n cap) xs) (i : Nat) (x : Int) : Kd.R (Kd.int k) e (W.setCell ⟨g, i, none⟩ (.int k x)) base ok (.slice (some ⟨g, 0, none⟩) n cap) (xs.set i x) := by
 have := (Kd.R_putg h (i : Int) x).1
 rw [Int.toNat_natCast] at this
 exact this
theorem mag_cell {k : IntKind} {W w : World} {A : Option Addr} {n : Nat} {xs : List Int} (h : Kd.C (Kd.int k) w A n xs) (hb : Below w.heap.size w W) (i : Nat) (hi : i < n) : ∃ ad, A = some ad ∧ W.cell? (ad.add i) = some (.int k (xs.getD i 0)) := by
 obtain ⟨ad, e, hc⟩ := Kd.at_int h (i : Int) (by omega) (by omega)
 refine ⟨ad, e, ?_⟩
 have := pw_cell_below hb hc
 simpa [rd] using this
def SetP (w : World) (g o : Nat) (z : Int) (n : Nat) (e : Ending) (w' : World) : Prop := e = .returned (.pointer (some ⟨g, o, none⟩)) ∧ Wrote w w' g o ∧ IsN w' g o z n
def NewP (w : World) (z : Int) (n : Nat) (e : Ending) (w' : World) : Prop := ∃ g, w.heap.size ≤ g ∧ e = .returned (.pointer (some ⟨g, 0, none⟩)) ∧ Below w.heap.size w w' ∧ IsN w' g 0 z n
def ValP (w : World) (v : Value) (e : Ending) (w' : World) : Prop := e = .returned v ∧ Below w.heap.size w w'
theorem sg_mul (a b : Bool) (x y : Int) : sg (!a == b) (x * y) = sg a x * sg b y := by cases a <;> cases b <;> simp [sg, Int.neg_mul, Int.mul_neg]
theorem IsN.open {w : World} {g o : Nat} {z : Int} {n : Nat} (h : IsN w g o z n) : ∃ neg A c l, Slot w g o neg (.slice A l.length c) ∧ l.length ≤ c ∧ Kd.C (Kd.int .u32) w A l.length l ∧ Cn 4294967296 l ∧ l.length ≤ n ∧ z = sg neg (dv 4294967296 l) ∧ (neg = true → l ≠ []) := by
 obtain ⟨neg, v, l, h1, ⟨A, c, rfl, h2, h3⟩, h4, h5, h6, h7⟩ := h.at_
 exact ⟨neg, A, c, l, h1, h2, h3, h4, h5, h6, h7⟩
theorem sg_abs {neg : Bool} {x z : Int} (hx : 0 ≤ x) (h : z = sg neg x) : ((z.natAbs : Nat) : Int) = x := by
 cases neg <;> simp [sg] at h <;> omega
def cmpI (a b : Int) : Int := if a < b then -1 else if b < a then 1 else 0
theorem ret_i {k : IntKind} {a b : Int} (h : a = b) : Ending.returned (.int k a) = Ending.returned (.int k b) := by rw [h]
theorem ret_b {a b : Bool} (h : a = b) : Ending.returned (.bool a) = Ending.returned (.bool b) := by rw [h]
structure IsW (w : World) (g o : Nat) (z : Int) (n : Nat) : Prop where mk ::
 at_ : ∃ neg A c l, Slot w g o neg (.slice A l.length c) ∧ l.length ≤ c ∧ Kd.C (Kd.int .u32) w A l.length l ∧ Cn 4294967296 l ∧ l.length ≤ n ∧ z = sg neg (dv 4294967296 l)
theorem IsN.w {w : World} {g o : Nat} {z : Int} {n : Nat} (h : IsN w g o z n) : IsW w g o z n := by
 obtain ⟨neg, A, c, l, h1, h2, h3, h4, h5, h6, _⟩ := h.open
 exact ⟨neg, A, c, l, h1, h2, h3, h4, h5, h6⟩
end Go.Proofs.Ytknklchmpohjfaa.Nd
namespace Go.Proofs.Ytknklchmpohjfaa.Tw
open Go.RowKit Go Go.Proofs.YtknklchmpohjfaaW.PrintWords Go.Proofs.YtknklchmpohjfaaW.PrintLast Go.Proofs.YtknklchmpohjfaaW.PrintMore Go.Proofs.Ytknklchmpohjfaa.Mn Go.Proofs.Ytknklchmpohjfaa.Nd Go.Proofs.Ytknklchmpohjfaa.Z Go.Proofs.Ytknklchmpohjfaa.E Go.Proofs.Ytknklchmpohjfaa.Tk
attribute [local go_sem] max2_int min2_int
set_option linter.unusedVariables false
set_option linter.unusedSimpArgs false
theorem ten_cells {w : World} {g : Nat} {t : TypeId} {a0 a1 a2 a3 a4 a5 a6 a7 a8 a9 aa : Value} (h : w.heap[g]? = some (.cells #[a0, a1, a2, a3, a4, a5, a6, a7, a8, a9, aa] t (0, 0))) :
  w.cell? ⟨g, 0, none⟩ = some a0 ∧ w.cell? ⟨g, 1, none⟩ = some a1 ∧ w.cell? ⟨g, 2, none⟩ = some a2 ∧ w.cell? ⟨g, 3, none⟩ = some a3 ∧ w.cell? ⟨g, 4, none⟩ = some a4 ∧ w.cell? ⟨g, 5, none⟩ = some a5 ∧ w.cell? ⟨g, 6, none⟩ = some a6 ∧ w.cell? ⟨g, 7, none⟩ = some a7 ∧ w.cell? ⟨g, 8, none⟩ = some a8 ∧ w.cell? ⟨g, 9, none⟩ = some a9 ∧ w.cell? ⟨g, 10, none⟩ = some aa :=
 ⟨(blk_cell h 0).trans rfl, (blk_cell h 1).trans rfl, (blk_cell h 2).trans rfl, (blk_cell h 3).trans rfl, (blk_cell h 4).trans rfl, (blk_cell h 5).trans rfl, (blk_cell h 6).trans rfl, (blk_cell h 7).trans rfl, (blk_cell h 8).trans rfl, (blk_cell h 9).trans rfl, (blk_cell h 10).trans rfl⟩
structure Bt (w W : World) (cells : Array Value) : Prop where
 c : W.heap[w.heap.size]? = some (.cells cells 40 (0, 0))
 below : Below w.heap.size w W
theorem Bt.start (w : World) (cells : Array Value) : Bt w (w.alloc (.cells cells 40 (0, 0))) cells := ⟨blk_new w _, below_alloc (Below.refl _ w) _⟩
theorem Bt.step {w W W2 : World} {cells : Array Value} (h : Bt w W cells) (hb : Below W.heap.size W W2) : Bt w W2 cells := ⟨blk_below h.c hb, h.below.trans (hb.mono h.below.size)⟩
def okB (codec lang name : ByteArray) (refs : List Rf) : Bool := decide (codec.size ≤ maxLen) && (decide (lang.size ≤ maxLen) && (decide (name.size ≤ maxLen) && (decide (refs.length ≤ maxLen) && refs.all (fun r => decide (r.f0.size ≤ maxLen)))))
theorem letters_n (s : ByteArray) (hs : Bs s) (w : World) : Calls Try.prog 50 #[.string s, .int .i64 4, .bool true] w (ValP w (.bool (letB s))) := by
 obtain ⟨k, hk⟩ := (letters_f s hs).rounds
 refine (model_letters.calls k s 4 true _ w hk).mono ?_
 rintro e w' ⟨rfl, hb⟩
 exact ⟨rfl, Drawn0.below hb⟩
theorem lang_n (s : ByteArray) (hs : Bs s) (w : World) : Calls Try.prog 50 #[.string s, .int .i64 3, .bool false] w (ValP w (.bool (lanB s))) := by
 obtain ⟨k, hk⟩ := (lang_f s hs).rounds
 refine (model_letters.calls k s 3 false _ w hk).mono ?_
 rintro e w' ⟨rfl, hb⟩
 exact ⟨rfl, Drawn0.below hb⟩
theorem name_n (s : ByteArray) (hs : Bs s) (w : World) : Calls Try.prog 31 #[.string s] w (ValP w (.bool (namB s))) := by
 obtain ⟨k, hk⟩ := (name_f s hs).rounds
 refine (model_isName.calls k s _ w hk).mono ?_
 rintro e w' ⟨rfl, hb⟩
 exact ⟨rfl, Drawn0.below hb⟩
theorem within_n (a lo hi : Int) (w : World) : Calls Try.prog 30 #[.int .i64 a, .int .i64 lo, .int .i64 hi] w (ValP w (.bool (inB a lo hi))) := by
 refine (model_within.calls a lo hi _ w (within_f a lo hi)).mono ?_
 rintro e w' ⟨rfl, hb⟩
 exact ⟨rfl, Drawn0.below hb⟩
section
variable (id kind : Int) (codec : ByteArray) (scale : Int) (A4 : Option Addr) (c4 : Nat) (setup : List Int) (lang name : ByteArray) (pr : Int) (A8 : Option Addr) (c8 : Nat) (edits : List Ed') (A9 : Option Addr) (c9 : Nat) (refs : List Rf) (A10 : Option Addr) (c10 : Nat) (samples : List Sm)
structure Hd (W : World) : Prop where
 s : Kd.C (Kd.int .u8) W A4 setup.length setup
 e : Kd.C k86 W A8 edits.length edits
 r : Kd.C k68 W A9 refs.length refs
 p : Kd.C k51 W A10 samples.length samples
theorem Hd.below {w W : World} (h : Hd A4 setup A8 edits A9 refs A10 samples w) (hb : Below w.heap.size w W) : Hd A4 setup A8 edits A9 refs A10 samples W := ⟨Kd.C_below h.s hb, Kd.C_below h.e hb, Kd.C_below h.r hb, Kd.C_below h.p hb⟩
theorem sample_n (hc4 : setup.length ≤ c4) (hc8 : edits.length ≤ c8) (hc9 : refs.length ≤ c9) (hc10 : samples.length ≤ c10) (i : Int) (before : Int) (X : Sm) (B4 : Option Addr) (d4 : Nat) (B5 : Option Addr) (d5 : Nat) (h0 : 0 ≤ i) (h1 : i < (samples.length : Int)) (hn : samples.length ≤ 1000000) (hb : 0 < i → (rd_T51 samples (i - 1)).f0 = before) (W : World) (h : Hd A4 setup A8 edits A9 refs A10 samples W) (k4 : X.f4.length ≤ d4) (g4 : Kd.C (Kd.int .i64) W B4 X.f4.length X.f4) (k5 : X.f5.length ≤ d5) (g5 : Kd.C (Kd.int .u8) W B5 X.f5.length X.f5) :
  Calls Try.prog 51 #[.agg #[.int .i64 id, .int .i64 kind, .string codec, .int .i64 scale, .slice A4 setup.length c4, .string lang, .string name, .int .i64 pr, .slice A8 edits.length c8, .slice A9 refs.length c9, .slice A10 samples.length c10], .int .i64 i, .agg #[.int .i64 X.f0, .int .i64 X.f1, .int .i64 X.f2, .bool X.f3, .slice B4 X.f4.length d4, .slice B5 X.f5.length d5]] W (ValP W (.int .i64 (smV i before X))) := by
 obtain ⟨j, rfl⟩ : ∃ j : Nat, i = j := ⟨i.toNat, by omega⟩
 obtain ⟨k, hk⟩ := (checkSample_f id kind codec scale setup lang name pr edits refs samples j before X (by omega) hn (fun hj => hb (by omega))).rounds
 exact model_checkSample.calls k id kind codec scale A4 c4 setup lang name pr A8 c8 edits A9 c9 refs A10 c10 samples j X.f0 X.f1 X.f2 X.f3 B4 d4 X.f4 B5 d5 X.f5 _ W h.s hc4 h.e hc8 h.r hc9 h.p hc10 g4 k4 g5 k5 hk
theorem smsV_drop {i before : Int} (h0 : 0 ≤ i) (h1 : i < (samples.length : Int)) : smsV i.toNat before (samples.drop i.toNat) = if smV i before (rd_T51 samples i) = 0 then smsV (i + 1).toNat (rd_T51 samples i).f0 (samples.drop (i + 1).toNat) else smV i before (rd_T51 samples i) := by
 have hn : i.toNat < samples.length := by omega
 have hi : (i + 1).toNat = i.toNat + 1 := by omega
 have hg : rd_T51 samples i = samples[i.toNat] := by
  unfold rd_T51
  rw [List.getD_eq_getElem?_getD, List.getElem?_eq_getElem hn]
  rfl
 have he : ((i.toNat : Nat) : Int) = i := by omega
 rw [hi, hg, List.drop_eq_getElem_cons hn, smsV, he]
theorem refs_drop {i : Int} (h0 : 0 ≤ i) (h1 : i < (refs.length : Int)) : rfsB (refs.drop i.toNat) = (letB (rd_T68 refs i).f0 && rfsB (refs.drop (i + 1).toNat)) ∧ rd_T68 refs i ∈ refs := by
 have hn : i.toNat < refs.length := by omega
 have hi : (i + 1).toNat = i.toNat + 1 := by omega
 have hg : rd_T68 refs i = refs[i.toNat] := by
  unfold rd_T68
  rw [List.getD_eq_getElem?_getD, List.getElem?_eq_getElem hn]
  rfl
 rw [hi, hg, List.drop_eq_getElem_cons hn]
 exact ⟨rfl, List.getElem_mem hn⟩
def edsR (s : Int) (l : List Ed') : Bool := l.all edB && decide (s + sumE l ≤ 1099511627776)
theorem eds_drop {i s : Int} (h0 : 0 ≤ i) (h1 : i < (edits.length : Int)) : edsR s (edits.drop i.toNat) = (edB (rd_T86 edits i) && edsR (s + (rd_T86 edits i).f0) (edits.drop (i + 1).toNat)) := by
 have hn : i.toNat < edits.length := by omega
 have hi : (i + 1).toNat = i.toNat + 1 := by omega
 have hg : rd_T86 edits i = edits[i.toNat] := by
  unfold rd_T86
  rw [List.getD_eq_getElem?_getD, List.getElem?_eq_getElem hn]
  rfl
 rw [hi, hg, List.drop_eq_getElem_cons hn]
 unfold edsR
 rw [List.all_cons, sumE, Bool.and_assoc, Int.add_assoc]
def empB (X : Ed') : Bool := decide (X.f1 = -1) && (decide (X.f2 ≠ 1) || decide (X.f3 ≠ 1))
theorem edB_is (X : Ed') : edB X = (inB X.f0 1 1099511627776 && (inB X.f1 (-1) 1099511627776 && (inB X.f2 0 1000 && (inB X.f3 1 1000 && !(empB X))))) := by
 unfold edB empB
 cases (decide (X.f1 = -1) && (decide (X.f2 ≠ 1) || decide (X.f3 ≠ 1))) <;> rfl
set_option maxHeartbeats 16000000 in
set_option maxRecDepth 100000 in
theorem check_track_n (hok : okB codec lang name refs = true) (hc4 : setup.length ≤ c4) (hc8 : edits.length ≤ c8) (hc9 : refs.length ≤ c9) (hc10 : samples.length ≤ c10) (w : World) (hh : Hd A4 setup A8 edits A9 refs A10 samples w) :
  Calls Try.prog 26 #[.agg #[.int .i64 id, .int .i64 kind, .string codec, .int .i64 scale, .slice A4 setup.length c4, .string lang, .string name, .int .i64 pr, .slice A8 edits.length c8, .slice A9 refs.length c9, .slice A10 samples.length c10]] w (ValP w (.int .i64 (chkT id kind codec scale setup lang name pr edits refs samples))) := by
 have hu := Try.underlying40
 have hu2 := Try.underlying86
 have hu3 := Try.underlying51
 have hu4 := Try.underlying68
 unfold okB at hok
 simp only [Bool.and_eq_true, decide_eq_true_eq, List.all_eq_true] at hok
 have HS := Aside0.mk hok
 have HH := Aside0.mk hh
 have HN := Aside0.mk (And.intro hc4 (And.intro hc8 (And.intro hc9 hc10)))
 have HV := Aside0.mk (show chkT id kind codec scale setup lang name pr edits refs samples = if (fldB id kind codec scale lang name pr && rfsB refs) = true then (if limB setup edits refs samples = true then 2 else if edsB edits = true then smsV 0 0 samples else 33) else 1 from rfl)
 generalize chkT id kind codec scale setup lang name pr edits refs samples = V at *
 clear hok hc4 hc8 hc9 hc10 hh
 go_enter Try.func26, Try.ntmps26
 go_upto_region 1 with (first | ((with_reducible refine gate_dst (N := 1) rfl ?_); refine zB 1 40 #[.int .i64 id, .int .i64 kind, .string codec, .int .i64 scale, .slice A4 setup.length c4, .string lang, .string name, .int .i64 pr, .slice A8 edits.length c8, .slice A9 refs.length c9, .slice A10 samples.length c10] ?_; intro gb hg W0 hbox hb; subst hg; have HB := Aside0.mk (show Bt w W0 #[.int .i64 id, .int .i64 kind, .string codec, .int .i64 scale, .slice A4 setup.length c4, .string lang, .string name, .int .i64 pr, .slice A8 edits.length c8, .slice A9 refs.length c9, .slice A10 samples.length c10] from ⟨hbox, hb⟩); clear hbox hb))
 obtain ⟨q0, q1, q2, q3, q4, q5, q6, q7, q8, q9, qa⟩ := ten_cells HB.out.c
 go_wp2_with fail
 refine (within_n id 1 1000 W0).mono ?_
 rintro e W1 ⟨rfl, hb1⟩
 have HB1 := Aside0.mk (HB.out.step hb1)
 clear hb1 HB q0 q1 q2 q3 q4 q5 q6 q7 q8 q9 qa
 obtain ⟨b1, hb1⟩ : ∃ b : Bool, b = inB id 1 1000 := ⟨_, rfl⟩
 rw [← hb1]
 cases b1 with
 | false =>
  have HV2 := Aside0.mk (show V = 1 by rw [HV.out]; unfold fldB; rw [← hb1]; simp)
  clear HV hb1
  go_wp2_with fail
  go_ret
  exact ⟨ret_i HV2.out.symm, HB1.out.below⟩
 | true =>
 have HT1 := Aside0.mk hb1
 clear hb1
 obtain ⟨q0, q1, q2, q3, q4, q5, q6, q7, q8, q9, qa⟩ := ten_cells HB1.out.c
 go_wp2_with fail
 refine (within_n kind 1 7 W1).mono ?_
 rintro e W2 ⟨rfl, hb2⟩
 have HB2 := Aside0.mk (HB1.out.step hb2)
 clear hb2 HB1 q0 q1 q2 q3 q4 q5 q6 q7 q8 q9 qa
 obtain ⟨b2, hb2⟩ : ∃ b : Bool, b = inB kind 1 7 := ⟨_, rfl⟩
 rw [← hb2]
 cases b2 with
 | false =>
  have HV2 := Aside0.mk (show V = 1 by rw [HV.out]; unfold fldB; rw [← hb2]; simp)
  clear HV hb2
  go_wp2_with fail
  go_ret
  exact ⟨ret_i HV2.out.symm, HB2.out.below⟩
 | true =>
 have HT2 := Aside0.mk hb2
 clear hb2
 obtain ⟨q0, q1, q2, q3, q4, q5, q6, q7, q8, q9, qa⟩ := ten_cells HB2.out.c
 go_wp2_with fail
 refine (letters_n codec HS.out.1 W2).mono ?_
 rintro e W3 ⟨rfl, hb3⟩
 have HB3 := Aside0.mk (HB2.out.step hb3)
 clear hb3 HB2 q0 q1 q2 q3 q4 q5 q6 q7 q8 q9 qa
 obtain ⟨b3, hb3⟩ : ∃ b : Bool, b = letB codec := ⟨_, rfl⟩
 rw [← hb3]
 cases b3 with
 | false =>
  have HV2 := Aside0.mk (show V = 1 by rw [HV.out]; unfold fldB; rw [← hb3]; simp)
  clear HV hb3
  go_wp2_with fail
  go_ret
  exact ⟨ret_i HV2.out.symm, HB3.out.below⟩
 | true =>
 have HT3 := Aside0.mk hb3
 clear hb3
 obtain ⟨q0, q1, q2, q3, q4, q5, q6, q7, q8, q9, qa⟩ := ten_cells HB3.out.c
 go_wp2_with fail
 refine (within_n scale 1 1000000 W3).mono ?_
 rintro e W4 ⟨rfl, hb4⟩
 have HB4 := Aside0.mk (HB3.out.step hb4)
 clear hb4 HB3 q0 q1 q2 q3 q4 q5 q6 q7 q8 q9 qa
 obtain ⟨b4, hb4⟩ : ∃ b : Bool, b = inB scale 1 1000000 := ⟨_, rfl⟩
 rw [← hb4]
 cases b4 with
 | false =>
  have HV2 := Aside0.mk (show V = 1 by rw [HV.out]; unfold fldB; rw [← hb4]; simp)
  clear HV hb4
  go_wp2_with fail
  go_ret
  exact ⟨ret_i HV2.out.symm, HB4.out.below⟩
 | true =>
 have HT4 := Aside0.mk hb4
 clear hb4
 obtain ⟨q0, q1, q2, q3, q4, q5, q6, q7, q8, q9, qa⟩ := ten_cells HB4.out.c
 go_wp2_with fail
 refine (lang_n lang HS.out.2.1 W4).mono ?_
 rintro e W5 ⟨rfl, hb5⟩
 have HB5 := Aside0.mk (HB4.out.step hb5)
 clear hb5 HB4 q0 q1 q2 q3 q4 q5 q6 q7 q8 q9 qa
 obtain ⟨b5, hb5⟩ : ∃ b : Bool, b = lanB lang := ⟨_, rfl⟩
 rw [← hb5]
 cases b5 with
 | false =>
  have HV2 := Aside0.mk (show V = 1 by rw [HV.out]; unfold fldB; rw [← hb5]; simp)
  clear HV hb5
  go_wp2_with fail
  go_ret
  exact ⟨ret_i HV2.out.symm, HB5.out.below⟩
 | true =>
 have HT5 := Aside0.mk hb5
 clear hb5
 obtain ⟨q0, q1, q2, q3, q4, q5, q6, q7, q8, q9, qa⟩ := ten_cells HB5.out.c
 go_wp2_with fail
 refine (name_n name HS.out.2.2.1 W5).mono ?_
 rintro e W6 ⟨rfl, hb6⟩
 have HB6 := Aside0.mk (HB5.out.step hb6)
 clear hb6 HB5 q0 q1 q2 q3 q4 q5 q6 q7 q8 q9 qa
 obtain ⟨b6, hb6⟩ : ∃ b : Bool, b = namB name := ⟨_, rfl⟩
 rw [← hb6]
 cases b6 with
 | false =>
  have HV2 := Aside0.mk (show V = 1 by rw [HV.out]; unfold fldB; rw [← hb6]; simp)
  clear HV hb6
  go_wp2_with fail
  go_ret
  exact ⟨ret_i HV2.out.symm, HB6.out.below⟩
 | true =>
 have HT6 := Aside0.mk hb6
 clear hb6
 obtain ⟨q0, q1, q2, q3, q4, q5, q6, q7, q8, q9, qa⟩ := ten_cells HB6.out.c
 go_wp2_with fail
 refine (within_n pr 0 1099511627776 W6).mono ?_
 rintro e W7 ⟨rfl, hb7⟩
 have HB7 := Aside0.mk (HB6.out.step hb7)
 clear hb7 HB6 q0 q1 q2 q3 q4 q5 q6 q7 q8 q9 qa
 obtain ⟨b7, hb7⟩ : ∃ b : Bool, b = inB pr 0 1099511627776 := ⟨_, rfl⟩
 rw [← hb7]
 cases b7 with
 | false =>
  have HV2 := Aside0.mk (show V = 1 by rw [HV.out]; unfold fldB; rw [← hb7]; simp)
  clear HV hb7
  go_wp2_with fail
  go_ret
  exact ⟨ret_i HV2.out.symm, HB7.out.below⟩
 | true =>
 have HT7 := Aside0.mk hb7
 clear hb7
 have HV2 := Aside0.mk (show V = if rfsB (refs.drop (0 : Int).toNat) = true then (if limB setup edits refs samples = true then 2 else if edsB edits = true then smsV 0 0 samples else 33) else 1 by
  rw [HV.out]
  unfold fldB
  rw [← HT1.out, ← HT2.out, ← HT3.out, ← HT4.out, ← HT5.out, ← HT6.out, ← HT7.out]
  simp)
 clear HV HT1 HT2 HT3 HT4 HT5 HT6 HT7
 obtain ⟨q0, q1, q2, q3, q4, q5, q6, q7, q8, q9, qa⟩ := ten_cells HB7.out.c
 go_wp2_with fail
 clear q0 q1 q2 q3 q4 q5 q6 q7 q8 q9 qa
 go_loopg [55] refs.length (fun kq v55 w' => ∃ i : Int, v55 = .int .i64 i ∧ Aside0 (0 ≤ i ∧ i + kq = refs.length ∧ V = if rfsB (refs.drop i.toNat) = true then (if limB setup edits refs samples = true then 2 else if edsB edits = true then smsV 0 0 samples else 33) else 1) ∧ Aside0 (Bt w w' #[.int .i64 id, .int .i64 kind, .string codec, .int .i64 scale, .slice A4 setup.length c4, .string lang, .string name, .int .i64 pr, .slice A8 edits.length c8, .slice A9 refs.length c9, .slice A10 samples.length c10]))
 case atStart => exact ⟨0, rfl, ⟨by simp, by simp, HV2.out⟩, ⟨HB7.out⟩⟩
 case round =>
  clear HB7 HV2
  obtain ⟨i, rfl, hi, hB⟩ := hrel
  by_cases hlt : i < (refs.length : Int)
  ·have hlb : decide (i < (refs.length : Int)) = true := decide_eq_true hlt
   have p0 := hi.out.1
   obtain ⟨ad, hA, r0, r1⟩ := at_T68 (Kd.C_below HH.out.r hB.out.below) i p0 hlt
   have HD := Aside0.mk (refs_drop refs p0 hlt)
   obtain ⟨k1, rfl⟩ : ∃ k, gk = k + 1 := ⟨gk - 1, by have := hi.out; omega⟩
   have hwi : wrap64 (i + 1) = i + 1 := by
    have := HS.out.2.2.2.1
    unfold maxLen at this
    exact w64 (by omega) (by omega)
   have HW := Aside0.mk (And.intro hwi (show 0 ≤ i + 1 ∧ i + 1 + (k1 : Int) = refs.length by have := hi.out.2.1; omega))
   have HV3 := Aside0.mk hi.out.2.2
   subst hA
   generalize rd_T68 refs i = X at *
   have HX := Aside0.mk (HS.out.2.2.2.2 X HD.out.2)
   replace p0 := eq_true p0
   replace hlt := eq_true hlt
   have HB4 := Aside0.mk (hB.out.step (below_alloc (Below.refl wr.heap.size wr) (.cells #[.string X.f0, .int .i64 X.f1] 68 (0, 0))))
   clear hwi hi hB
   go_wp2_with fail
   generalize World.alloc wr _ = W2 at *
   have HB5 := HB4
   clear HB4 r0 r1
   refine (letters_n X.f0 HX.out W2).mono ?_
   rintro e W3 ⟨rfl, hb3⟩
   have HB6 := Aside0.mk (HB5.out.step hb3)
   clear hb3 HB5
   obtain ⟨b, hb⟩ : ∃ b : Bool, b = letB X.f0 := ⟨_, rfl⟩
   rw [← hb]
   cases b with
   | false =>
    have HV4 := Aside0.mk (show V = 1 by rw [HV3.out, HD.out.1, ← hb]; simp)
    clear HV3 hb
    go_wp2_with fail
    go_ret
    exact ⟨ret_i HV4.out.symm, HB6.out.below⟩
   | true =>
    have HV4 := Aside0.mk (show V = if rfsB (refs.drop (i + 1).toNat) = true then (if limB setup edits refs samples = true then 2 else if edsB edits = true then smsV 0 0 samples else 33) else 1 by rw [HV3.out, HD.out.1, ← hb]; simp)
    clear HV3 hb
    go_wp2_with fail
    go_roundg k1
    case measure => omega
    case rel => exact ⟨i + 1, by rw [HW.out.1], ⟨HW.out.2.1, HW.out.2.2, HV4.out⟩, ⟨HB6.out⟩⟩
  ·have hlb : decide (i < (refs.length : Int)) = false := decide_eq_false hlt
   have HV3 := Aside0.mk (show V = if limB setup edits refs samples = true then 2 else if edsB edits = true then smsV 0 0 samples else 33 by
    rw [hi.out.2.2, List.drop_of_length_le (by have := hi.out; omega)]
    simp [rfsB])
   replace hlt := eq_false hlt
   clear hi
   obtain ⟨q0, q1, q2, q3, q4, q5, q6, q7, q8, q9, qa⟩ := ten_cells hB.out.c
   obtain ⟨bl, hbl⟩ : ∃ b : Bool, b = limB setup edits refs samples := ⟨_, rfl⟩
   cases bl with
   | true =>
    have HV4 := Aside0.mk (show V = 2 by rw [HV3.out, ← hbl]; simp)
    have hb2 := hbl
    unfold limB at hb2
    clear HV3 hbl
    by_cases l1 : 1000 < setup.length
    ·have m1 : decide ((setup.length : Int) > 1000) = true := decide_eq_true (by omega)
     clear hb2 l1
     go_wp2_with fail
     go_ret
     exact ⟨ret_i HV4.out.symm, hB.out.below⟩
    have m1 : decide ((setup.length : Int) > 1000) = false := decide_eq_false (by omega)
    by_cases l2 : 20 < edits.length
    ·have m2 : decide ((edits.length : Int) > 20) = true := decide_eq_true (by omega)
     clear hb2 l1 l2
     go_wp2_with fail
     go_ret
     exact ⟨ret_i HV4.out.symm, hB.out.below⟩
    have m2 : decide ((edits.length : Int) > 20) = false := decide_eq_false (by omega)
    by_cases l3 : 8 < refs.length
    ·have m3 : decide ((refs.length : Int) > 8) = true := decide_eq_true (by omega)
     clear hb2 l1 l2 l3
     go_wp2_with fail
     go_ret
     exact ⟨ret_i HV4.out.symm, hB.out.below⟩
    have m3 : decide ((refs.length : Int) > 8) = false := decide_eq_false (by omega)
    have m4 : decide ((samples.length : Int) > 400) = true := decide_eq_true (by simp only [l1, l2, l3, decide_false, Bool.false_or] at hb2; have := of_decide_eq_true hb2.symm; omega)
    clear hb2 l1 l2 l3
    go_wp2_with fail
    go_ret
    exact ⟨ret_i HV4.out.symm, hB.out.below⟩
   | false =>
   have HL := Aside0.mk (show setup.length ≤ 1000 ∧ edits.length ≤ 20 ∧ refs.length ≤ 8 ∧ samples.length ≤ 400 by
    unfold limB at hbl
    have h := hbl.symm
    simp only [Bool.or_eq_false_iff, decide_eq_false_iff_not] at h
    omega)
   have HV4 := Aside0.mk (show V = if edsR 0 (edits.drop (0 : Int).toNat) = true then smsV 0 0 samples else 33 by
    rw [HV3.out, ← hbl, if_neg (by decide)]
    unfold edsB edsR
    simp)
   clear HV3 hbl
   have m1 : decide ((setup.length : Int) > 1000) = false := decide_eq_false (by have := HL.out; omega)
   have m2 : decide ((edits.length : Int) > 20) = false := decide_eq_false (by have := HL.out; omega)
   have m3 : decide ((refs.length : Int) > 8) = false := decide_eq_false (by have := HL.out; omega)
   have m4 : decide ((samples.length : Int) > 400) = false := decide_eq_false (by have := HL.out; omega)
   go_wp2_with fail
   clear q0 q1 q2 q3 q4 q5 q6 q7 q8 q9 qa m1 m2 m3 m4
   have HB7 := hB
   clear hB
   go_loopg [5, 89] edits.length (fun kq v5 v89 w' => ∃ s i : Int, v5 = .int .i64 s ∧ v89 = .int .i64 i ∧ Aside0 (0 ≤ i ∧ i + kq = edits.length ∧ V = if edsR s (edits.drop i.toNat) = true then smsV 0 0 samples else 33) ∧ Aside0 (0 ≤ s ∧ s ≤ 1099511627776 * i) ∧ Aside0 (Bt w w' #[.int .i64 id, .int .i64 kind, .string codec, .int .i64 scale, .slice A4 setup.length c4, .string lang, .string name, .int .i64 pr, .slice A8 edits.length c8, .slice A9 refs.length c9, .slice A10 samples.length c10]))
   case atStart => exact ⟨0, 0, rfl, rfl, ⟨by simp, by simp, HV4.out⟩, ⟨by simp⟩, ⟨HB7.out⟩⟩
   case round =>
    clear HB7 HV4
    obtain ⟨s, i, rfl, rfl, hi, hs, hB⟩ := hrel
    by_cases hlt : i < (edits.length : Int)
    ·have hlb : decide (i < (edits.length : Int)) = true := decide_eq_true hlt
     have p0 := hi.out.1
     obtain ⟨ad, hA, r0, r1, r2, r3⟩ := at_T86 (Kd.C_below HH.out.e hB.out.below) i p0 hlt
     have HD := Aside0.mk (eds_drop edits (s := s) p0 hlt)
     obtain ⟨k1, rfl⟩ : ∃ k, gk = k + 1 := ⟨gk - 1, by have := hi.out; omega⟩
     have hwi : wrap64 (i + 1) = i + 1 := by
      have := HL.out
      exact w64 (by omega) (by omega)
     have HW := Aside0.mk (And.intro hwi (show 0 ≤ i + 1 ∧ i + 1 + (k1 : Int) = edits.length by have := hi.out.2.1; omega))
     have HV3 := Aside0.mk hi.out.2.2
     have HI := Aside0.mk (show 0 ≤ s ∧ s ≤ 1099511627776 * i ∧ 0 ≤ i ∧ i ≤ 20 by have := hs.out; have := HL.out; omega)
     subst hA
     generalize rd_T86 edits i = X at *
     replace p0 := eq_true p0
     replace hlt := eq_true hlt
     have HB4 := Aside0.mk (hB.out.step (below_alloc (Below.refl wr.heap.size wr) (.cells #[.int .i64 X.f0, .int .i64 X.f1, .int .i64 X.f2, .int .i64 X.f3] 86 (0, 0))))
     have HE4 := Aside0.mk (blk_new wr (.cells #[.int .i64 X.f0, .int .i64 X.f1, .int .i64 X.f2, .int .i64 X.f3] 86 (0, 0)))
     clear hwi hi hB hs
     go_upto_region 16 with fail
     generalize World.alloc wr _ = W2 at *
     have HB5 := HB4
     have HE5 := HE4
     clear HB4 HE4 r0 r1 r2 r3
     generalize wr.heap.size = gE at *
     have e0 : W2.cell? ⟨gE, 0, none⟩ = some (.int .i64 X.f0) := (blk_cell HE5.out 0).trans rfl
     have e1 : W2.cell? ⟨gE, 1, none⟩ = some (.int .i64 X.f1) := (blk_cell HE5.out 1).trans rfl
     have e2 : W2.cell? ⟨gE, 2, none⟩ = some (.int .i64 X.f2) := (blk_cell HE5.out 2).trans rfl
     have e3 : W2.cell? ⟨gE, 3, none⟩ = some (.int .i64 X.f3) := (blk_cell HE5.out 3).trans rfl
     go_cut [8] (fun v8 wc => v8 = .bool (empB X) ∧ W2 = wc)
     case first =>
      by_cases f1 : X.f1 = -1
      ·have b1 : (X.f1 == -1) = true := by rw [f1]; rfl
       by_cases f2 : X.f2 = 1
       ·have b2 : (X.f2 != 1) = false := by rw [f2]; rfl
        have HE := Aside0.mk (show empB X = (X.f3 != 1) by unfold empB; rw [f1, f2]; simp [bne]; rfl)
        clear f1 f2
        go_wp2_with fail
        go_meet
        case rel => exact ⟨by rw [HE.out], rfl⟩
       ·have b2 : (X.f2 != 1) = true := by simpa using f2
        have HE := Aside0.mk (show empB X = true by unfold empB; rw [f1]; simp [f2])
        clear f1 f2
        go_wp2_with fail
        go_meet
        case rel => exact ⟨by rw [HE.out], rfl⟩
      ·have b1 : (X.f1 == -1) = false := by simpa using f1
       have HE := Aside0.mk (show empB X = false by unfold empB; simp [f1])
       clear f1
       go_wp2_with fail
       go_meet
       case rel => exact ⟨by rw [HE.out], rfl⟩
     case rest =>
     obtain ⟨rfl, rfl⟩ := hcut
     go_wp2_with fail
     refine (within_n X.f0 1 1099511627776 W2).mono ?_
     rintro e W4 ⟨rfl, hb4⟩
     have HB7 := Aside0.mk (HB5.out.step hb4)
     have HE7 := Aside0.mk (blk_below HE5.out hb4)
     clear hb4 HB5 HE5 e0 e1 e2 e3
     have e0 : W4.cell? ⟨gE, 0, none⟩ = some (.int .i64 X.f0) := (blk_cell HE7.out 0).trans rfl
     have e1 : W4.cell? ⟨gE, 1, none⟩ = some (.int .i64 X.f1) := (blk_cell HE7.out 1).trans rfl
     have e2 : W4.cell? ⟨gE, 2, none⟩ = some (.int .i64 X.f2) := (blk_cell HE7.out 2).trans rfl
     have e3 : W4.cell? ⟨gE, 3, none⟩ = some (.int .i64 X.f3) := (blk_cell HE7.out 3).trans rfl
     obtain ⟨b3, hc3⟩ : ∃ b : Bool, b = inB X.f0 1 1099511627776 := ⟨_, rfl⟩
     rw [← hc3]
     cases b3 with
     | false =>
      have HV4 := Aside0.mk (show V = 33 by rw [HV3.out, HD.out, show edB X = false by unfold edB; rw [← hc3]; simp]; rfl)
      clear HV3 hc3
      go_wp2_with fail
      go_ret
      exact ⟨ret_i HV4.out.symm, HB7.out.below⟩
     | true =>
     have HT3 := Aside0.mk hc3
     clear hc3
     go_wp2_with fail
     refine (within_n X.f1 (-1) 1099511627776 W4).mono ?_
     rintro e W5 ⟨rfl, hb5⟩
     have HB8 := Aside0.mk (HB7.out.step hb5)
     have HE8 := Aside0.mk (blk_below HE7.out hb5)
     clear hb5 HB7 HE7 e0 e1 e2 e3
     have e0 : W5.cell? ⟨gE, 0, none⟩ = some (.int .i64 X.f0) := (blk_cell HE8.out 0).trans rfl
     have e1 : W5.cell? ⟨gE, 1, none⟩ = some (.int .i64 X.f1) := (blk_cell HE8.out 1).trans rfl
     have e2 : W5.cell? ⟨gE, 2, none⟩ = some (.int .i64 X.f2) := (blk_cell HE8.out 2).trans rfl
     have e3 : W5.cell? ⟨gE, 3, none⟩ = some (.int .i64 X.f3) := (blk_cell HE8.out 3).trans rfl
     obtain ⟨b4, hc4⟩ : ∃ b : Bool, b = inB X.f1 (-1) 1099511627776 := ⟨_, rfl⟩
     rw [← hc4]
     cases b4 with
     | false =>
      have HV4 := Aside0.mk (show V = 33 by rw [HV3.out, HD.out, show edB X = false by unfold edB; rw [← hc4]; simp]; rfl)
      clear HV3 hc4
      go_wp2_with fail
      go_ret
      exact ⟨ret_i HV4.out.symm, HB8.out.below⟩
     | true =>
     have HT4 := Aside0.mk hc4
     clear hc4
     go_wp2_with fail
     refine (within_n X.f2 0 1000 W5).mono ?_
     rintro e W6 ⟨rfl, hb6⟩
     have HB9 := Aside0.mk (HB8.out.step hb6)
     have HE9 := Aside0.mk (blk_below HE8.out hb6)
     clear hb6 HB8 HE8 e0 e1 e2 e3
     have e0 : W6.cell? ⟨gE, 0, none⟩ = some (.int .i64 X.f0) := (blk_cell HE9.out 0).trans rfl
     have e1 : W6.cell? ⟨gE, 1, none⟩ = some (.int .i64 X.f1) := (blk_cell HE9.out 1).trans rfl
     have e2 : W6.cell? ⟨gE, 2, none⟩ = some (.int .i64 X.f2) := (blk_cell HE9.out 2).trans rfl
     have e3 : W6.cell? ⟨gE, 3, none⟩ = some (.int .i64 X.f3) := (blk_cell HE9.out 3).trans rfl
     obtain ⟨b5, hc5⟩ : ∃ b : Bool, b = inB X.f2 0 1000 := ⟨_, rfl⟩
     rw [← hc5]
     cases b5 with
     | false =>
      have HV4 := Aside0.mk (show V = 33 by rw [HV3.out, HD.out, show edB X = false by unfold edB; rw [← hc5]; simp]; rfl)
      clear HV3 hc5
      go_wp2_with fail
      go_ret
      exact ⟨ret_i HV4.out.symm, HB9.out.below⟩
     | true =>
     have HT5 := Aside0.mk hc5
     clear hc5
     go_wp2_with fail
     refine (within_n X.f3 1 1000 W6).mono ?_
     rintro e W7 ⟨rfl, hb7⟩
     have HB10 := Aside0.mk (HB9.out.step hb7)
     have HE10 := Aside0.mk (blk_below HE9.out hb7)
     clear hb7 HB9 HE9 e0 e1 e2 e3
     have e0 : W7.cell? ⟨gE, 0, none⟩ = some (.int .i64 X.f0) := (blk_cell HE10.out 0).trans rfl
     have e1 : W7.cell? ⟨gE, 1, none⟩ = some (.int .i64 X.f1) := (blk_cell HE10.out 1).trans rfl
     have e2 : W7.cell? ⟨gE, 2, none⟩ = some (.int .i64 X.f2) := (blk_cell HE10.out 2).trans rfl
     have e3 : W7.cell? ⟨gE, 3, none⟩ = some (.int .i64 X.f3) := (blk_cell HE10.out 3).trans rfl
     obtain ⟨b6, hc6⟩ : ∃ b : Bool, b = inB X.f3 1 1000 := ⟨_, rfl⟩
     rw [← hc6]
     cases b6 with
     | false =>
      have HV4 := Aside0.mk (show V = 33 by rw [HV3.out, HD.out, show edB X = false by unfold edB; rw [← hc6]; simp]; rfl)
      clear HV3 hc6
      go_wp2_with fail
      go_ret
      exact ⟨ret_i HV4.out.symm, HB10.out.below⟩
     | true =>
     have HT6 := Aside0.mk hc6
     clear hc6
     have HX := Aside0.mk (show 1 ≤ X.f0 ∧ X.f0 ≤ 1099511627776 by
      have h := HT3.out.symm
      unfold inB at h
      simpa using h)
     obtain ⟨b7, hc7⟩ : ∃ b : Bool, b = empB X := ⟨_, rfl⟩
     rw [← hc7]
     cases b7 with
     | true =>
      have HV4 := Aside0.mk (show V = 33 by rw [HV3.out, HD.out, show edB X = false by rw [edB_is, ← hc7]; simp]; rfl)
      clear HV3 hc7
      go_wp2_with fail
      go_ret
      exact ⟨ret_i HV4.out.symm, HB10.out.below⟩
     | false =>
      have HV4 := Aside0.mk (show V = if edsR (s + X.f0) (edits.drop (i + 1).toNat) = true then smsV 0 0 samples else 33 by rw [HV3.out, HD.out, show edB X = true by rw [edB_is, ← hc7, ← HT3.out, ← HT4.out, ← HT5.out, ← HT6.out]; rfl, Bool.true_and])
      have HM := Aside0.mk (show wrap64 (s + min X.f0 1099511627776) = s + X.f0 by
       have := HX.out
       have := HI.out
       rw [Int.min_eq_left (show X.f0 ≤ 1099511627776 by omega)]
       exact w64 (by omega) (by omega))
      clear HV3 hc7
      go_wp2_with fail
      go_roundg k1
      case measure => omega
      case rel => exact ⟨s + X.f0, i + 1, by rw [HM.out], by rw [HW.out.1], ⟨HW.out.2.1, HW.out.2.2, HV4.out⟩, ⟨by have := HX.out; have := HI.out; omega⟩, ⟨HB10.out⟩⟩
    ·have hlb : decide (i < (edits.length : Int)) = false := decide_eq_false hlt
     have HV3 := Aside0.mk (show V = if s ≤ 1099511627776 then smsV 0 0 samples else 33 by
      rw [hi.out.2.2, List.drop_of_length_le (by have := hi.out; omega)]
      simp [edsR, sumE])
     replace hlt := eq_false hlt
     clear hi hs
     by_cases hbig : s > 1099511627776
     ·have bb : decide (s > 1099511627776) = true := decide_eq_true hbig
      have HV4 := Aside0.mk (show V = 33 by rw [HV3.out, if_neg (by omega)])
      clear HV3 hbig
      go_wp2_with fail
      go_ret
      exact ⟨ret_i HV4.out.symm, hB.out.below⟩
     have bb : decide (s > 1099511627776) = false := decide_eq_false hbig
     have HV4 := Aside0.mk (show V = smsV (0 : Int).toNat 0 (samples.drop (0 : Int).toNat) by rw [HV3.out, if_pos (by omega)]; simp)
     clear HV3 hbig
     obtain ⟨q0, q1, q2, q3, q4, q5, q6, q7, q8, q9, qa⟩ := ten_cells hB.out.c
     go_wp2_with fail
     clear q0 q1 q2 q3 q4 q5 q6 q7 q8 q9 qa bb hlb hlt
     have HB7 := hB
     clear hB
     go_loopg [142] samples.length (fun kq v142 w' => ∃ i before : Int, v142 = .int .i64 i ∧ Aside0 (0 ≤ i ∧ i + kq = samples.length ∧ V = smsV i.toNat before (samples.drop i.toNat) ∧ (0 < i → (rd_T51 samples (i - 1)).f0 = before)) ∧ Aside0 (Bt w w' #[.int .i64 id, .int .i64 kind, .string codec, .int .i64 scale, .slice A4 setup.length c4, .string lang, .string name, .int .i64 pr, .slice A8 edits.length c8, .slice A9 refs.length c9, .slice A10 samples.length c10]))
     case atStart => exact ⟨0, 0, rfl, ⟨by simp, by simp, HV4.out, fun h => by omega⟩, ⟨HB7.out⟩⟩
     case round =>
      clear HB7 HV4
      obtain ⟨i, before, rfl, hi, hB⟩ := hrel
      by_cases hlt : i < (samples.length : Int)
      ·have hlb : decide (i < (samples.length : Int)) = true := decide_eq_true hlt
       have p0 := hi.out.1
       obtain ⟨ad, B4, d4, B5, d5, hA, r0, r1, r2, r3, r4, r5, t4, t5, t6, t7⟩ := at_T51 (Kd.C_below HH.out.p hB.out.below) i p0 hlt
       have HD := Aside0.mk (smsV_drop samples (before := before) p0 hlt)
       have HQ := Aside0.mk (And.intro t4 (And.intro t5 (And.intro t6 t7)))
       obtain ⟨k1, rfl⟩ : ∃ k, gk = k + 1 := ⟨gk - 1, by have := hi.out; omega⟩
       have hwi : wrap64 (i + 1) = i + 1 := by
        have := HL.out
        exact w64 (by omega) (by omega)
       have HW := Aside0.mk (And.intro hwi (show 0 ≤ i + 1 ∧ i + 1 + (k1 : Int) = samples.length by have := hi.out.2.1; omega))
       have HV3 := Aside0.mk hi.out.2.2.1
       have HC := Aside0.mk (fun W (hb : Below w.heap.size w W) g4 g5 => sample_n id kind codec scale A4 c4 setup lang name pr A8 c8 edits A9 c9 refs A10 c10 samples HN.out.1 HN.out.2.1 HN.out.2.2.1 HN.out.2.2.2 i before (rd_T51 samples i) B4 d4 B5 d5 p0 hlt (by have := HL.out; omega) hi.out.2.2.2 W (Hd.below A4 setup A8 edits A9 refs A10 samples HH.out hb) t4 g4 t6 g5)
       have HF := Aside0.mk (show i + 1 - 1 = i by omega)
       subst hA
       generalize hX : rd_T51 samples i = X at *
       have HX := Aside0.mk hX
       replace p0 := eq_true p0
       replace hlt := eq_true hlt
       have HB4 := Aside0.mk (hB.out.step (below_alloc (Below.refl wr.heap.size wr) (.cells #[.int .i64 X.f0, .int .i64 X.f1, .int .i64 X.f2, .bool X.f3, .slice B4 X.f4.length d4, .slice B5 X.f5.length d5] 51 (0, 0))))
       have HE4 := Aside0.mk (blk_new wr (.cells #[.int .i64 X.f0, .int .i64 X.f1, .int .i64 X.f2, .bool X.f3, .slice B4 X.f4.length d4, .slice B5 X.f5.length d5] 51 (0, 0)))
       have HY := Aside0.mk (And.intro (Kd.C_below t5 (below_alloc (Below.refl wr.heap.size wr) (.cells #[.int .i64 X.f0, .int .i64 X.f1, .int .i64 X.f2, .bool X.f3, .slice B4 X.f4.length d4, .slice B5 X.f5.length d5] 51 (0, 0)))) (Kd.C_below t7 (below_alloc (Below.refl wr.heap.size wr) (.cells #[.int .i64 X.f0, .int .i64 X.f1, .int .i64 X.f2, .bool X.f3, .slice B4 X.f4.length d4, .slice B5 X.f5.length d5] 51 (0, 0)))))
       clear hwi hi hB hX t4 t5 t6 t7 HQ
       go_upto_region 25 with fail
       generalize World.alloc wr _ = W2 at *
       generalize wr.heap.size = gE at *
       clear r0 r1 r2 r3 r4 r5
       obtain ⟨q0, q1, q2, q3, q4, q5, q6, q7, q8, q9, qa⟩ := ten_cells HB4.out.c
       have e0 : W2.cell? ⟨gE, 0, none⟩ = some (.int .i64 X.f0) := (blk_cell HE4.out 0).trans rfl
       have e1 : W2.cell? ⟨gE, 1, none⟩ = some (.int .i64 X.f1) := (blk_cell HE4.out 1).trans rfl
       have e2 : W2.cell? ⟨gE, 2, none⟩ = some (.int .i64 X.f2) := (blk_cell HE4.out 2).trans rfl
       have e3 : W2.cell? ⟨gE, 3, none⟩ = some (.bool X.f3) := (blk_cell HE4.out 3).trans rfl
       have e4 : W2.cell? ⟨gE, 4, none⟩ = some (.slice B4 X.f4.length d4) := (blk_cell HE4.out 4).trans rfl
       have e5 : W2.cell? ⟨gE, 5, none⟩ = some (.slice B5 X.f5.length d5) := (blk_cell HE4.out 5).trans rfl
       go_wp2_with fail
       refine (HC.out W2 HB4.out.below HY.out.1 HY.out.2).mono ?_
       rintro e W3 ⟨rfl, hb3⟩
       have HB5 := Aside0.mk (HB4.out.step hb3)
       clear hb3 HB4 HE4 HC HY q0 q1 q2 q3 q4 q5 q6 q7 q8 q9 qa e0 e1 e2 e3 e4 e5
       by_cases hz : smV i before X = 0
       ·have HV4 := Aside0.mk (show V = smsV (i + 1).toNat X.f0 (samples.drop (i + 1).toNat) by rw [HV3.out, HD.out, if_pos hz])
        rw [hz]
        clear HV3 hz HD
        go_wp2_with fail
        go_roundg k1
        case measure => omega
        case rel => exact ⟨i + 1, X.f0, by rw [HW.out.1], ⟨HW.out.2.1, HW.out.2.2, HV4.out, fun _ => by rw [HF.out, HX.out]⟩, ⟨HB5.out⟩⟩
       ·have HV4 := Aside0.mk (show V = smV i before X by rw [HV3.out, HD.out, if_neg hz])
        generalize smV i before X = Y at *
        clear HV3 HD
        go_wp2_with fail
        go_ret
        exact ⟨ret_i HV4.out.symm, HB5.out.below⟩
      ·have hlb : decide (i < (samples.length : Int)) = false := decide_eq_false hlt
       have HV3 := Aside0.mk (show V = 0 by
        rw [hi.out.2.2.1, List.drop_of_length_le (by have := hi.out; omega)]
        rfl)
       replace hlt := eq_false hlt
       clear hi
       go_wp2_with fail
       go_ret
       exact ⟨ret_i HV3.out.symm, hB.out.below⟩
end
end Go.Proofs.Ytknklchmpohjfaa.Tw
namespace Go.Proofs.Ytknklchmpohjfaa.Op
open Go.ChangeShapes Go.WideShapes Go.ChangeAt Go.RowKit Go.Joins Go.Deep Go.Proofs.YtknklchmpohjfaaW.PrintWords
set_option linter.unusedVariables false
theorem list_of {α : Type} (P : Nat → α → Prop) (n : Nat) (h : ∀ i, i < n → ∃ x, P i x) : ∃ l : List α, l.length = n ∧ ∀ i x, l[i]? = some x → P i x := by
 induction n with
 | zero => exact ⟨[], rfl, by simp⟩
 | succ n ih =>
  obtain ⟨l, hl, hp⟩ := ih (fun i hi => h i (by omega))
  obtain ⟨x, hx⟩ := h n (by omega)
  refine ⟨l ++ [x], by simp [hl], fun i y hy => ?_⟩
  by_cases hi : i < l.length
  ·rw [List.getElem?_append_left hi] at hy
   exact hp i y hy
  ·have hi2 : i = l.length := by
    have := (List.getElem?_eq_some_iff.1 hy).1
    simp only [List.length_append, List.length_cons, List.length_nil] at this
    omega
   subst hi2
   simp only [Nat.le_refl, List.getElem?_append_right, Nat.sub_self, List.getElem?_cons_zero, Option.some.injEq] at hy
   subst hy
   rw [hl]
   exact hx
section
variable {H : Type} (enc : TypeId × Value → H) (P : Program) (w : World) (base : Nat) (spare : Nat → Bool) (held : Bool)
def Opens {α : Type} (d : Kd α) (W : α → Prop) (t : TypeId) : Prop := ∀ (fuel : Nat) (cs : List Value) (x : DataW H × List MemPlace), DataW.trod enc P w base spare held fuel t cs = some x → ∃ z, d.K w z cs ∧ W z
def OpensF {α : Type} (d : Kd α) (W : α → Prop) (fs : List (TypeId × Nat)) (at_ : Nat) : Prop := ∀ cs : List Value, cs.length = at_ + d.sz → (∀ f ∈ fs, ∃ (fuel : Nat) (x : DataW H × List MemPlace), DataW.trod enc P w base spare held fuel f.1 ((cs.drop f.2).take (P.cellsOf f.1)) = some x) → ∃ z, d.K w z (cs.drop at_) ∧ W z
variable {enc P w base spare held}
theorem opens_int {t : TypeId} {k : IntKind} (ht : P.underlying t = some (.int k)) : Opens enc P w base spare held (Kd.int k) (fun z => (Lit.int k z).wf = true) t := by
 intro fuel cs x h
 obtain ⟨z, rfl, _, hw⟩ := DataW.trod_int ht h
 exact ⟨z, rfl, hw⟩
theorem opens_bool {t : TypeId} (ht : P.underlying t = some .bool) : Opens enc P w base spare held Kd.bool (fun _ => True) t := by
 intro fuel cs x h
 obtain ⟨z, rfl, _⟩ := DataW.trod_bool ht h
 exact ⟨z, rfl, trivial⟩
theorem opens_string {t : TypeId} (ht : P.underlying t = some .string) : Opens enc P w base spare held Kd.string (fun z => z.size ≤ maxLen) t := by
 intro fuel cs x h
 obtain ⟨z, rfl, _, hw⟩ := DataW.trod_string ht h
 exact ⟨z, rfl, hw⟩
theorem opens_slice {α : Type} {d : Kd α} {W : α → Prop} {t e : TypeId} (ht : P.underlying t = some (.slice e)) (hc : P.cellsOf e = d.sz) (he : Opens enc P w base spare held d W e) : Opens enc P w base spare held (Kd.slice e d) (fun l => l.length ≤ maxLen ∧ ∀ x ∈ l, W x) t := by
 intro fuel cs x h
 rcases open_slice ht h with ⟨rfl, _⟩ | ⟨x, len, cap, m, k, D, Pl, rfl, _, hl, hm, hmm, _, hi⟩
 ·exact ⟨[], ⟨none, 0, rfl, Nat.le_refl _, Kd.C_nil _ _⟩, by simp, by simp⟩
 ·have hlm : len ≤ m := by rw [hmm]; split <;> omega
  obtain ⟨L, hL, hp⟩ := list_of (fun i z => ∃ cs', d.K w z cs' ∧ (∀ j u, cs'[j]? = some u → w.cell? (x.add (i * d.sz + j)) = some u) ∧ W z) len (fun i hlt => by
   obtain ⟨cs', hc', ht'⟩ := hi i (by omega)
   obtain ⟨z, hK, hw⟩ := he _ _ _ ht'
   rw [hc] at hc'
   obtain ⟨_, _, hat⟩ := World.cells?_some hc'
   refine ⟨z, cs', hK, fun j u hu => ?_, hw⟩
   have hj : j < d.sz := by
    have := (List.getElem?_eq_some_iff.1 hu).1
    rw [d.K_len hK] at this
    exact this
   have := hat j hj
   rw [← Go.Deep.add_add, this, hu])
  subst hL
  refine ⟨L, ⟨some x, cap, rfl, hl, ⟨rfl, by have := hm; unfold maxLen at this; omega, fun _ => ⟨x, rfl, fun j p hj => ?_⟩⟩⟩, by omega, fun z hz => ?_⟩
  ·obtain ⟨cs', h1, h2, _⟩ := hp j p hj
   exact ⟨cs', d.K_len h1, h1, h2⟩
  ·obtain ⟨i, hi2, he2⟩ := List.getElem_of_mem hz
   obtain ⟨_, _, _, h3⟩ := hp i z (by rw [List.getElem?_eq_getElem hi2, he2])
   exact h3
theorem opens_iso {α β : Type} {d : Kd α} {f : β → α} {W : α → Prop} {t : TypeId} (g : α → β) (hg : ∀ z, f (g z) = z) (h : Opens enc P w base spare held d W t) : Opens enc P w base spare held (Kd.iso d f) (fun x => W (f x)) t := by
 intro fuel cs x hx
 obtain ⟨z, hK, hW⟩ := h fuel cs x hx
 refine ⟨g z, ?_, ?_⟩
 ·show d.K w (f (g z)) cs
  rw [hg]
  exact hK
 ·show W (f (g z))
  rw [hg]
  exact hW
theorem opens_last {α : Type} {d : Kd α} {W : α → Prop} {t : TypeId} {s : Nat} (hc : P.cellsOf t = d.sz) (h : Opens enc P w base spare held d W t) : OpensF enc P w base spare held d W [(t, s)] s := by
 intro cs hl hf
 obtain ⟨fuel, x, hx⟩ := hf (t, s) (by simp)
 simp only at hx
 rw [hc, List.take_of_length_le (by rw [List.length_drop]; omega)] at hx
 exact h _ _ _ hx
theorem opens_pair {α β : Type} {a : Kd α} {b : Kd β} {Wa : α → Prop} {Wb : β → Prop} {t : TypeId} {s s2 : Nat} {fs : List (TypeId × Nat)} (hc : P.cellsOf t = a.sz) (hs : s2 = s + a.sz) (ha : Opens enc P w base spare held a Wa t) (hb : OpensF enc P w base spare held b Wb fs s2) : OpensF enc P w base spare held (Kd.pair a b) (fun z => Wa z.1 ∧ Wb z.2) ((t, s) :: fs) s := by
 intro cs hl hf
 have hsz : (Kd.pair a b).sz = a.sz + b.sz := rfl
 obtain ⟨fuel, x, hx⟩ := hf (t, s) (by simp)
 simp only at hx
 rw [hc] at hx
 obtain ⟨z0, k0, w0⟩ := ha _ _ _ hx
 obtain ⟨z1, k1, w1⟩ := hb cs (by omega) (fun f h => hf f (by simp [h]))
 refine ⟨(z0, z1), ⟨_, _, ?_, k0, k1⟩, w0, w1⟩
 rw [hs, ← List.drop_drop, List.take_append_drop]
theorem opens_struct {α : Type} {d : Kd α} {W : α → Prop} {t : TypeId} {fs : Array Field} (l : List (TypeId × Nat)) (ht : P.underlying t = some (.struct fs)) (hc : P.cellsOf t = d.sz) (hl : fs.toList.map (fun f => (f.type, f.offset)) = l) (h : OpensF enc P w base spare held d W l 0) : Opens enc P w base spare held d W t := by
 intro fuel cs x hx
 obtain ⟨xs, k, _, _, hlen, hxs, hg⟩ := DataW.trod_struct ht hx
 obtain ⟨z, hK, hW⟩ := h cs (by omega) (fun f hf => by
  rw [← hl] at hf
  obtain ⟨F, hF, rfl⟩ := List.mem_map.1 hf
  obtain ⟨i, hi, he⟩ := List.getElem_of_mem hF
  have h1 := hg i F (by rw [← Array.getElem?_toList, List.getElem?_eq_getElem hi, he])
  have hi2 : i < xs.length := by rw [hxs, ← Array.length_toList]; exact hi
  rw [List.getElem?_eq_getElem hi2] at h1
  exact ⟨k, _, h1⟩)
 rw [List.drop_zero] at hK
 exact ⟨z, hK, hW⟩
theorem open_given {α : Type} {d : Kd α} {W : α → Prop} {t : TypeId} {fs : Array Field} {r : Reach} {b0 : Nat} {v : Value} {x : DataW H} {p : List MemPlace} (hs : P.underlying t = some (.struct fs)) (ho : Opens enc P w base spare held d W t) (hv : Value.okWide P w r b0 t v) (h : DataW.Trod enc P w base spare held t v x p) : ∃ cs z, v = .agg cs ∧ d.K w z cs.toList ∧ W z := by
 obtain ⟨cs, rfl, hsz⟩ := okWide_struct hs hv
 obtain ⟨fuel, hf⟩ := h
 obtain ⟨z, hK, hW⟩ := ho _ _ _ hf
 exact ⟨cs, z, rfl, by simpa [Value.cells] using hK, hW⟩
end
end Go.Proofs.Ytknklchmpohjfaa.Op
namespace Go.Proofs.Ytknklchmpohjfaa.Ho
open Go.ChangeShapes Go.WideShapes Go.ChangeAt Go.RowKit Go Go.Proofs.YtknklchmpohjfaaW.PrintWords Go.Proofs.YtknklchmpohjfaaW.PrintLast Go.Proofs.YtknklchmpohjfaaW.PrintMore Go.Proofs.Ytknklchmpohjfaa.Mn Go.Proofs.Ytknklchmpohjfaa.E Go.Proofs.Ytknklchmpohjfaa.Tk Go.Proofs.Ytknklchmpohjfaa.Tw Go.Proofs.Ytknklchmpohjfaa.Op
set_option linter.unusedVariables false
set_option linter.unusedSimpArgs false
structure Tr (W : World) (codec : ByteArray) (A4 : Option Addr) (c4 : Nat) (setup : List Int) (lang name : ByteArray) (A8 : Option Addr) (c8 : Nat) (edits : List Ed') (A9 : Option Addr) (c9 : Nat) (refs : List Rf) (A10 : Option Addr) (c10 : Nat) (samples : List Sm) : Prop where
 ok : okB codec lang name refs = true
 h : Hd A4 setup A8 edits A9 refs A10 samples W
 c4 : setup.length ≤ c4
 c8 : edits.length ≤ c8
 c9 : refs.length ≤ c9
 c10 : samples.length ≤ c10
section
variable {H : Type} {enc : TypeId × Value → H} {w : World} {base : Nat} {spare : Nat → Bool} {held : Bool}
theorem laidOut : laidOutB Try.prog = true := by kernel_rfl
theorem own : ownKnob Try.prog.godebug = none := by kernel_rfl
theorem op_int : Opens enc Try.prog w base spare held (Kd.int .i64) (fun z => (Lit.int .i64 z).wf = true) 3 := opens_int Try.underlying3
theorem op_str : Opens enc Try.prog w base spare held Kd.string (fun z => z.size ≤ maxLen) 9 := opens_string Try.underlying9
set_option maxRecDepth 100000 in
theorem op_edit : Opens enc Try.prog w base spare held k86 (fun _ => True) 86 := by
 have h := opens_struct (enc := enc) (w := w) (base := base) (spare := spare) (held := held) [(3, 0), (3, 1), (3, 2), (3, 3)] Try.underlying86 (by kernel_rfl) rfl
  (opens_pair (by kernel_rfl) rfl op_int (opens_pair (by kernel_rfl) rfl op_int (opens_pair (by kernel_rfl) rfl op_int (opens_last (by kernel_rfl) op_int))))
 intro fuel cs x hx
 obtain ⟨z, h1, _⟩ := opens_iso (f := fun x : S86 => (x.f0, x.f1, x.f2, x.f3)) (fun z => ⟨z.1, z.2.1, z.2.2.1, z.2.2.2⟩) (fun z => rfl) h fuel cs x hx
 exact ⟨z, h1, trivial⟩
set_option maxRecDepth 100000 in
theorem op_ref : Opens enc Try.prog w base spare held k68 (fun z => z.f0.size ≤ maxLen) 68 := by
 have h := opens_struct (enc := enc) (w := w) (base := base) (spare := spare) (held := held) [(9, 0), (3, 1)] Try.underlying68 (by kernel_rfl) rfl
  (opens_pair (by kernel_rfl) rfl op_str (opens_last (by kernel_rfl) op_int))
 intro fuel cs x hx
 obtain ⟨z, h1, h2⟩ := opens_iso (f := fun x : S68 => (x.f0, x.f1)) (fun z => ⟨z.1, z.2⟩) (fun z => rfl) h fuel cs x hx
 exact ⟨z, h1, h2.1⟩
set_option maxRecDepth 100000 in
theorem op_sample : Opens enc Try.prog w base spare held k51 (fun _ => True) 51 := by
 have h := opens_struct (enc := enc) (w := w) (base := base) (spare := spare) (held := held) [(3, 0), (3, 1), (3, 2), (4, 3), (41, 4), (35, 5)] Try.underlying51 (by kernel_rfl) rfl
  (opens_pair (by kernel_rfl) rfl op_int (opens_pair (by kernel_rfl) rfl op_int (opens_pair (by kernel_rfl) rfl op_int (opens_pair (by kernel_rfl) rfl (opens_bool Try.underlying4) (opens_pair (by kernel_rfl) rfl (opens_slice Try.underlying41 (by kernel_rfl) op_int) (opens_last (by kernel_rfl) (opens_slice Try.underlying35 (by kernel_rfl) (opens_int Try.underlying5))))))))
 intro fuel cs x hx
 obtain ⟨z, h1, _⟩ := opens_iso (f := fun x : S51 => (x.f0, x.f1, x.f2, x.f3, x.f4, x.f5)) (fun z => ⟨z.1, z.2.1, z.2.2.1, z.2.2.2.1, z.2.2.2.2.1, z.2.2.2.2.2⟩) (fun z => rfl) h fuel cs x hx
 exact ⟨z, h1, trivial⟩
set_option maxRecDepth 100000 in
theorem open_track {r : Reach} {b0 : Nat} {v : Value} {d : DataW H} {p : List MemPlace} (hv : Value.okWide Try.prog w r b0 40 v) (h : DataW.Trod enc Try.prog w base spare held 40 v d p) :
  ∃ id kind codec scale A4 c4 setup lang name pr A8 c8 edits A9 c9 refs A10 c10 samples, v = .agg #[.int .i64 id, .int .i64 kind, .string codec, .int .i64 scale, .slice A4 setup.length c4, .string lang, .string name, .int .i64 pr, .slice A8 edits.length c8, .slice A9 refs.length c9, .slice A10 samples.length c10] ∧ Tr w codec A4 c4 setup lang name A8 c8 edits A9 c9 refs A10 c10 samples := by
 have ho := opens_struct (enc := enc) (w := w) (base := base) (spare := spare) (held := held) [(3, 0), (3, 1), (9, 2), (3, 3), (35, 4), (9, 5), (9, 6), (3, 7), (36, 8), (37, 9), (38, 10)] Try.underlying40 (by kernel_rfl) rfl
  (opens_pair (by kernel_rfl) rfl op_int (opens_pair (by kernel_rfl) rfl op_int (opens_pair (by kernel_rfl) rfl op_str (opens_pair (by kernel_rfl) rfl op_int (opens_pair (by kernel_rfl) rfl (opens_slice Try.underlying35 (by kernel_rfl) (opens_int Try.underlying5)) (opens_pair (by kernel_rfl) rfl op_str (opens_pair (by kernel_rfl) rfl op_str (opens_pair (by kernel_rfl) rfl op_int (opens_pair (by kernel_rfl) rfl (opens_slice Try.underlying36 (by kernel_rfl) op_edit) (opens_pair (by kernel_rfl) rfl (opens_slice Try.underlying37 (by kernel_rfl) op_ref) (opens_last (by kernel_rfl) (opens_slice Try.underlying38 (by kernel_rfl) op_sample))))))))))))
 obtain ⟨cs, z, rfl, hK, hW⟩ := open_given Try.underlying40 ho hv h
 obtain ⟨x0, x1, x2, x3, x4, x5, x6, x7, x8, x9, xa⟩ := z
 obtain ⟨_, _, w2, _, w4, w5, w6, _, w8, w9, wa⟩ := hW
 obtain ⟨l⟩ := cs
 obtain ⟨_, _, e, rfl, ⟨_, _, rfl, rfl, ⟨_, _, rfl, rfl, ⟨_, _, rfl, rfl, ⟨_, _, rfl, ⟨A4, c4, rfl, l4, g4⟩, ⟨_, _, rfl, rfl, ⟨_, _, rfl, rfl, ⟨_, _, rfl, rfl, ⟨_, _, rfl, ⟨A8, c8, rfl, l8, g8⟩, ⟨_, _, rfl, ⟨A9, c9, rfl, l9, g9⟩, ⟨A10, c10, rfl, l10, g10⟩⟩⟩⟩⟩⟩⟩⟩⟩⟩⟩ := hK
 have e' : l = [.int .i64 x0, .int .i64 x1, .string x2, .int .i64 x3, .slice A4 x4.length c4, .string x5, .string x6, .int .i64 x7, .slice A8 x8.length c8, .slice A9 x9.length c9, .slice A10 xa.length c10] := e
 subst e'
 refine ⟨x0, x1, x2, x3, A4, c4, x4, x5, x6, x7, A8, c8, x8, A9, c9, x9, A10, c10, xa, rfl, ⟨?_, ⟨g4, g8, g9, g10⟩, l4, l8, l9, l10⟩⟩
 unfold okB
 simp only [Bool.and_eq_true, decide_eq_true_eq, List.all_eq_true]
 exact ⟨w2, w5, w6, w9.1, w9.2⟩
end
end Go.Proofs.Ytknklchmpohjfaa.Ho
namespace Go.Proofs.Ytknklchmpohjfaa.E
open Go.RowKit Go Go.Proofs.YtknklchmpohjfaaW.PrintWords Go.Proofs.YtknklchmpohjfaaW.PrintLast Go.Proofs.YtknklchmpohjfaaW.PrintMore Go.Proofs.Ytknklchmpohjfaa.Tk Go.Proofs.Ytknklchmpohjfaa.Tw
set_option linter.unusedVariables false
def model_CheckTrack.f (a0_0 : Int) (a0_1 : Int) (a0_2 : ByteArray) (a0_3 : Int) (l0_4 : List Int) (a0_5 : ByteArray) (a0_6 : ByteArray) (a0_7 : Int) (l0_8 : List (S86)) (l0_9 : List (S68)) (l0_10 : List (S51)) : Option (Int) := if okB a0_2 a0_5 a0_6 l0_9 = true then some (chkT a0_0 a0_1 a0_2 a0_3 l0_4 a0_5 a0_6 a0_7 l0_8 l0_9 l0_10) else none
theorem model_CheckTrack.calls (a0_0 : Int) (a0_1 : Int) (a0_2 : ByteArray) (a0_3 : Int) (A0_4 : Option Addr) (c0_4 : Nat) (l0_4 : List Int) (a0_5 : ByteArray) (a0_6 : ByteArray) (a0_7 : Int) (A0_8 : Option Addr) (c0_8 : Nat) (l0_8 : List (S86)) (A0_9 : Option Addr) (c0_9 : Nat) (l0_9 : List (S68)) (A0_10 : Option Addr) (c0_10 : Nat) (l0_10 : List (S51)) (r : Int) (w : World) (hr0_4 : Kd.C (Kd.int .u8) w A0_4 l0_4.length l0_4) (hc0_4 : l0_4.length ≤ c0_4) (hr0_8 : Kd.C k86 w A0_8 l0_8.length l0_8) (hc0_8 : l0_8.length ≤ c0_8) (hr0_9 : Kd.C k68 w A0_9 l0_9.length l0_9) (hc0_9 : l0_9.length ≤ c0_9) (hr0_10 : Kd.C k51 w A0_10 l0_10.length l0_10) (hc0_10 : l0_10.length ≤ c0_10) (h : model_CheckTrack.f a0_0 a0_1 a0_2 a0_3 l0_4 a0_5 a0_6 a0_7 l0_8 l0_9 l0_10 = some r) :
  Calls Try.prog 26 #[.agg #[.int .i64 a0_0, .int .i64 a0_1, .string a0_2, .int .i64 a0_3, .slice A0_4 l0_4.length c0_4, .string a0_5, .string a0_6, .int .i64 a0_7, .slice A0_8 l0_8.length c0_8, .slice A0_9 l0_9.length c0_9, .slice A0_10 l0_10.length c0_10]] w fun e w' => e = .returned (.int .i64 r) ∧ Below w.heap.size w w' := by
 unfold model_CheckTrack.f at h
 split at h
 ·rename_i hok
  have hV : chkT a0_0 a0_1 a0_2 a0_3 l0_4 a0_5 a0_6 a0_7 l0_8 l0_9 l0_10 = r := Option.some.inj h
  have := check_track_n a0_0 a0_1 a0_2 a0_3 A0_4 c0_4 l0_4 a0_5 a0_6 a0_7 A0_8 c0_8 l0_8 A0_9 c0_9 l0_9 A0_10 c0_10 l0_10 hok hc0_4 hc0_8 hc0_9 hc0_10 w ⟨hr0_4, hr0_8, hr0_9, hr0_10⟩
  rw [hV] at this
  exact this
 ·cases h
end Go.Proofs.Ytknklchmpohjfaa.E
namespace Go.Proofs.Ytknklchmpohjfaa.E
open Go.Proofs.Ytknklchmpohjfaa.Z Go.RowKit Go.Proofs.YtknklchmpohjfaaW.PrintWords Go.Proofs.YtknklchmpohjfaaW.PrintLast Go.Proofs.YtknklchmpohjfaaW.PrintMore
attribute [local go_sem] max2_int min2_int max_two min_two max_three min_three max_four min_four
set_option linter.unusedVariables false
set_option linter.unusedSimpArgs false
def model_ready.f (a0_0 : Int) (a0_1 : Int) (a0_2 : ByteArray) (a0_3 : Int) (l0_4 : List Int) (a0_5 : ByteArray) (a0_6 : ByteArray) (a0_7 : Int) (l0_8 : List (S86)) (l0_9 : List (S68)) (l0_10 : List (S51)) (a1 : Int) : Option (Int) := (model_CheckTrack.f a0_0 a0_1 a0_2 a0_3 l0_4 a0_5 a0_6 a0_7 l0_8 l0_9 l0_10).bind fun t104 => (if t104 = 0 then (if a1 < 0 then (some 1) else (if a1 ≥ (l0_10.length : Int) then (some 1) else (some 0))) else (some t104))
set_option maxHeartbeats 8000000 in
set_option maxRecDepth 100000 in
theorem model_ready.calls (a0_0 : Int) (a0_1 : Int) (a0_2 : ByteArray) (a0_3 : Int) (A0_4 : Option Addr) (c0_4 : Nat) (l0_4 : List Int) (a0_5 : ByteArray) (a0_6 : ByteArray) (a0_7 : Int) (A0_8 : Option Addr) (c0_8 : Nat) (l0_8 : List (S86)) (A0_9 : Option Addr) (c0_9 : Nat) (l0_9 : List (S68)) (A0_10 : Option Addr) (c0_10 : Nat) (l0_10 : List (S51)) (a1 : Int) (r : Int) (w : World) (hr0_4 : Kd.C (Kd.int .u8) w A0_4 l0_4.length l0_4) (hc0_4 : l0_4.length ≤ c0_4) (hr0_8 : Kd.C k86 w A0_8 l0_8.length l0_8) (hc0_8 : l0_8.length ≤ c0_8) (hr0_9 : Kd.C k68 w A0_9 l0_9.length l0_9) (hc0_9 : l0_9.length ≤ c0_9) (hr0_10 : Kd.C k51 w A0_10 l0_10.length l0_10) (hc0_10 : l0_10.length ≤ c0_10) (h : model_ready.f a0_0 a0_1 a0_2 a0_3 l0_4 a0_5 a0_6 a0_7 l0_8 l0_9 l0_10 a1 = some r) :
  Calls Try.prog 43 #[.agg #[.int .i64 a0_0, .int .i64 a0_1, .string a0_2, .int .i64 a0_3, .slice A0_4 l0_4.length c0_4, .string a0_5, .string a0_6, .int .i64 a0_7, .slice A0_8 l0_8.length c0_8, .slice A0_9 l0_9.length c0_9, .slice A0_10 l0_10.length c0_10], .int .i64 a1] w fun e w' => e = .returned (.int .i64 r) ∧ Below w.heap.size w w' := by
 have hu40 := Try.underlying40; have HR0_4 := Aside0.mk hr0_4; have HC0_4 := Aside0.mk hc0_4; clear hr0_4 hc0_4; have HR0_8 := Aside0.mk hr0_8; have HC0_8 := Aside0.mk hc0_8; clear hr0_8 hc0_8; have HR0_9 := Aside0.mk hr0_9; have HC0_9 := Aside0.mk hc0_9; clear hr0_9 hc0_9; have HR0_10 := Aside0.mk hr0_10; have HC0_10 := Aside0.mk hc0_10; clear hr0_10 hc0_10; have HB := Aside0.mk (Below.refl w.heap.size w); have H : ((model_CheckTrack.f a0_0 a0_1 a0_2 a0_3 l0_4 a0_5 a0_6 a0_7 l0_8 l0_9 l0_10).bind fun t104 => (if t104 = 0 then (if a1 < 0 then (some 1) else (if a1 ≥ (l0_10.length : Int) then (some 1) else (some 0))) else (some t104))) = some r := h
 clear h; obtain ⟨t104, A3, H⟩ := ob H
 by_cases c4 : t104 = 0
 ·rw [if_pos c4] at H; have c4b0 : (t104 == 0) = true := beq_iff_eq.mpr c4; have c4b1 : (t104 != 0) = false := bne_eq_false_iff_eq.mpr c4; clear c4
  by_cases c5 : a1 < 0
  ·rw [if_pos c5] at H; have c5b0 : decide (a1 < 0) = true := decide_eq_true c5; clear c5; obtain rfl := Option.some.inj H
   go_enter Try.func43, Try.ntmps43
   go_wp2_with (first | ((with_reducible refine gate_dst (N := 2) rfl ?_); refine zB 2 40 #[.int .i64 a0_0, .int .i64 a0_1, .string a0_2, .int .i64 a0_3, .slice A0_4 l0_4.length c0_4, .string a0_5, .string a0_6, .int .i64 a0_7, .slice A0_8 l0_8.length c0_8, .slice A0_9 l0_9.length c0_9, .slice A0_10 l0_10.length c0_10] ?_; intro gb103 hg w6 hbox hb; have BK103 := Aside0.mk hbox; have GW103 := gz hg; have GE103 := gz hg; replace HB := bp hb; clear hb hbox hg; have hcz7_0 : w6.cell? ⟨gb103, 0, none⟩ = some (.int .i64 a0_0) := ct BK103 0; have hcz7_1 : w6.cell? ⟨gb103, 1, none⟩ = some (.int .i64 a0_1) := ct BK103 1; have hcz7_2 : w6.cell? ⟨gb103, 2, none⟩ = some (.string a0_2) := ct BK103 2; have hcz7_3 : w6.cell? ⟨gb103, 3, none⟩ = some (.int .i64 a0_3) := ct BK103 3; have hcz7_4 : w6.cell? ⟨gb103, 4, none⟩ = some (.slice A0_4 l0_4.length c0_4) := ct BK103 4; have hcz7_5 : w6.cell? ⟨gb103, 5, none⟩ = some (.string a0_5) := ct BK103 5; have hcz7_6 : w6.cell? ⟨gb103, 6, none⟩ = some (.string a0_6) := ct BK103 6; have hcz7_7 : w6.cell? ⟨gb103, 7, none⟩ = some (.int .i64 a0_7) := ct BK103 7; have hcz7_8 : w6.cell? ⟨gb103, 8, none⟩ = some (.slice A0_8 l0_8.length c0_8) := ct BK103 8; have hcz7_9 : w6.cell? ⟨gb103, 9, none⟩ = some (.slice A0_9 l0_9.length c0_9) := ct BK103 9; have hcz7_10 : w6.cell? ⟨gb103, 10, none⟩ = some (.slice A0_10 l0_10.length c0_10) := ct BK103 10; have hfz7_0 := blk_frozen BK103.out 0; have hfz7_1 := blk_frozen BK103.out 1; have hfz7_2 := blk_frozen BK103.out 2; have hfz7_3 := blk_frozen BK103.out 3; have hfz7_4 := blk_frozen BK103.out 4; have hfz7_5 := blk_frozen BK103.out 5; have hfz7_6 := blk_frozen BK103.out 6; have hfz7_7 := blk_frozen BK103.out 7; have hfz7_8 := blk_frozen BK103.out 8; have hfz7_9 := blk_frozen BK103.out 9; have hfz7_10 := blk_frozen BK103.out 10) | ((with_reducible refine gate_callee (f := 26) rfl ?_); refine zC 7 Try.func26 #[.agg #[.int .i64 a0_0, .int .i64 a0_1, .string a0_2, .int .i64 a0_3, .slice A0_4 l0_4.length c0_4, .string a0_5, .string a0_6, .int .i64 a0_7, .slice A0_8 l0_8.length c0_8, .slice A0_9 l0_9.length c0_9, .slice A0_10 l0_10.length c0_10]] ?_; (with_reducible refine (model_CheckTrack.calls a0_0 a0_1 a0_2 a0_3 _ _ l0_4 a0_5 a0_6 a0_7 _ _ l0_8 _ _ l0_9 _ _ l0_10 t104 _ ?side1 ?side2 ?side3 ?side4 ?side5 ?side6 ?side7 ?side8 A3.out).mono ?_); (case side1 => exact cz HR0_4); (case side2 => exact HC0_4.out); (case side3 => exact cz HR0_8); (case side4 => exact HC0_8.out); (case side5 => exact cz HR0_9); (case side6 => exact HC0_9.out); (case side7 => exact cz HR0_10); (case side8 => exact HC0_10.out); rintro e w8 ⟨rfl, hb⟩; refine ⟨_, rfl, ?_⟩; replace BK103 := kb BK103 hb; replace HB := bp hb; clear hb))
   go_ret
   exact ⟨ez, bz⟩
  ·rw [if_neg c5] at H; have c5b0 : decide (a1 < 0) = false := decide_eq_false c5; clear c5
   by_cases c9 : a1 ≥ (l0_10.length : Int)
   ·rw [if_pos c9] at H; have c9b0 : decide ((l0_10.length : Int) ≤ a1) = true := decide_eq_true c9; clear c9; obtain rfl := Option.some.inj H
    go_enter Try.func43, Try.ntmps43
    go_wp2_with (first | ((with_reducible refine gate_dst (N := 2) rfl ?_); refine zB 2 40 #[.int .i64 a0_0, .int .i64 a0_1, .string a0_2, .int .i64 a0_3, .slice A0_4 l0_4.length c0_4, .string a0_5, .string a0_6, .int .i64 a0_7, .slice A0_8 l0_8.length c0_8, .slice A0_9 l0_9.length c0_9, .slice A0_10 l0_10.length c0_10] ?_; intro gb103 hg w10 hbox hb; have BK103 := Aside0.mk hbox; have GW103 := gz hg; have GE103 := gz hg; replace HB := bp hb; clear hb hbox hg; have hcz11_0 : w10.cell? ⟨gb103, 0, none⟩ = some (.int .i64 a0_0) := ct BK103 0; have hcz11_1 : w10.cell? ⟨gb103, 1, none⟩ = some (.int .i64 a0_1) := ct BK103 1; have hcz11_2 : w10.cell? ⟨gb103, 2, none⟩ = some (.string a0_2) := ct BK103 2; have hcz11_3 : w10.cell? ⟨gb103, 3, none⟩ = some (.int .i64 a0_3) := ct BK103 3; have hcz11_4 : w10.cell? ⟨gb103, 4, none⟩ = some (.slice A0_4 l0_4.length c0_4) := ct BK103 4; have hcz11_5 : w10.cell? ⟨gb103, 5, none⟩ = some (.string a0_5) := ct BK103 5; have hcz11_6 : w10.cell? ⟨gb103, 6, none⟩ = some (.string a0_6) := ct BK103 6; have hcz11_7 : w10.cell? ⟨gb103, 7, none⟩ = some (.int .i64 a0_7) := ct BK103 7; have hcz11_8 : w10.cell? ⟨gb103, 8, none⟩ = some (.slice A0_8 l0_8.length c0_8) := ct BK103 8; have hcz11_9 : w10.cell? ⟨gb103, 9, none⟩ = some (.slice A0_9 l0_9.length c0_9) := ct BK103 9; have hcz11_10 : w10.cell? ⟨gb103, 10, none⟩ = some (.slice A0_10 l0_10.length c0_10) := ct BK103 10; have hfz11_0 := blk_frozen BK103.out 0; have hfz11_1 := blk_frozen BK103.out 1; have hfz11_2 := blk_frozen BK103.out 2; have hfz11_3 := blk_frozen BK103.out 3; have hfz11_4 := blk_frozen BK103.out 4; have hfz11_5 := blk_frozen BK103.out 5; have hfz11_6 := blk_frozen BK103.out 6; have hfz11_7 := blk_frozen BK103.out 7; have hfz11_8 := blk_frozen BK103.out 8; have hfz11_9 := blk_frozen BK103.out 9; have hfz11_10 := blk_frozen BK103.out 10) | ((with_reducible refine gate_callee (f := 26) rfl ?_); refine zC 7 Try.func26 #[.agg #[.int .i64 a0_0, .int .i64 a0_1, .string a0_2, .int .i64 a0_3, .slice A0_4 l0_4.length c0_4, .string a0_5, .string a0_6, .int .i64 a0_7, .slice A0_8 l0_8.length c0_8, .slice A0_9 l0_9.length c0_9, .slice A0_10 l0_10.length c0_10]] ?_; (with_reducible refine (model_CheckTrack.calls a0_0 a0_1 a0_2 a0_3 _ _ l0_4 a0_5 a0_6 a0_7 _ _ l0_8 _ _ l0_9 _ _ l0_10 t104 _ ?side1 ?side2 ?side3 ?side4 ?side5 ?side6 ?side7 ?side8 A3.out).mono ?_); (case side1 => exact cz HR0_4); (case side2 => exact HC0_4.out); (case side3 => exact cz HR0_8); (case side4 => exact HC0_8.out); (case side5 => exact cz HR0_9); (case side6 => exact HC0_9.out); (case side7 => exact cz HR0_10); (case side8 => exact HC0_10.out); rintro e w12 ⟨rfl, hb⟩; refine ⟨_, rfl, ?_⟩; replace BK103 := kb BK103 hb; replace HB := bp hb; clear hb; have hcz13_0 : w12.cell? ⟨gb103, 0, none⟩ = some (.int .i64 a0_0) := ct BK103 0; have hcz13_1 : w12.cell? ⟨gb103, 1, none⟩ = some (.int .i64 a0_1) := ct BK103 1; have hcz13_2 : w12.cell? ⟨gb103, 2, none⟩ = some (.string a0_2) := ct BK103 2; have hcz13_3 : w12.cell? ⟨gb103, 3, none⟩ = some (.int .i64 a0_3) := ct BK103 3; have hcz13_4 : w12.cell? ⟨gb103, 4, none⟩ = some (.slice A0_4 l0_4.length c0_4) := ct BK103 4; have hcz13_5 : w12.cell? ⟨gb103, 5, none⟩ = some (.string a0_5) := ct BK103 5; have hcz13_6 : w12.cell? ⟨gb103, 6, none⟩ = some (.string a0_6) := ct BK103 6; have hcz13_7 : w12.cell? ⟨gb103, 7, none⟩ = some (.int .i64 a0_7) := ct BK103 7; have hcz13_8 : w12.cell? ⟨gb103, 8, none⟩ = some (.slice A0_8 l0_8.length c0_8) := ct BK103 8; have hcz13_9 : w12.cell? ⟨gb103, 9, none⟩ = some (.slice A0_9 l0_9.length c0_9) := ct BK103 9; have hcz13_10 : w12.cell? ⟨gb103, 10, none⟩ = some (.slice A0_10 l0_10.length c0_10) := ct BK103 10; have hfz13_0 := blk_frozen BK103.out 0; have hfz13_1 := blk_frozen BK103.out 1; have hfz13_2 := blk_frozen BK103.out 2; have hfz13_3 := blk_frozen BK103.out 3; have hfz13_4 := blk_frozen BK103.out 4; have hfz13_5 := blk_frozen BK103.out 5; have hfz13_6 := blk_frozen BK103.out 6; have hfz13_7 := blk_frozen BK103.out 7; have hfz13_8 := blk_frozen BK103.out 8; have hfz13_9 := blk_frozen BK103.out 9; have hfz13_10 := blk_frozen BK103.out 10))
    go_ret
    exact ⟨ez, bz⟩
   ·rw [if_neg c9] at H; have c9b0 : decide ((l0_10.length : Int) ≤ a1) = false := decide_eq_false c9; clear c9; obtain rfl := Option.some.inj H
    go_enter Try.func43, Try.ntmps43
    go_wp2_with (first | ((with_reducible refine gate_dst (N := 2) rfl ?_); refine zB 2 40 #[.int .i64 a0_0, .int .i64 a0_1, .string a0_2, .int .i64 a0_3, .slice A0_4 l0_4.length c0_4, .string a0_5, .string a0_6, .int .i64 a0_7, .slice A0_8 l0_8.length c0_8, .slice A0_9 l0_9.length c0_9, .slice A0_10 l0_10.length c0_10] ?_; intro gb103 hg w14 hbox hb; have BK103 := Aside0.mk hbox; have GW103 := gz hg; have GE103 := gz hg; replace HB := bp hb; clear hb hbox hg; have hcz15_0 : w14.cell? ⟨gb103, 0, none⟩ = some (.int .i64 a0_0) := ct BK103 0; have hcz15_1 : w14.cell? ⟨gb103, 1, none⟩ = some (.int .i64 a0_1) := ct BK103 1; have hcz15_2 : w14.cell? ⟨gb103, 2, none⟩ = some (.string a0_2) := ct BK103 2; have hcz15_3 : w14.cell? ⟨gb103, 3, none⟩ = some (.int .i64 a0_3) := ct BK103 3; have hcz15_4 : w14.cell? ⟨gb103, 4, none⟩ = some (.slice A0_4 l0_4.length c0_4) := ct BK103 4; have hcz15_5 : w14.cell? ⟨gb103, 5, none⟩ = some (.string a0_5) := ct BK103 5; have hcz15_6 : w14.cell? ⟨gb103, 6, none⟩ = some (.string a0_6) := ct BK103 6; have hcz15_7 : w14.cell? ⟨gb103, 7, none⟩ = some (.int .i64 a0_7) := ct BK103 7; have hcz15_8 : w14.cell? ⟨gb103, 8, none⟩ = some (.slice A0_8 l0_8.length c0_8) := ct BK103 8; have hcz15_9 : w14.cell? ⟨gb103, 9, none⟩ = some (.slice A0_9 l0_9.length c0_9) := ct BK103 9; have hcz15_10 : w14.cell? ⟨gb103, 10, none⟩ = some (.slice A0_10 l0_10.length c0_10) := ct BK103 10; have hfz15_0 := blk_frozen BK103.out 0; have hfz15_1 := blk_frozen BK103.out 1; have hfz15_2 := blk_frozen BK103.out 2; have hfz15_3 := blk_frozen BK103.out 3; have hfz15_4 := blk_frozen BK103.out 4; have hfz15_5 := blk_frozen BK103.out 5; have hfz15_6 := blk_frozen BK103.out 6; have hfz15_7 := blk_frozen BK103.out 7; have hfz15_8 := blk_frozen BK103.out 8; have hfz15_9 := blk_frozen BK103.out 9; have hfz15_10 := blk_frozen BK103.out 10) | ((with_reducible refine gate_callee (f := 26) rfl ?_); refine zC 7 Try.func26 #[.agg #[.int .i64 a0_0, .int .i64 a0_1, .string a0_2, .int .i64 a0_3, .slice A0_4 l0_4.length c0_4, .string a0_5, .string a0_6, .int .i64 a0_7, .slice A0_8 l0_8.length c0_8, .slice A0_9 l0_9.length c0_9, .slice A0_10 l0_10.length c0_10]] ?_; (with_reducible refine (model_CheckTrack.calls a0_0 a0_1 a0_2 a0_3 _ _ l0_4 a0_5 a0_6 a0_7 _ _ l0_8 _ _ l0_9 _ _ l0_10 t104 _ ?side1 ?side2 ?side3 ?side4 ?side5 ?side6 ?side7 ?side8 A3.out).mono ?_); (case side1 => exact cz HR0_4); (case side2 => exact HC0_4.out); (case side3 => exact cz HR0_8); (case side4 => exact HC0_8.out); (case side5 => exact cz HR0_9); (case side6 => exact HC0_9.out); (case side7 => exact cz HR0_10); (case side8 => exact HC0_10.out); rintro e w16 ⟨rfl, hb⟩; refine ⟨_, rfl, ?_⟩; replace BK103 := kb BK103 hb; replace HB := bp hb; clear hb; have hcz17_0 : w16.cell? ⟨gb103, 0, none⟩ = some (.int .i64 a0_0) := ct BK103 0; have hcz17_1 : w16.cell? ⟨gb103, 1, none⟩ = some (.int .i64 a0_1) := ct BK103 1; have hcz17_2 : w16.cell? ⟨gb103, 2, none⟩ = some (.string a0_2) := ct BK103 2; have hcz17_3 : w16.cell? ⟨gb103, 3, none⟩ = some (.int .i64 a0_3) := ct BK103 3; have hcz17_4 : w16.cell? ⟨gb103, 4, none⟩ = some (.slice A0_4 l0_4.length c0_4) := ct BK103 4; have hcz17_5 : w16.cell? ⟨gb103, 5, none⟩ = some (.string a0_5) := ct BK103 5; have hcz17_6 : w16.cell? ⟨gb103, 6, none⟩ = some (.string a0_6) := ct BK103 6; have hcz17_7 : w16.cell? ⟨gb103, 7, none⟩ = some (.int .i64 a0_7) := ct BK103 7; have hcz17_8 : w16.cell? ⟨gb103, 8, none⟩ = some (.slice A0_8 l0_8.length c0_8) := ct BK103 8; have hcz17_9 : w16.cell? ⟨gb103, 9, none⟩ = some (.slice A0_9 l0_9.length c0_9) := ct BK103 9; have hcz17_10 : w16.cell? ⟨gb103, 10, none⟩ = some (.slice A0_10 l0_10.length c0_10) := ct BK103 10; have hfz17_0 := blk_frozen BK103.out 0; have hfz17_1 := blk_frozen BK103.out 1; have hfz17_2 := blk_frozen BK103.out 2; have hfz17_3 := blk_frozen BK103.out 3; have hfz17_4 := blk_frozen BK103.out 4; have hfz17_5 := blk_frozen BK103.out 5; have hfz17_6 := blk_frozen BK103.out 6; have hfz17_7 := blk_frozen BK103.out 7; have hfz17_8 := blk_frozen BK103.out 8; have hfz17_9 := blk_frozen BK103.out 9; have hfz17_10 := blk_frozen BK103.out 10))
    go_ret
    exact ⟨ez, bz⟩
 ·rw [if_neg c4] at H; have c4b0 : (t104 == 0) = false := beq_eq_false_iff_ne.mpr c4; have c4b1 : (t104 != 0) = true := bne_iff_ne.mpr c4; obtain rfl := Option.some.inj H
  go_enter Try.func43, Try.ntmps43
  go_wp2_with (first | ((with_reducible refine gate_dst (N := 2) rfl ?_); refine zB 2 40 #[.int .i64 a0_0, .int .i64 a0_1, .string a0_2, .int .i64 a0_3, .slice A0_4 l0_4.length c0_4, .string a0_5, .string a0_6, .int .i64 a0_7, .slice A0_8 l0_8.length c0_8, .slice A0_9 l0_9.length c0_9, .slice A0_10 l0_10.length c0_10] ?_; intro gb103 hg w18 hbox hb; have BK103 := Aside0.mk hbox; have GW103 := gz hg; have GE103 := gz hg; replace HB := bp hb; clear hb hbox hg; have hcz19_0 : w18.cell? ⟨gb103, 0, none⟩ = some (.int .i64 a0_0) := ct BK103 0; have hcz19_1 : w18.cell? ⟨gb103, 1, none⟩ = some (.int .i64 a0_1) := ct BK103 1; have hcz19_2 : w18.cell? ⟨gb103, 2, none⟩ = some (.string a0_2) := ct BK103 2; have hcz19_3 : w18.cell? ⟨gb103, 3, none⟩ = some (.int .i64 a0_3) := ct BK103 3; have hcz19_4 : w18.cell? ⟨gb103, 4, none⟩ = some (.slice A0_4 l0_4.length c0_4) := ct BK103 4; have hcz19_5 : w18.cell? ⟨gb103, 5, none⟩ = some (.string a0_5) := ct BK103 5; have hcz19_6 : w18.cell? ⟨gb103, 6, none⟩ = some (.string a0_6) := ct BK103 6; have hcz19_7 : w18.cell? ⟨gb103, 7, none⟩ = some (.int .i64 a0_7) := ct BK103 7; have hcz19_8 : w18.cell? ⟨gb103, 8, none⟩ = some (.slice A0_8 l0_8.length c0_8) := ct BK103 8; have hcz19_9 : w18.cell? ⟨gb103, 9, none⟩ = some (.slice A0_9 l0_9.length c0_9) := ct BK103 9; have hcz19_10 : w18.cell? ⟨gb103, 10, none⟩ = some (.slice A0_10 l0_10.length c0_10) := ct BK103 10; have hfz19_0 := blk_frozen BK103.out 0; have hfz19_1 := blk_frozen BK103.out 1; have hfz19_2 := blk_frozen BK103.out 2; have hfz19_3 := blk_frozen BK103.out 3; have hfz19_4 := blk_frozen BK103.out 4; have hfz19_5 := blk_frozen BK103.out 5; have hfz19_6 := blk_frozen BK103.out 6; have hfz19_7 := blk_frozen BK103.out 7; have hfz19_8 := blk_frozen BK103.out 8; have hfz19_9 := blk_frozen BK103.out 9; have hfz19_10 := blk_frozen BK103.out 10) | ((with_reducible refine gate_callee (f := 26) rfl ?_); refine zC 7 Try.func26 #[.agg #[.int .i64 a0_0, .int .i64 a0_1, .string a0_2, .int .i64 a0_3, .slice A0_4 l0_4.length c0_4, .string a0_5, .string a0_6, .int .i64 a0_7, .slice A0_8 l0_8.length c0_8, .slice A0_9 l0_9.length c0_9, .slice A0_10 l0_10.length c0_10]] ?_; (with_reducible refine (model_CheckTrack.calls a0_0 a0_1 a0_2 a0_3 _ _ l0_4 a0_5 a0_6 a0_7 _ _ l0_8 _ _ l0_9 _ _ l0_10 t104 _ ?side1 ?side2 ?side3 ?side4 ?side5 ?side6 ?side7 ?side8 A3.out).mono ?_); (case side1 => exact cz HR0_4); (case side2 => exact HC0_4.out); (case side3 => exact cz HR0_8); (case side4 => exact HC0_8.out); (case side5 => exact cz HR0_9); (case side6 => exact HC0_9.out); (case side7 => exact cz HR0_10); (case side8 => exact HC0_10.out); rintro e w20 ⟨rfl, hb⟩; refine ⟨_, rfl, ?_⟩; replace BK103 := kb BK103 hb; replace HB := bp hb; clear hb))
  go_ret
  exact ⟨ez, bz⟩
end Go.Proofs.Ytknklchmpohjfaa.E
namespace Go.Proofs.Ytknklchmpohjfaa.Nx
set_option linter.unusedVariables false
set_option linter.unusedSimpArgs false
def rch (dp : Int → List Int) : Nat → Int → Int → Bool
 | 0, i, j => decide (j = i)
 | n + 1, i, j => decide (j = i) || (dp i).any (fun d => rch dp n d j)
def rc (dp : Int → List Int) (i j : Int) : Bool := rch dp i.toNat i j
def Dn (dp : Int → List Int) (m : Int) : Prop := ∀ i, 0 ≤ i → i < m → ∀ d ∈ dp i, 0 ≤ d ∧ d < i
variable {dp : Int → List Int} {m : Int}
theorem rch_mono (h : Dn dp m) : ∀ (n k : Nat) (i j : Int), 0 ≤ i → i < m → i.toNat ≤ n → n ≤ k → rch dp n i j = rch dp k i j := by
 intro n
 induction n with
 | zero =>
  intro k i j h0 h1 hi hk
  have hi0 : i = 0 := by omega
  have hnil : dp i = [] := by
   cases hd : dp i with
   | nil => rfl
   | cons d t =>
    have := h i h0 h1 d (by rw [hd]; exact List.mem_cons_self)
    omega
  cases k with
  | zero => rfl
  | succ k => simp [rch, hnil]
 | succ n ih =>
  intro k i j h0 h1 hi hk
  cases k with
  | zero => omega
  | succ k =>
   simp only [rch]
   congr 1
   have : ∀ l : List Int, (∀ d ∈ l, 0 ≤ d ∧ d < i) → l.any (fun d => rch dp n d j) = l.any (fun d => rch dp k d j) := by
    intro l
    induction l with
    | nil => intro _; rfl
    | cons d t iht =>
     intro hl
     have hd := hl d List.mem_cons_self
     simp only [List.any_cons]
     rw [ih k d j hd.1 (by omega) (by omega) (by omega), iht (fun x hx => hl x (List.mem_cons_of_mem _ hx))]
   exact this _ (h i h0 h1)
theorem rc_step (h : Dn dp m) {i : Int} (h0 : 0 ≤ i) (h1 : i < m) (j : Int) : rc dp i j = (decide (j = i) || (dp i).any (fun d => rc dp d j)) := by
 unfold rc
 rw [rch_mono h i.toNat (i.toNat + 1) i j h0 h1 (Nat.le_refl _) (by omega)]
 simp only [rch]
 congr 1
 have : ∀ l : List Int, (∀ d ∈ l, 0 ≤ d ∧ d < i) → l.any (fun d => rch dp i.toNat d j) = l.any (fun d => rch dp d.toNat d j) := by
  intro l
  induction l with
  | nil => intro _; rfl
  | cons d t iht =>
   intro hl
   have hd := hl d List.mem_cons_self
   simp only [List.any_cons]
   rw [← rch_mono h d.toNat i.toNat d j hd.1 (by omega) (Nat.le_refl _) (by omega), iht (fun x hx => hl x (List.mem_cons_of_mem _ hx))]
 exact this _ (h i h0 h1)
theorem rc_self (i : Int) : rc dp i i = true := by
 unfold rc
 cases i.toNat <;> simp [rch]
theorem rc_dep (h : Dn dp m) {i d : Int} (h0 : 0 ≤ i) (h1 : i < m) (hd : d ∈ dp i) {j : Int} (hj : rc dp d j = true) : rc dp i j = true := by
 rw [rc_step h h0 h1]
 simp only [Bool.or_eq_true, List.any_eq_true]
 exact .inr ⟨d, hd, hj⟩
theorem rc_ind (h : Dn dp m) {Q : Int → Int → Prop} (self : ∀ i, 0 ≤ i → i < m → Q i i) (step : ∀ i d j, 0 ≤ i → i < m → d ∈ dp i → rc dp d j = true → Q d j → Q i j) : ∀ (n : Nat) (i j : Int), i.toNat ≤ n → 0 ≤ i → i < m → rc dp i j = true → Q i j := by
 intro n
 induction n with
 | zero =>
  intro i j hn h0 h1 hr
  rw [rc_step h h0 h1] at hr
  simp only [Bool.or_eq_true, List.any_eq_true, decide_eq_true_eq] at hr
  rcases hr with rfl | ⟨d, hd, _⟩
  ·exact self _ h0 h1
  ·have := h i h0 h1 d hd
   omega
 | succ n ih =>
  intro i j hn h0 h1 hr
  rw [rc_step h h0 h1] at hr
  simp only [Bool.or_eq_true, List.any_eq_true, decide_eq_true_eq] at hr
  rcases hr with rfl | ⟨d, hd, hdj⟩
  ·exact self _ h0 h1
  ·have h2 := h i h0 h1 d hd
   exact step i d j h0 h1 hd hdj (ih d j (by omega) h2.1 (by omega) hdj)
theorem rc_le (h : Dn dp m) {i j : Int} (h0 : 0 ≤ i) (h1 : i < m) (hr : rc dp i j = true) : 0 ≤ j ∧ j ≤ i :=
 rc_ind h (Q := fun i j => 0 ≤ j ∧ j ≤ i) (fun i h0 _ => ⟨h0, Int.le_refl _⟩) (fun i d j h0 h1 hd _ hq => ⟨hq.1, by have := h i h0 h1 d hd; omega⟩) i.toNat i j (Nat.le_refl _) h0 h1 hr
theorem rc_trans (h : Dn dp m) {i j l : Int} (h0 : 0 ≤ i) (h1 : i < m) (hr : rc dp i j = true) (hl : rc dp j l = true) : rc dp i l = true :=
 rc_ind h (Q := fun i j => ∀ l, rc dp j l = true → rc dp i l = true) (fun i _ _ l hl => hl) (fun i d j h0 h1 hd _ hq l hl => rc_dep h h0 h1 hd (hq l hl)) i.toNat i j (Nat.le_refl _) h0 h1 hr l hl
def Cld (dp : Int → List Int) (S : Int → Bool) (i : Int) : Prop := ∀ j, 0 ≤ j → j ≤ i → S j = true → ∀ l, rc dp j l = true → S l = true
theorem cld_hit (h : Dn dp m) {S : Int → Bool} {i : Int} (h0 : 0 ≤ i) (hc : Cld dp S i) (hS : S i = true) : (fun j => S j || rc dp i j) = S := by
 funext j
 cases hr : rc dp i j with
 | false => simp
 | true => simp [hc i h0 (Int.le_refl _) hS j hr]
def half (dp : Int → List Int) (S : Int → Bool) (i : Int) (pre : List Int) (j : Int) : Bool := (S j || decide (j = i)) || pre.any (fun d => rc dp d j)
theorem half_nil (S : Int → Bool) (i : Int) : half dp S i [] = (fun j => S j || decide (j = i)) := by funext j; simp [half]
theorem half_step (S : Int → Bool) (i d : Int) (pre : List Int) : (fun j => half dp S i pre j || rc dp d j) = half dp S i (pre ++ [d]) := by
 funext j
 simp [half, List.any_append, Bool.or_assoc]
theorem half_all (h : Dn dp m) {S : Int → Bool} {i : Int} (h0 : 0 ≤ i) (h1 : i < m) : half dp S i (dp i) = (fun j => S j || rc dp i j) := by
 funext j
 rw [rc_step h h0 h1]
 simp [half, Bool.or_assoc]
theorem half_cld (h : Dn dp m) {S : Int → Bool} {i d : Int} {pre : List Int} (h0 : 0 ≤ i) (h1 : i < m) (hp : ∀ x ∈ pre, x ∈ dp i) (hd : d ∈ dp i) (hc : Cld dp S i) : Cld dp (half dp S i pre) d := by
 have hdi := h i h0 h1 d hd
 intro j hj0 hjd hS l hl
 simp only [half, Bool.or_eq_true, List.any_eq_true, decide_eq_true_eq] at hS ⊢
 rcases hS with (hS | rfl) | ⟨x, hx, hxj⟩
 ·exact .inl (.inl (hc j hj0 (by omega) hS l hl))
 ·omega
 ·have hxi := h i h0 h1 x (hp x hx)
  exact .inr ⟨x, hx, rc_trans h hxi.1 (by omega) hxj hl⟩
def cnt (n : Nat) (S : Int → Bool) : Nat := (List.range n).countP (fun j : Nat => S (j : Int))
theorem cnt_le (n : Nat) (S : Int → Bool) : cnt n S ≤ n := by
 have := List.countP_le_length (p := fun j : Nat => S (j : Int)) (l := List.range n)
 simpa [cnt] using this
theorem cnt_ins {n : Nat} {S : Int → Bool} {i : Int} (h0 : 0 ≤ i) (h1 : i < n) (hS : S i = false) : cnt n (fun j => S j || decide (j = i)) = cnt n S + 1 := by
 have key : ∀ n : Nat, (List.range n).countP (fun j : Nat => S (j : Int) || decide ((j : Int) = i)) = (List.range n).countP (fun j : Nat => S (j : Int)) + (if i < n then 1 else 0) := by
  intro n
  induction n with
  | zero => simp; omega
  | succ n ih =>
   rw [List.range_succ, List.countP_append, List.countP_append, ih]
   by_cases hn : (n : Int) = i
   ·subst hn
    simp [hS]
    omega
   ·have e1 : ((n : Int) < ((n + 1 : Nat) : Int)) := by omega
    simp only [List.countP_cons, List.countP_nil, hn, decide_false, Bool.or_false]
    split <;> split <;> split <;> omega
 unfold cnt
 rw [key n, if_pos h1]
theorem rc_of_closed (h : Dn dp m) {i : Int} (h0 : 0 ≤ i) (h1 : i < m) {S : Int → Bool} (hi : S i = true) (hs : ∀ j, S j = true → rc dp i j = true) (hc : ∀ k, 0 ≤ k → k ≤ i → S k = true → ∀ d ∈ dp k, S d = true) (j : Int) : S j = rc dp i j := by
 have key : ∀ a b, 0 ≤ a → a < m → rc dp a b = true → a ≤ i → S a = true → S b = true := fun a b ha ham hr =>
  rc_ind h (Q := fun a b => a ≤ i → S a = true → S b = true) (fun _ _ _ _ hS => hS) (fun a d b h0 h1 hd _ hq hai hS => hq (by have := h a h0 h1 d hd; omega) (hc a h0 hai hS d hd)) a.toNat a b (Nat.le_refl _) ha ham hr
 cases hr : rc dp i j with
 | true => exact key i j h0 h1 hr (Int.le_refl _) hi
 | false =>
  cases hS : S j with
  | false => rfl
  | true => rw [hs j hS] at hr; cases hr
end Go.Proofs.Ytknklchmpohjfaa.Nx
namespace Go.Proofs.Ytknklchmpohjfaa.Ny
open Go.Proofs.Ytknklchmpohjfaa.Nx
set_option linter.unusedVariables false
set_option linter.unusedSimpArgs false
def upto (n : Nat) : List Int := (List.range n).map Int.ofNat
theorem mem_upto {n : Nat} {j : Int} : j ∈ upto n ↔ 0 ≤ j ∧ j < n := by
 unfold upto
 simp only [List.mem_map, List.mem_range]
 constructor
 ·rintro ⟨a, ha, rfl⟩
  exact ⟨Int.natCast_nonneg a, by simpa using ha⟩
 ·rintro ⟨h0, h1⟩
  refine ⟨j.toNat, by omega, ?_⟩
  show ((j.toNat : Nat) : Int) = j
  omega
theorem upto_succ (n : Nat) : upto (n + 1) = upto n ++ [(n : Int)] := by
 unfold upto
 rw [List.range_succ, List.map_append]
 rfl
def ndsL (dp : Int → List Int) (n : Nat) (i : Int) : List Int := (upto n).filter (rc dp i)
variable {dp : Int → List Int} {n : Nat}
theorem mem_nds {i j : Int} : j ∈ ndsL dp n i ↔ (0 ≤ j ∧ j < n) ∧ rc dp i j = true := by
 unfold ndsL
 rw [List.mem_filter, mem_upto]
theorem nds_len (i : Int) : (ndsL dp n i).length ≤ n := by
 unfold ndsL
 refine Nat.le_trans (List.length_filter_le _ _) ?_
 simp [upto]
theorem nds_trim (h : Dn dp n) {i : Int} (h0 : 0 ≤ i) (h1 : i < n) : ∀ k : Nat, i.toNat + 1 ≤ k → k ≤ n → (upto k).filter (rc dp i) = (upto (i.toNat + 1)).filter (rc dp i) := by
 intro k hk hn
 induction k with
 | zero => omega
 | succ k ih =>
  by_cases hk2 : i.toNat + 1 = k + 1
  ·rw [hk2]
  ·rw [upto_succ, List.filter_append, ih (by omega) (by omega)]
   have : rc dp i (k : Int) = false := by
    cases hr : rc dp i (k : Int) with
    | false => rfl
    | true =>
     have := rc_le h h0 h1 hr
     omega
   simp [this]
theorem nds_ref (h : Dn dp n) {i : Int} (h0 : 0 ≤ i) (h1 : i < n) : ndsL dp n i = (upto (i.toNat + 1)).filter (rc dp i) := nds_trim h h0 h1 n (by omega) (Nat.le_refl _)
theorem nds_self {i : Int} (h0 : 0 ≤ i) (h1 : i < n) : i ∈ ndsL dp n i := mem_nds.2 ⟨⟨h0, h1⟩, rc_self i⟩
theorem upto_sorted : ∀ n, (upto n).Pairwise (· < ·)
 | 0 => List.Pairwise.nil
 | n + 1 => by
  rw [upto_succ, List.pairwise_append]
  refine ⟨upto_sorted n, List.pairwise_singleton _ _, ?_⟩
  intro a ha b hb
  rw [List.mem_singleton] at hb
  subst hb
  exact (mem_upto.1 ha).2
theorem nds_cons {i : Int} (h0 : 0 ≤ i) (h1 : i < n) : ∃ d t, ndsL dp n i = d :: t ∧ 0 ≤ d ∧ d < n ∧ d ≤ i ∧ ∀ j ∈ t, d < j := by
 have hs : (ndsL dp n i).Pairwise (· < ·) := (upto_sorted n).filter _
 have hi := nds_self (dp := dp) h0 h1
 cases hl : ndsL dp n i with
 | nil => rw [hl] at hi; cases hi
 | cons d t =>
  have hd := (mem_nds.1 (show d ∈ ndsL dp n i by rw [hl]; exact List.mem_cons_self)).1
  rw [hl, List.pairwise_cons] at hs
  refine ⟨d, t, rfl, hd.1, hd.2, ?_, hs.1⟩
  rw [hl] at hi
  rcases List.mem_cons.1 hi with rfl | hi
  ·exact Int.le_refl _
  ·exact Int.le_of_lt (hs.1 i hi)
def stV (sync : Int → Bool) : Nat → Option Int
 | 0 => none
 | k + 1 => if sync (k : Int) = true then some (k : Int) else stV sync k
end Go.Proofs.Ytknklchmpohjfaa.Ny
namespace Go.Proofs.Ytknklchmpohjfaa.Gt
open Go.RowKit Go Go.Proofs.YtknklchmpohjfaaW.PrintWords Go.Proofs.YtknklchmpohjfaaW.PrintLast Go.Proofs.YtknklchmpohjfaaW.PrintMore Go.Proofs.Ytknklchmpohjfaa.Mn Go.Proofs.Ytknklchmpohjfaa.E Go.Proofs.Ytknklchmpohjfaa.Tk Go.Proofs.Ytknklchmpohjfaa.Nx Go.Proofs.Ytknklchmpohjfaa.Ny
set_option linter.unusedVariables false
set_option linter.unusedSimpArgs false
def dps (l : List Sm) (i : Int) : List Int := (rd_T51 l i).f4
def syn (l : List Sm) (i : Int) : Bool := (rd_T51 l i).f3
theorem deps_is : ∀ (l : List Int) (i last : Int), -1 ≤ last → depsB i last l = true → ∀ d ∈ l, 0 ≤ d ∧ d < i
 | [], _, _, _, _, d, hd => by cases hd
 | x :: t, i, last, h0, h, d, hd => by
  rw [depsB] at h
  simp only [Bool.and_eq_true, decide_eq_true_eq] at h
  rcases List.mem_cons.1 hd with rfl | hd
  ·omega
  ·exact deps_is t i x (by omega) h.2.2 d hd
theorem smV_dep {i before : Int} {s : Sm} (h : smV i before s = 0) : s.f4.length ≤ 4 ∧ depsB i (-1) s.f4 = true ∧ (s.f3 = true → s.f4 = []) := by
 unfold smV at h
 split at h
 ·split at h
  ·cases h
  ·rename_i hl
   split at h
   ·cases h
   ·split at h
    ·cases h
    ·rename_i hd
     refine ⟨by omega, ?_, fun hs => ?_⟩
     ·cases hb : depsB i (-1) s.f4 with
      | true => rfl
      | false => exact absurd (.inr hb) hd
     ·cases hf : s.f4 with
      | nil => rfl
      | cons x t => exact absurd (.inl ⟨hs, by rw [hf]; simp⟩) hd
 ·cases h
theorem smsV_at : ∀ (l : List Sm) (k : Nat) (before : Int), smsV k before l = 0 → ∀ (j : Nat) (hj : j < l.length), ∃ b, smV ((k + j : Nat) : Int) b l[j] = 0
 | [], _, _, _, j, hj => by simp at hj
 | x :: t, k, before, h, j, hj => by
  rw [smsV] at h
  by_cases h0 : smV k before x = 0
  ·rw [if_pos h0] at h
   cases j with
   | zero => exact ⟨before, h0⟩
   | succ j =>
    obtain ⟨b, hb⟩ := smsV_at t (k + 1) x.f0 h j (by simpa using hj)
    exact ⟨b, by rw [show k + (j + 1) = k + 1 + j by omega]; exact hb⟩
  ·rw [if_neg h0] at h
   exact absurd h h0
theorem rd_get (l : List Sm) {i : Int} (h0 : 0 ≤ i) (h1 : i < (l.length : Int)) : ∃ hn : i.toNat < l.length, rd_T51 l i = l[i.toNat] := by
 have hn : i.toNat < l.length := by omega
 refine ⟨hn, ?_⟩
 unfold rd_T51
 rw [List.getD_eq_getElem?_getD, List.getElem?_eq_getElem hn]
 rfl
theorem at_ok {l : List Sm} (h : smsV 0 0 l = 0) {i : Int} (h0 : 0 ≤ i) (h1 : i < (l.length : Int)) : (dps l i).length ≤ 4 ∧ depsB i (-1) (dps l i) = true ∧ (syn l i = true → dps l i = []) := by
 obtain ⟨hn, hg⟩ := rd_get l h0 h1
 obtain ⟨b, hb⟩ := smsV_at l 0 0 h i.toNat hn
 have hi : ((0 + i.toNat : Nat) : Int) = i := by omega
 rw [hi] at hb
 unfold dps syn
 rw [hg]
 exact smV_dep hb
theorem dn_of {l : List Sm} (h : smsV 0 0 l = 0) : Dn (dps l) (l.length : Int) := fun i h0 h1 => deps_is _ i (-1) (by omega) (at_ok h h0 h1).2.1
theorem chk_smp {id kind : Int} {codec : ByteArray} {scale : Int} {setup : List Int} {lang name : ByteArray} {pr : Int} {edits : List Ed'} {refs : List Rf} {samples : List Sm} (h : chkT id kind codec scale setup lang name pr edits refs samples = 0) : samples.length ≤ 400 ∧ smsV 0 0 samples = 0 := by
 unfold chkT at h
 split at h
 ·split at h
  ·cases h
  ·rename_i hl
   split at h
   ·unfold limB at hl
    simp only [Bool.or_eq_true, decide_eq_true_eq] at hl
    exact ⟨by omega, h⟩
   ·cases h
 ·cases h
end Go.Proofs.Ytknklchmpohjfaa.Gt
namespace Go.Proofs.Ytknklchmpohjfaa.Mp
open Go Go.Maps Go.RowKit
set_option linter.unusedVariables false
set_option linter.unusedSimpArgs false
theorem plainElem_bool_inv {H : Type} {P : Program} {e : TypeId} (he : P.underlying e = some .bool) {v : Value} {z : DataW H × List MemPlace} (h : plainElem P e v = some z) : ∃ x, v = .bool x ∧ z = (.lit (.bool x), []) := by
 unfold plainElem at h
 rw [he] at h
 cases v <;> simp at h
 exact ⟨_, rfl, h.symm⟩
section
variable {P : Program} {k e t : TypeId} {W W' : World} {b n : Nat}
structure SetM {κ : Type} (lit : κ → Lit) (P : Program) (k e : TypeId) (W : World) (b n : Nat) (S : κ → Bool) : Prop where
 h : ∃ D : DataW Unit, W.ownsMap P k (plainElem P e) b n D ∧ ∀ i, D.atKey (lit i) (.lit (.bool false)) = .lit (.bool (S i))
variable {κ : Type} {lit : κ → Lit} {S : κ → Bool}
theorem SetM.made (W : World) : SetM lit P k e (W.alloc (.map #[] 0)) W.heap.size 0 (fun _ => false) :=
 ⟨.map [], World.ownsMap_made W P k _, fun i => rfl⟩
theorem SetM.of (h : SetM lit P k e W b n S) (hb : W'.heap[b]? = W.heap[b]?) : SetM lit P k e W' b n S := by
 obtain ⟨D, ⟨es, clock, hw, F, hs, hD⟩, hat⟩ := h.h
 exact ⟨D, ⟨es, clock, hb.trans hw, F, hs, hD⟩, hat⟩
theorem SetM.lt (h : SetM lit P k e W b n S) : b < W.heap.size := by
 obtain ⟨D, ho, _⟩ := h.h
 exact ho.lt
theorem SetM.mono (h : SetM lit P k e W b n S) {m : Nat} (hm : n ≤ m) : SetM lit P k e W b m S := by
 obtain ⟨D, ho, hat⟩ := h.h
 exact ⟨D, ho.mono hm, hat⟩
theorem SetM.below (h : SetM lit P k e W b n S) (hb : Below W.heap.size W W') : SetM lit P k e W' b n S := h.of (hb.block b h.lt)
theorem SetM.look (h : SetM lit P k e W b n S) (K : Keyed P k) (ht : P.underlying t = some (.map k e)) (he : P.underlying e = some .bool) (hz : (zeroValue e).run P W = .ok (.bool false) W) {key : Value} {i : κ} (hkey : keyOf P k key = some (lit i)) :
  (Instr.lookup t (.map (some b)) key false).run P W = .ok (.bool (S i)) W := by
 obtain ⟨D, ho, hat⟩ := h.h
 obtain ⟨v, ps, hrun, hv⟩ := ho.lookup K ht hz (plainElem_bool he false) hkey
 obtain ⟨x, rfl, hx⟩ := plainElem_bool_inv he hv
 rw [hat i] at hx
 simp only [Prod.mk.injEq, DataW.lit.injEq, Lit.bool.injEq] at hx
 rw [hrun, hx.1]
theorem SetM.put [DecidableEq κ] (h : SetM lit P k e W b n S) (inj : ∀ i j, lit i = lit j → i = j) (K : Keyed P k) (ht : P.underlying t = some (.map k e)) (he : P.underlying e = some .bool) (hn : n < maxLen) {key : Value} {i : κ} (hkey : keyOf P k key = some (lit i)) (hl : WideAt.IsKeyLit (lit i)) :
  ∃ W', (Instr.mapUpdate t (.map (some b)) key (.bool true)).run P W = .ok () W' ∧ SetM lit P k e W' b (n + 1) (fun j => S j || decide (j = i)) ∧ W.grownBy W' (some b) := by
 obtain ⟨D, ho, hat⟩ := h.h
 obtain ⟨W', hrun, ho', hg⟩ := ho.update K ht hn hkey (plainElem_bool he true)
 refine ⟨W', hrun, ⟨_, ho', fun j => ?_⟩, hg⟩
 by_cases hj : j = i
 ·subst hj
  rw [atKey_put_same ho.isMap hl]
  simp
 ·rw [atKey_put_other (fun hh => hj (inj _ _ hh)), hat j]
  simp [hj]
end
end Go.Proofs.Ytknklchmpohjfaa.Mp
namespace Go.Proofs.Ytknklchmpohjfaa.Gb
open Go.Maps Go.RowKit Go Go.Proofs.YtknklchmpohjfaaW.PrintWords Go.Proofs.YtknklchmpohjfaaW.PrintLast Go.Proofs.YtknklchmpohjfaaW.PrintMore Go.Proofs.Ytknklchmpohjfaa.Mn Go.Proofs.Ytknklchmpohjfaa.Nd Go.Proofs.Ytknklchmpohjfaa.Z Go.Proofs.Ytknklchmpohjfaa.E Go.Proofs.Ytknklchmpohjfaa.Tk Go.Proofs.Ytknklchmpohjfaa.Tw Go.Proofs.Ytknklchmpohjfaa.Mp Go.Proofs.Ytknklchmpohjfaa.Nx Go.Proofs.Ytknklchmpohjfaa.Ny Go.Proofs.Ytknklchmpohjfaa.Gt
set_option linter.unusedVariables false
set_option linter.unusedSimpArgs false
def iL (i : Int) : Lit := .int .i64 i
theorem iL_inj (i j : Int) (h : iL i = iL j) : i = j := by
 unfold iL at h
 simpa using h
abbrev SetI (W : World) (b n : Nat) (S : Int → Bool) : Prop := SetM iL Try.prog 3 4 W b n S
theorem lawI : Keyed Try.prog 3 := int_keyed Try.underlying3
theorem zeroB (w : World) : (zeroValue 4).run Try.prog w = .ok (.bool false) w := by kernel_rfl
theorem key_of {i : Int} (h0 : 0 ≤ i) (h1 : i < 1000000) : keyOf Try.prog 3 (.int .i64 i) = some (iL i) := keyOf_int_mk Try.underlying3 (WalkArith.wf_i64 (by omega))
theorem SetI.look {W : World} {b n : Nat} {S : Int → Bool} (h : SetI W b n S) {i : Int} (h0 : 0 ≤ i) (h1 : i < 1000000) : (Instr.lookup 92 (.map (some b)) (.int .i64 i) false).run Try.prog W = .ok (.bool (S i)) W :=
 SetM.look h lawI Try.underlying92 Try.underlying4 (zeroB W) (key_of h0 h1)
theorem SetI.put {W : World} {b n : Nat} {S : Int → Bool} (h : SetI W b n S) {i : Int} (h0 : 0 ≤ i) (h1 : i < 1000000) (hn : n ≤ 1000000) : ∃ W', (Instr.mapUpdate 92 (.map (some b)) (.int .i64 i) (.bool true)).run Try.prog W = .ok () W' ∧ SetI W' b (n + 1) (fun j => S j || decide (j = i)) ∧ W.grownBy W' (some b) :=
 SetM.put h iL_inj lawI Try.underlying92 Try.underlying4 (by unfold maxLen; omega) (key_of h0 h1) trivial
structure Wk (w W : World) (gh gt gw b : Nat) (cs : Array Value) : Prop where
 m : W.heap[gh]? = some (.cells #[.map (some b)] 92 (0, 0))
 t : W.heap[gt]? = some (.cells cs 40 (0, 0))
 f : W.heap[gw]? = some (.cells #[.func (.func 60) #[] #[.pointer (some ⟨gh, 0, none⟩), .pointer (some ⟨gt, 0, none⟩), .pointer (some ⟨gw, 0, none⟩)]] 108 (0, 0))
 hm : gh ≠ b
 ht : gt ≠ b
 hf : gw ≠ b
 hb : w.heap.size ≤ b
 below : Below w.heap.size w W
theorem Wk.grown {w W W2 : World} {gh gt gw b : Nat} {cs : Array Value} (h : Wk w W gh gt gw b cs) (hg : W.grownBy W2 (some b)) : Wk w W2 gh gt gw b cs :=
 ⟨blk_grown h.m hg (fun e => h.hm (Option.some.inj e)), blk_grown h.t hg (fun e => h.ht (Option.some.inj e)), blk_grown h.f hg (fun e => h.hf (Option.some.inj e)), h.hm, h.ht, h.hf, h.hb, h.below.grown hg h.below.size (fun k hk => by cases hk; exact h.hb)⟩
theorem grown_trans {W W1 W2 : World} {r : Option Nat} (h : W.grownBy W1 r) (h2 : W1.grownBy W2 r) : W.grownBy W2 r :=
 ⟨h2.os.trans h.os, h2.tape.trans h.tape, h2.output.trans h.output, Nat.le_trans h.size h2.size, fun i hi hne => (h2.block i (Nat.lt_of_lt_of_le hi h.size) hne).trans (h.block i hi hne)⟩
theorem take_next (l : List Int) {t : Int} (h0 : 0 ≤ t) (h1 : t < (l.length : Int)) : l.take (t + 1).toNat = l.take t.toNat ++ [rd l t] ∧ rd l t ∈ l := by
 have hn : t.toNat < l.length := by omega
 have ht : (t + 1).toNat = t.toNat + 1 := by omega
 have hg : rd l t = l[t.toNat] := by
  unfold rd
  rw [List.getD_eq_getElem?_getD, List.getElem?_eq_getElem hn]
  rfl
 rw [ht, hg, List.take_succ_eq_append_getElem hn]
 exact ⟨rfl, List.getElem_mem hn⟩
section
variable (c0 c1 c2 c3 c4 c5 c6 c7 c8 c9 : Value) (A10 : Option Addr) (c10 : Nat) (samples : List Sm)
set_option maxHeartbeats 8000000 in
set_option maxRecDepth 100000 in
theorem walk_n (w : World) (gh gt gw b : Nat) (hs : smsV 0 0 samples = 0) (hl : samples.length ≤ 400) (hr : Kd.C k51 w A10 samples.length samples) : ∀ (m : Nat) (i : Int), i.toNat < m → 0 ≤ i → i < (samples.length : Int) → ∀ (W : World) (S : Int → Bool), Wk w W gh gt gw b #[c0, c1, c2, c3, c4, c5, c6, c7, c8, c9, .slice A10 samples.length c10] → SetI W b (cnt samples.length S) S → Cld (dps samples) S i →
  Calls Try.prog 60 #[.int .i64 i, .pointer (some ⟨gh, 0, none⟩), .pointer (some ⟨gt, 0, none⟩), .pointer (some ⟨gw, 0, none⟩)] W (fun e W' => e = .returned (.tuple #[]) ∧ SetI W' b (cnt samples.length (fun j => S j || rc (dps samples) i j)) (fun j => S j || rc (dps samples) i j) ∧ W.grownBy W' (some b)) := by
 intro m
 induction m with
 | zero => intro i hi; omega
 | succ m ih =>
  intro i hi h0 h1 W S hW hS hC
  have hE := enters_of Try.func60 (by kernel_rfl) rfl
  have hu := Try.underlying40
  have hu2 := Try.underlying51
  have hu3 := Try.underlying92
  have HS := Aside0.mk hS
  have HW := Aside0.mk hW
  have HI := Aside0.mk (And.intro hi (And.intro h0 (And.intro h1 (And.intro hs hl))))
  have HC := Aside0.mk hC
  have IH := Aside0.mk ih
  have HR := Aside0.mk hr
  have hlk := hS.look h0 (by omega)
  have q0 : W.cell? ⟨gh, 0, none⟩ = some (.map (some b)) := (blk_cell hW.m 0).trans rfl
  obtain ⟨B, hB⟩ : ∃ B : Bool, B = S i := ⟨_, rfl⟩
  rw [← hB] at hlk
  clear hi hs hl hC hS hW ih hr
  cases B with
  | true =>
   have HB := Aside0.mk hB
   clear hB
   go_enter Try.func60, Try.ntmps60
   go_wp2_with fail
   refine bodyPost_ret (results_none rfl _ _ _) rfl ?_
   refine ⟨rfl, ?_, World.grownBy.refl _ _⟩
   rw [cld_hit (dn_of HI.out.2.2.2.1) h0 HC.out HB.out.symm]
   exact HS.out
  | false =>
   obtain ⟨W1, hup, hS1, hg1⟩ := HS.out.put h0 (show i < 1000000 by have := HI.out; omega) (by have := cnt_le samples.length S; have := HI.out; omega)
   have HS1 := Aside0.mk (show SetI W1 b (cnt samples.length (half (dps samples) S i [])) (half (dps samples) S i []) by
    rw [half_nil, cnt_ins h0 h1 hB.symm]
    exact hS1)
   have HW1 := Aside0.mk (HW.out.grown hg1)
   have HG1 := Aside0.mk hg1
   obtain ⟨ad, B4, d4, B5, d5, hA, r0, r1, r2, r3, r4, r5, t4, t5, t6, t7⟩ := at_T51 HR.out i h0 h1
   replace r0 := pw_cell_below HW1.out.below r0
   replace r1 := pw_cell_below HW1.out.below r1
   replace r2 := pw_cell_below HW1.out.below r2
   replace r3 := pw_cell_below HW1.out.below r3
   replace r4 := pw_cell_below HW1.out.below r4
   replace r5 := pw_cell_below HW1.out.below r5
   have q1 : W1.cell? ⟨gt, 10, none⟩ = some (.slice A10 samples.length c10) := (blk_cell HW1.out.t 10).trans rfl
   have HD := Aside0.mk (show dps samples i = (rd_T51 samples i).f4 from rfl)
   have HT := Aside0.mk (And.intro (at_ok HI.out.2.2.2.1 h0 h1).1 t5)
   subst hA
   generalize hX : rd_T51 samples i = X at *
   have p0 := eq_true h0
   have p1 := eq_true h1
   clear hB hS1 hg1 t4 t5 t6 t7 hX HS HW
   go_enter Try.func60, Try.ntmps60
   go_wp2_with fail
   clear hlk hup r0 r1 r2 r3 r4 r5 q0 q1
   go_loopg [19] X.f4.length (fun kq v19 w' => ∃ t : Int, v19 = .int .i64 t ∧ Aside0 (0 ≤ t ∧ t + kq = X.f4.length) ∧ Aside0 (SetI w' b (cnt samples.length (half (dps samples) S i (X.f4.take t.toNat))) (half (dps samples) S i (X.f4.take t.toNat))) ∧ Aside0 (W.grownBy w' (some b)) ∧ Aside0 (W1.grownBy w' (some b)))
   case atStart => exact ⟨0, rfl, ⟨by simp⟩, ⟨by simpa using HS1.out⟩, HG1, ⟨World.grownBy.refl _ _⟩⟩
   case round =>
    obtain ⟨t, rfl, ht, hSt, hGt, hG1t⟩ := hrel
    by_cases hlt : t < (X.f4.length : Int)
    ·have hlb : decide (t < (X.f4.length : Int)) = true := decide_eq_true hlt
     have g0 := ht.out.1
     have hWt := Aside0.mk (HW1.out.grown hG1t.out)
     have HN := Aside0.mk (take_next X.f4 g0 hlt)
     obtain ⟨ad2, e2, x0⟩ := Kd.at_int (Kd.C_below HT.out.2 hWt.out.below) t g0 hlt
     have q2 : wr.cell? ⟨gw, 0, none⟩ = some (.func (.func 60) #[] #[.pointer (some ⟨gh, 0, none⟩), .pointer (some ⟨gt, 0, none⟩), .pointer (some ⟨gw, 0, none⟩)]) := (blk_cell hWt.out.f 0).trans rfl
     subst e2
     have HM := Aside0.mk (show rd X.f4 t ∈ dps samples i by rw [HD.out]; exact HN.out.2)
     have HDn := Aside0.mk (dn_of HI.out.2.2.2.1 i h0 h1 _ HM.out)
     have HX := Aside0.mk (IH.out (rd X.f4 t) (by have := HDn.out; have := HI.out; omega) HDn.out.1 (by have := HDn.out; have := HI.out; omega) wr _ hWt.out hSt.out (half_cld (dn_of HI.out.2.2.2.1) h0 h1 (fun x hx => by rw [HD.out]; exact List.mem_of_mem_take hx) HM.out HC.out))
     obtain ⟨k1, rfl⟩ : ∃ k, gk = k + 1 := ⟨gk - 1, by have := ht.out; omega⟩
     have HY := Aside0.mk (And.intro (show wrap64 (t + 1) = t + 1 by have := HT.out.1; rw [HD.out] at this; have := ht.out; exact w64 (by omega) (by omega)) (show 0 ≤ t + 1 ∧ t + 1 + (k1 : Int) = X.f4.length by have := ht.out; omega))
     generalize hd : rd X.f4 t = d at *
     have Hd := Aside0.mk hd
     have g1 := eq_true hlt
     replace g0 := eq_true g0
     clear hd hlt ht
     go_wp2_with fail
     refine HX.out.mono ?_
     rintro e w2 ⟨rfl, hS2, hg2⟩
     have HS2 := Aside0.mk (show SetI w2 b (cnt samples.length (half (dps samples) S i (X.f4.take (t + 1).toNat))) (half (dps samples) S i (X.f4.take (t + 1).toNat)) by
      rw [HN.out.1, ← half_step]
      exact hS2)
     have HG2 := Aside0.mk (grown_trans hGt.out hg2)
     have HG3 := Aside0.mk (grown_trans hG1t.out hg2)
     clear hS2 hg2 x0 q2
     go_wp2_with fail
     go_roundg k1
     case measure => omega
     case rel => exact ⟨t + 1, by rw [HY.out.1], ⟨HY.out.2⟩, HS2, HG2, HG3⟩
    ·have hlb : decide (t < (X.f4.length : Int)) = false := decide_eq_false hlt
     have HE := Aside0.mk (show half (dps samples) S i (X.f4.take t.toNat) = (fun j => S j || rc (dps samples) i j) by
      rw [List.take_of_length_le (by have := ht.out; omega), ← HD.out]
      exact half_all (dn_of HI.out.2.2.2.1) h0 h1)
     have HS2 := Aside0.mk (show SetI wr b (cnt samples.length (fun j => S j || rc (dps samples) i j)) (fun j => S j || rc (dps samples) i j) by
      rw [← HE.out]
      exact hSt.out)
     replace hlt := eq_false hlt
     clear ht hSt
     go_wp2_with fail
     go_end0
     exact ⟨rfl, HS2.out, hGt.out⟩
end
end Go.Proofs.Ytknklchmpohjfaa.Gb

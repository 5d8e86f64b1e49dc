/-
  The first error of a track, as a plain value: what the code and the reference tell. The reference's natural numbers, in digits of nine decimal places: what its printed functions compute. The reference's natural numbers: sums, differences, products, quotients, small ones. The normal list of a list of edits as a plain value, and that the code tells it. The reference's rational numbers as rational numbers. The reference divides. What a track shows, as a list: the plain values, and the reference's end. model.CheckTrack, walked: the first error of a track. Whether lists are equal, alike; the first example of the chapter. Whether two lists show the same. The reference's normal list is the same. What the reference tells of a list: its normal list, its first error, its length. The reference's whole number of a rational number. What a normal list shows, and how long it is. The reference's first error and length; lists compared. Two lists of edits with their errors, compared. Edits that come in, opened: a list of edits, a list with its clocks, two numbers. EditFaster: a list that is so many times as fast is as the reference says. EditClocks: a list by other clocks is as the reference says.
-/
import Derived.Test.YtpbhepdgamoiaaaQREditWholea
import Derived.Test.YtpbhepdgamoiaaaQREditWholee
import Derived.Test.YtpbhepdgamoiaaaQREditWholec
import Derived.Test.YtpbhepdgamoiaaaQREditWholed
import Derived.Test.YtpbhepdgamoiaaaQREditWholef
import Derived.Test.YtpbhepdgamoiaaaQREditWholeg
import Derived.Test.YtpbhepdgamoiaaaChecked
import Derived.Lib.SmallJoins
import Derived.ProofKit
import Derived.Deep.Slices
import Derived.Deep.Fields
import Derived.ChangeSame
namespace Go.Proofs.Ytpbhepdgamoiaaa.E
open Go.Proofs.Ytpbhepdgamoiaaa.Z Go.RowKit Go.Proofs.YtpbhepdgamoiaaaW.PrintWords Go.Proofs.YtpbhepdgamoiaaaW.PrintLast Go.Proofs.YtpbhepdgamoiaaaW.PrintMore
attribute [local go_sem] max2_int min2_int max_two min_two max_three min_three max_four min_four
set_option linter.unusedVariables false
set_option linter.unusedSimpArgs false
end Go.Proofs.Ytpbhepdgamoiaaa.E
namespace Go.Proofs.Ytpbhepdgamoiaaa.Tk
open Go.RowKit Go Go.Proofs.YtpbhepdgamoiaaaW.PrintWords Go.Proofs.YtpbhepdgamoiaaaW.PrintLast Go.Proofs.YtpbhepdgamoiaaaW.PrintMore Go.Proofs.Ytpbhepdgamoiaaa.Mn Go.Proofs.Ytpbhepdgamoiaaa.E
set_option linter.unusedVariables false
set_option linter.unusedSimpArgs false
abbrev Sm := S120
abbrev Rf := S150
abbrev Ed' := S77
def inB (a lo hi : Int) : Bool := decide (lo ≤ a) && decide (a ≤ hi)
theorem within_f (a lo hi : Int) : model_within.f a lo hi = some (inB a lo hi) := by
 unfold model_within.f inB
 by_cases h : a ≥ lo
 ·rw [if_pos h, decide_eq_true (show lo ≤ a from h), Bool.true_and]
 ·rw [if_neg h, decide_eq_false (show ¬ lo ≤ a from h), Bool.false_and]
theorem rin_f (a lo hi : Int) : dioramaref03_in.f a lo hi = some (inB a lo hi) := by
 unfold dioramaref03_in.f inB
 by_cases h : a ≥ lo
 ·rw [if_pos h, decide_eq_true (show lo ≤ a from h), Bool.true_and]
 ·rw [if_neg h, decide_eq_false (show ¬ lo ≤ a from h), Bool.false_and]
def allB (p : Int → Bool) (s : ByteArray) : Nat → Nat → Bool
 | _, 0 => true
 | i, n + 1 => p (bt s i) && allB p s (i + 1) n
def lowL (c : Int) : Bool := decide (97 ≤ c) && decide (c ≤ 122)
def anyL (c : Int) : Bool := lowL c || (decide (48 ≤ c) && decide (c ≤ 57))
def sign (c : Int) : Bool := decide (32 ≤ c) && decide (c ≤ 126)
def letB (s : ByteArray) : Bool := allB anyL s 0 s.size && decide (s.size = 4)
def lanB (s : ByteArray) : Bool := allB lowL s 0 s.size && decide (s.size = 3)
def namB (s : ByteArray) : Bool := decide (s.size ≤ 40) && allB sign s 0 s.size
def Bs (s : ByteArray) : Prop := s.size ≤ maxLen
theorem max_is : maxLen ≤ 9223372036854775807 := by unfold maxLen; omega
section
variable (s : ByteArray) (hs : Bs s)
include hs
theorem nxt {i n : Nat} (h : i + (n + 1) = s.size) : wrap64 ((i : Int) + 1) = ((i + 1 : Nat) : Int) := by
 have := max_is
 unfold Bs at hs
 rw [w64 (by omega) (by omega)]
 omega
theorem letters_l (b : Bool) (m : Nat) : ∀ n i : Nat, i + n = s.size → Ev (fun k => model_letters.l0 k s (m : Int) b (s.size : Int) (i : Int)) (allB (if b = true then anyL else lowL) s i n && decide (s.size = m))
 | 0, i, h => by
  refine Ev.step (f := fun _ => some (decide (s.size = m))) (fun k => ?_) (by simpa only [allB, Bool.true_and] using Ev.now _)
  rw [model_letters.l0, if_neg (by omega)]
  congr 1
  rw [Bool.eq_iff_iff]
  simp only [beq_iff_eq, decide_eq_true_eq]
  omega
 | n + 1, i, h => by
  have ih := letters_l b m n (i + 1) (by omega)
  have hn := nxt s hs h
  by_cases hp : (if b = true then anyL else lowL) (bt s i) = true
  ·rw [allB, hp, Bool.true_and]
   refine Ev.step (fun k => ?_) ih
   rw [model_letters.l0, if_pos (by omega), if_pos (by omega), if_pos (by omega), hn]
   cases b with
   | true =>
    simp only [if_true, anyL, lowL, Bool.or_eq_true, Bool.and_eq_true, decide_eq_true_eq] at hp
    repeat' split
    all_goals first | rfl | (exfalso; omega) | simp_all
   | false =>
    simp only [Bool.false_eq_true, if_false, lowL, Bool.and_eq_true, decide_eq_true_eq] at hp
    repeat' split
    all_goals first | rfl | (exfalso; omega) | simp_all
  ·rw [allB, Bool.eq_false_iff.2 hp, Bool.false_and, Bool.false_and]
   refine Ev.step (f := fun _ => some false) (fun k => ?_) (Ev.now _)
   rw [model_letters.l0, if_pos (by omega), if_pos (by omega), if_pos (by omega)]
   cases b with
   | true =>
    simp only [if_true, anyL, lowL, Bool.or_eq_true, Bool.and_eq_true, decide_eq_true_eq] at hp
    repeat' split
    all_goals first | rfl | (exfalso; omega) | simp_all
   | false =>
    simp only [Bool.false_eq_true, if_false, lowL, Bool.and_eq_true, decide_eq_true_eq] at hp
    repeat' split
    all_goals first | rfl | (exfalso; omega) | simp_all
theorem letters_f : Ev (fun k => model_letters.f k s 4 true) (letB s) := letters_l s hs true 4 s.size 0 (by omega)
theorem lang_f : Ev (fun k => model_letters.f k s 3 false) (lanB s) := letters_l s hs false 3 s.size 0 (by omega)
theorem name_l : ∀ n i : Nat, i + n = s.size → Ev (fun k => model_isName.l0 k s (s.size : Int) (i : Int)) (allB sign s i n)
 | 0, i, h => by
  refine Ev.step (f := fun _ => some true) (fun k => ?_) (Ev.now _)
  rw [model_isName.l0, if_neg (by omega)]
 | n + 1, i, h => by
  have ih := name_l n (i + 1) (by omega)
  have hn := nxt s hs h
  by_cases hp : sign (bt s i) = true
  ·rw [allB, hp, Bool.true_and]
   simp only [sign, Bool.and_eq_true, decide_eq_true_eq] at hp
   refine Ev.step (fun k => ?_) ih
   rw [model_isName.l0, if_pos (by omega), if_pos (by omega), if_pos (by omega), if_neg (by omega), if_neg (by omega), hn]
  ·rw [allB, Bool.eq_false_iff.2 hp, Bool.false_and]
   simp only [sign, Bool.and_eq_true, decide_eq_true_eq] at hp
   refine Ev.step (f := fun _ => some false) (fun k => ?_) (Ev.now _)
   rw [model_isName.l0, if_pos (by omega), if_pos (by omega), if_pos (by omega)]
   by_cases h1 : bt s i < 32
   ·rw [if_pos h1]
   ·rw [if_neg h1, if_pos (by omega)]
theorem name_f : Ev (fun k => model_isName.f k s) (namB s) := by
 unfold namB
 by_cases h : s.size ≤ 40
 ·rw [decide_eq_true h, Bool.true_and]
  exact Ev.congr (fun k => if_neg (by omega)) (name_l s hs s.size 0 (by omega))
 ·rw [decide_eq_false h, Bool.false_and]
  exact Ev.congr (fun k => if_pos (by omega)) (Ev.now _)
theorem rletters_l : ∀ n i : Nat, i + n = s.size → Ev (fun k => dioramaref03_Letters.l0 k s (i : Int)) (allB anyL s i n && decide (s.size = 4))
 | 0, i, h => by
  refine Ev.step (f := fun _ => some (decide (s.size = 4))) (fun k => ?_) (by simpa only [allB, Bool.true_and] using Ev.now _)
  rw [dioramaref03_Letters.l0, if_neg (by omega)]
  congr 1
  rw [Bool.eq_iff_iff]
  simp only [beq_iff_eq, decide_eq_true_eq]
  omega
 | n + 1, i, h => by
  have ih := rletters_l n (i + 1) (by omega)
  have hn := nxt s hs h
  by_cases hp : anyL (bt s i) = true
  ·rw [allB, hp, Bool.true_and]
   simp only [anyL, lowL, Bool.or_eq_true, Bool.and_eq_true, decide_eq_true_eq] at hp
   refine Ev.step (fun k => ?_) ih
   rw [dioramaref03_Letters.l0, if_pos (by omega), if_pos (by omega), hn]
   repeat' split
   all_goals first | rfl | (exfalso; omega)
  ·rw [allB, Bool.eq_false_iff.2 hp, Bool.false_and, Bool.false_and]
   simp only [anyL, lowL, Bool.or_eq_true, Bool.and_eq_true, decide_eq_true_eq] at hp
   refine Ev.step (f := fun _ => some false) (fun k => ?_) (Ev.now _)
   rw [dioramaref03_Letters.l0, if_pos (by omega), if_pos (by omega)]
   repeat' split
   all_goals first | rfl | (exfalso; omega)
theorem rletters_f : Ev (fun k => dioramaref03_Letters.f k s) (letB s) := rletters_l s hs s.size 0 (by omega)
theorem rlang_l : ∀ n i : Nat, i + n = s.size → Ev (fun k => dioramaref03_language.l0 k s (i : Int)) (allB lowL s i n && decide (s.size = 3))
 | 0, i, h => by
  refine Ev.step (f := fun _ => some (decide (s.size = 3))) (fun k => ?_) (by simpa only [allB, Bool.true_and] using Ev.now _)
  rw [dioramaref03_language.l0, if_neg (by omega)]
  congr 1
  rw [Bool.eq_iff_iff]
  simp only [beq_iff_eq, decide_eq_true_eq]
  omega
 | n + 1, i, h => by
  have ih := rlang_l n (i + 1) (by omega)
  have hn := nxt s hs h
  by_cases hp : lowL (bt s i) = true
  ·rw [allB, hp, Bool.true_and]
   simp only [lowL, Bool.and_eq_true, decide_eq_true_eq] at hp
   refine Ev.step (fun k => ?_) ih
   rw [dioramaref03_language.l0, if_pos (by omega), if_pos (by omega), if_neg (by omega), if_neg (by omega), hn]
  ·rw [allB, Bool.eq_false_iff.2 hp, Bool.false_and, Bool.false_and]
   simp only [lowL, Bool.and_eq_true, decide_eq_true_eq] at hp
   refine Ev.step (f := fun _ => some false) (fun k => ?_) (Ev.now _)
   rw [dioramaref03_language.l0, if_pos (by omega), if_pos (by omega)]
   repeat' split
   all_goals first | rfl | (exfalso; omega)
theorem rlang_f : Ev (fun k => dioramaref03_language.f k s) (lanB s) := rlang_l s hs s.size 0 (by omega)
theorem rname_l : ∀ n i : Nat, i + n = s.size → Ev (fun k => dioramaref03_Name.l0 k s (i : Int)) (allB sign s i n && decide (s.size ≤ 40))
 | 0, i, h => by
  refine Ev.step (f := fun _ => some (decide (s.size ≤ 40))) (fun k => ?_) (by simpa only [allB, Bool.true_and] using Ev.now _)
  rw [dioramaref03_Name.l0, if_neg (by omega)]
  congr 1
  rw [Bool.eq_iff_iff]
  simp only [decide_eq_true_eq]
  omega
 | n + 1, i, h => by
  have ih := rname_l n (i + 1) (by omega)
  have hn := nxt s hs h
  by_cases hp : sign (bt s i) = true
  ·rw [allB, hp, Bool.true_and]
   simp only [sign, Bool.and_eq_true, decide_eq_true_eq] at hp
   refine Ev.step (fun k => ?_) ih
   rw [dioramaref03_Name.l0, if_pos (by omega), if_pos (by omega), if_neg (by omega), if_neg (by omega), hn]
  ·rw [allB, Bool.eq_false_iff.2 hp, Bool.false_and, Bool.false_and]
   simp only [sign, Bool.and_eq_true, decide_eq_true_eq] at hp
   refine Ev.step (f := fun _ => some false) (fun k => ?_) (Ev.now _)
   rw [dioramaref03_Name.l0, if_pos (by omega), if_pos (by omega)]
   repeat' split
   all_goals first | rfl | (exfalso; omega)
theorem rname_f : Ev (fun k => dioramaref03_Name.f k s) (namB s) := by
 unfold namB
 rw [Bool.and_comm]
 exact rname_l s hs s.size 0 (by omega)
end
def edB (x : Ed') : Bool := inB x.f0 1 1099511627776 && (inB x.f1 (-1) 1099511627776 && (inB x.f2 0 1000 && (inB x.f3 1 1000 && (decide (x.f1 = -1) && (decide (x.f2 ≠ 1) || decide (x.f3 ≠ 1))) == false)))
def sumE : List Ed' → Int
 | [] => 0
 | x :: t => x.f0 + sumE t
def edsB (l : List Ed') : Bool := l.all edB && decide (sumE l ≤ 1099511627776)
theorem ed_is {x : Ed'} (h : edB x = true) : 1 ≤ x.f0 ∧ x.f0 ≤ 1099511627776 := by
 unfold edB inB at h
 simp only [Bool.and_eq_true, decide_eq_true_eq] at h
 exact h.1
theorem sumE_app : ∀ a b : List Ed', sumE (a ++ b) = sumE a + sumE b
 | [], b => by simp [sumE]
 | x :: t, b => by simp only [List.cons_append, sumE, sumE_app t b]; omega
theorem sumE_rng : ∀ l : List Ed', (∀ x ∈ l, edB x = true) → 0 ≤ sumE l ∧ sumE l ≤ 1099511627776 * l.length
 | [], _ => by simp [sumE]
 | x :: t, h => by
  have h1 := ed_is (h x (by simp))
  have h2 := sumE_rng t (fun y hy => h y (by simp [hy]))
  simp only [sumE, List.length_cons]
  omega
def depsB (i last : Int) : List Int → Bool
 | [] => true
 | d :: t => decide (last < d) && (decide (d < i) && depsB i d t)
def smV (i before : Int) (s : Sm) : Int :=
 if (inB s.f0 (-1099511627776) 1099511627776 && (inB s.f1 (-1099511627776) 1099511627776 && inB s.f2 0 1099511627776)) = true then
  (if 65536 < s.f5.length ∨ 4 < s.f4.length then 2 else if 0 < i ∧ s.f0 ≤ before then 31 else if (s.f3 = true ∧ 0 < s.f4.length) ∨ depsB i (-1) s.f4 = false then 32 else 0)
 else 1
def smsV : Nat → Int → List Sm → Int
 | _, _, [] => 0
 | i, before, s :: t => if smV i before s = 0 then smsV (i + 1) s.f0 t else smV i before s
def rfsB (l : List Rf) : Bool := l.all (fun r => letB r.f0)
def fldB (id kind : Int) (codec : ByteArray) (scale : Int) (lang name : ByteArray) (pre : Int) : Bool := inB id 1 1000 && (inB kind 1 7 && (letB codec && (inB scale 1 1000000 && (lanB lang && (namB name && inB pre 0 1099511627776)))))
def limB (setup : List Int) (edits : List Ed') (refs : List Rf) (samples : List Sm) : Bool := decide (1000 < setup.length) || (decide (20 < edits.length) || (decide (8 < refs.length) || decide (400 < samples.length)))
def chkT (id kind : Int) (codec : ByteArray) (scale : Int) (setup : List Int) (lang name : ByteArray) (pre : Int) (edits : List Ed') (refs : List Rf) (samples : List Sm) : Int :=
 if (fldB id kind codec scale lang name pre && rfsB refs) = true then (if limB setup edits refs samples = true then 2 else if edsB edits = true then smsV 0 0 samples else 33) else 1
theorem rd_mid {pre : List Int} {x : Int} {rest : List Int} : rd (pre ++ x :: rest) (pre.length : Int) = x := by
 unfold rd
 simp [List.getD_eq_getElem?_getD]
theorem rdE_mid (pre : List Ed') (x : Ed') (rest : List Ed') : rd_T77 (pre ++ x :: rest) (pre.length : Int) = x := by
 unfold rd_T77
 simp [List.getD_eq_getElem?_getD]
theorem rdR_mid (pre : List Rf) (x : Rf) (rest : List Rf) : rd_T150 (pre ++ x :: rest) (pre.length : Int) = x := by
 unfold rd_T150
 simp [List.getD_eq_getElem?_getD]
theorem rdS_mid (pre : List Sm) (x : Sm) (rest : List Sm) : rd_T120 (pre ++ x :: rest) (pre.length : Int) = x := by
 unfold rd_T120
 simp [List.getD_eq_getElem?_getD]
theorem deps_l (i : Int) (l : List Int) (hl : l.length ≤ 4) : ∀ (rest pre : List Int) (last : Int), l = pre ++ rest → Ev (fun k => model_checkSample.l0 k i last l (l.length : Int) (pre.length : Int)) (if depsB i last rest = true then 0 else 32)
 | [], pre, last, h => by
  rw [depsB, if_pos rfl]
  have : l.length = pre.length := by rw [h]; simp
  refine Ev.step (f := fun _ => some 0) (fun k => ?_) (Ev.now _)
  rw [model_checkSample.l0, if_neg (by omega)]
 | d :: t, pre, last, h => by
  have ih := deps_l i l hl t (pre ++ [d]) d (by rw [h]; simp)
  have hlen : l.length = pre.length + (t.length + 1) := by rw [h]; simp
  have hx : rd l (pre.length : Int) = d := by rw [h]; exact rd_mid
  rw [depsB]
  by_cases h1 : last < d
  ·rw [decide_eq_true h1, Bool.true_and]
   by_cases h2 : d < i
   ·rw [decide_eq_true h2, Bool.true_and]
    refine Ev.step (fun k => ?_) ih
    rw [model_checkSample.l0, if_pos (by omega), if_pos (by omega), if_pos (by omega), hx, if_neg (by omega), if_neg (by omega), w64 (by omega) (by omega)]
    simp
   ·rw [decide_eq_false h2, Bool.false_and, if_neg (by decide)]
    refine Ev.step (f := fun _ => some 32) (fun k => ?_) (Ev.now _)
    rw [model_checkSample.l0, if_pos (by omega), if_pos (by omega), if_pos (by omega), hx, if_neg (by omega), if_pos (by omega)]
  ·rw [decide_eq_false h1, Bool.false_and, if_neg (by decide)]
   refine Ev.step (f := fun _ => some 32) (fun k => ?_) (Ev.now _)
   rw [model_checkSample.l0, if_pos (by omega), if_pos (by omega), if_pos (by omega), hx, if_pos (by omega)]
theorem Ev.and {α : Type} {g : Nat → Option Bool} {a c : Nat → Option α} {b : Bool} {v : α} (h : Ev g b) (h1 : b = true → Ev a v) (h2 : b = false → Ev c v) : Ev (fun k => (g k).bind fun t => (if t = true then a k else c k)) v := by
 refine Ev.bind (f := fun k t => if t = true then a k else c k) h ?_
 cases b with
 | true => exact Ev.congr (fun k => if_pos rfl) (h1 rfl)
 | false => exact Ev.congr (fun k => if_neg (by decide)) (h2 rfl)
theorem tick_f (a : Int) : model_tick.f a = some (inB a (-1099511627776) 1099511627776) := by
 unfold model_tick.f
 rw [within_f]
 rfl
theorem checkSample_f (id kind : Int) (codec : ByteArray) (scale : Int) (setup : List Int) (lang name : ByteArray) (pr : Int) (edits : List Ed') (refs : List Rf) (samples : List Sm) (i : Nat) (before : Int) (s : Sm) (hi : i < samples.length) (hn : samples.length ≤ 1000000) (hb : 0 < i → (rd_T120 samples ((i : Int) - 1)).f0 = before) :
  Ev (fun k => model_checkSample.f k id kind codec scale setup lang name pr edits refs samples (i : Int) s.f0 s.f1 s.f2 s.f3 s.f4 s.f5) (smV i before s) := by
 have h0 : ∀ b : Bool, Ev (fun k => model_checkSample.j0 k (i : Int) b id kind codec scale setup lang name pr edits refs samples s.f0 s.f1 s.f2 s.f3 s.f4 s.f5) (if b = true then 1 else if 65536 < s.f5.length ∨ 4 < s.f4.length then 2 else if 0 < (i : Int) ∧ s.f0 ≤ before then 31 else if (s.f3 = true ∧ 0 < s.f4.length) ∨ depsB i (-1) s.f4 = false then 32 else 0) := by
  intro b
  cases b with
  | true =>
   rw [if_pos rfl]
   exact Ev.step (fun k => by rw [model_checkSample.j0]) (Ev.congr (fun k => if_pos rfl) (Ev.now _))
  | false =>
   rw [if_neg (by decide)]
   have j1 : ∀ b : Bool, (b = true ↔ (65536 < s.f5.length ∨ 4 < s.f4.length)) → Ev (fun k => model_checkSample.j1 k (i : Int) b id kind codec scale setup lang name pr edits refs samples s.f0 s.f1 s.f2 s.f3 s.f4 s.f5) (if 65536 < s.f5.length ∨ 4 < s.f4.length then 2 else if 0 < (i : Int) ∧ s.f0 ≤ before then 31 else if (s.f3 = true ∧ 0 < s.f4.length) ∨ depsB i (-1) s.f4 = false then 32 else 0) := by
    intro b hbb
    by_cases h1 : 65536 < s.f5.length ∨ 4 < s.f4.length
    ·rw [if_pos h1, hbb.2 h1]
     exact Ev.step (fun k => by rw [model_checkSample.j1]) (Ev.congr (fun k => if_pos rfl) (Ev.now _))
    ·rw [if_neg h1, Bool.eq_false_iff.2 (fun h => h1 (hbb.1 h))]
     have hl4 : s.f4.length ≤ 4 := by omega
     have hd := deps_l (i : Int) s.f4 hl4 s.f4 [] (-1) rfl
     have j3 : Ev (fun k => model_checkSample.j3 k (i : Int) s.f0 s.f1 s.f2 s.f3 s.f4 s.f5) (if depsB i (-1) s.f4 = true then 0 else 32) := Ev.step (fun k => by rw [model_checkSample.j3]; rfl) hd
     have j2 : ∀ b : Bool, (b = true ↔ (0 < (i : Int) ∧ s.f0 ≤ before)) → Ev (fun k => model_checkSample.j2 k (i : Int) b s.f0 s.f1 s.f2 s.f3 s.f4 s.f5) (if 0 < (i : Int) ∧ s.f0 ≤ before then 31 else if (s.f3 = true ∧ 0 < s.f4.length) ∨ depsB i (-1) s.f4 = false then 32 else 0) := by
      intro b hb2
      by_cases h2 : 0 < (i : Int) ∧ s.f0 ≤ before
      ·rw [if_pos h2, hb2.2 h2]
       exact Ev.step (fun k => by rw [model_checkSample.j2]) (Ev.congr (fun k => if_pos rfl) (Ev.now _))
      ·rw [if_neg h2, Bool.eq_false_iff.2 (fun h => h2 (hb2.1 h))]
       refine Ev.step (fun k => by rw [model_checkSample.j2]) (Ev.congr (fun k => if_neg (by decide)) ?_)
       by_cases h3 : s.f3 = true
       ·refine Ev.congr (fun k => if_pos h3) ?_
        by_cases h4 : 0 < s.f4.length
        ·rw [if_pos (.inl ⟨h3, h4⟩)]
         exact Ev.congr (fun k => if_pos (by omega)) (Ev.now _)
        ·refine Ev.congr (fun k => if_neg (by omega)) ?_
         by_cases h5 : depsB i (-1) s.f4 = true
         ·rw [if_neg (by rintro (⟨_, h⟩ | h) <;> simp_all)]
          rw [if_pos h5] at j3
          exact j3
         ·rw [if_pos (.inr (Bool.eq_false_iff.2 h5))]
          rw [if_neg h5] at j3
          exact j3
       ·refine Ev.congr (fun k => if_neg h3) ?_
        by_cases h5 : depsB i (-1) s.f4 = true
        ·rw [if_neg (by rintro (⟨h, _⟩ | h) <;> simp_all)]
         rw [if_pos h5] at j3
         exact j3
        ·rw [if_pos (.inr (Bool.eq_false_iff.2 h5))]
         rw [if_neg h5] at j3
         exact j3
     refine Ev.step (fun k => by rw [model_checkSample.j1]) (Ev.congr (fun k => if_neg (by decide)) ?_)
     by_cases h2 : 0 < i
     ·have hw : wrap64 ((i : Int) - 1) = (i : Int) - 1 := w64 (by omega) (by omega)
      refine Ev.congr (fun k => if_pos (by omega)) ?_
      rw [hw]
      refine Ev.congr (fun k => if_pos (by omega)) (Ev.congr (fun k => if_pos (by omega)) (j2 _ ?_))
      rw [decide_eq_true_eq, hb h2]
      exact ⟨fun h => ⟨by omega, h⟩, fun h => h.2⟩
     ·refine Ev.congr (fun k => if_neg (by omega)) (j2 _ ?_)
      exact ⟨fun h => by (cases h), fun h => by omega⟩
   refine Ev.step (fun k => by rw [model_checkSample.j0]) (Ev.congr (fun k => if_neg (by decide)) ?_)
   by_cases h1 : 65536 < s.f5.length
   ·exact Ev.congr (fun k => if_pos (by omega)) (j1 _ ⟨fun _ => .inl h1, fun _ => rfl⟩)
   ·refine Ev.congr (fun k => if_neg (by omega)) (j1 _ ?_)
    rw [decide_eq_true_eq]
    omega
 unfold smV
 refine Ev.congr (f := fun k => (some (inB s.f0 (-1099511627776) 1099511627776)).bind fun t => (if t = true then ((some (inB s.f1 (-1099511627776) 1099511627776)).bind fun t => (if t = true then ((some (inB s.f2 0 1099511627776)).bind fun t => (model_checkSample.j0 k (i : Int) (!t) id kind codec scale setup lang name pr edits refs samples s.f0 s.f1 s.f2 s.f3 s.f4 s.f5)) else (model_checkSample.j0 k (i : Int) true id kind codec scale setup lang name pr edits refs samples s.f0 s.f1 s.f2 s.f3 s.f4 s.f5))) else (model_checkSample.j0 k (i : Int) true id kind codec scale setup lang name pr edits refs samples s.f0 s.f1 s.f2 s.f3 s.f4 s.f5))) (fun k => ?_) ?_
 ·unfold model_checkSample.f
  rw [tick_f, tick_f, within_f]
 have off := h0 true
 rw [if_pos rfl] at off
 generalize inB s.f0 (-1099511627776) 1099511627776 = c0
 generalize inB s.f1 (-1099511627776) 1099511627776 = c1
 generalize inB s.f2 0 1099511627776 = c2
 cases c0 with
 | false => exact off
 | true =>
  cases c1 with
  | false => exact off
  | true =>
   cases c2 with
   | false => exact off
   | true => exact h0 false
theorem rdeps_l (i : Int) (l : List Int) (hl : l.length ≤ 4) (a b c : Int) (sy : Bool) (data : List Int) : ∀ (rest pre : List Int) (last : Int), l = pre ++ rest → -1 ≤ last → (pre = [] → last = -1) → (0 < pre.length → rd l ((pre.length : Int) - 1) = last) → Ev (fun k => dioramaref03_sample.l0 k i (pre.length : Int) a b c sy l data) (if depsB i last rest = true then (if sy = true ∧ 0 < l.length then 32 else 0) else 32)
 | [], pre, last, h, _, _, _ => by
  rw [depsB, if_pos rfl]
  have : l.length = pre.length := by rw [h]; simp
  by_cases h1 : sy = true ∧ 0 < l.length
  ·rw [if_pos h1]
   refine Ev.step (f := fun _ => some 32) (fun k => ?_) (Ev.now _)
   rw [dioramaref03_sample.l0, if_neg (by omega), if_pos h1.1, if_pos (by omega)]
  ·rw [if_neg h1]
   refine Ev.step (f := fun _ => some 0) (fun k => ?_) (Ev.now _)
   rw [dioramaref03_sample.l0, if_neg (by omega)]
   by_cases h2 : sy = true
   ·rw [if_pos h2, if_neg (fun hc => h1 ⟨h2, by omega⟩)]
   ·rw [if_neg h2]
 | d :: t, pre, last, h, hlo, h0, hp => by
  have hlen : l.length = pre.length + (t.length + 1) := by rw [h]; simp
  have hx : rd l (pre.length : Int) = d := by rw [h]; exact rd_mid
  have hx2 : rd l (((pre ++ [d]).length : Nat) - 1 : Int) = d := by
   rw [List.length_append]
   simp only [List.length_cons, List.length_nil]
   rw [show ((pre.length + (0 + 1) : Nat) : Int) - 1 = (pre.length : Int) by omega]
   exact hx
  have hw2 : wrap64 ((pre.length : Int) + 1) = ((pre ++ [d]).length : Nat) := by
   rw [w64 (by omega) (by omega)]
   simp
  have hw : 0 < pre.length → wrap64 ((pre.length : Int) - 1) = (pre.length : Int) - 1 := fun _ => w64 (by omega) (by omega)
  rw [depsB]
  by_cases h1 : last < d
  ·rw [decide_eq_true h1, Bool.true_and]
   by_cases h2 : d < i
   ·rw [decide_eq_true h2, Bool.true_and]
    have ih := rdeps_l i l hl a b c sy data t (pre ++ [d]) d (by rw [h]; simp) (by omega) (by simp) (fun _ => hx2)
    refine Ev.step (fun k => ?_) ih
    rw [dioramaref03_sample.l0, if_pos (by omega), if_pos (by omega), hx, if_neg (by omega), if_neg (by omega), hw2]
    by_cases h3 : 0 < pre.length
    ·rw [if_pos (by omega), hw h3, if_pos (by omega), if_pos (by omega), hp h3, if_neg (by omega)]
    ·rw [if_neg (by omega)]
   ·rw [decide_eq_false h2, Bool.false_and, if_neg (by decide)]
    refine Ev.step (f := fun _ => some 32) (fun k => ?_) (Ev.now _)
    rw [dioramaref03_sample.l0, if_pos (by omega), if_pos (by omega), hx, if_neg (by omega), if_pos (by omega)]
  ·rw [decide_eq_false h1, Bool.false_and, if_neg (by decide)]
   refine Ev.step (f := fun _ => some 32) (fun k => ?_) (Ev.now _)
   rw [dioramaref03_sample.l0, if_pos (by omega), if_pos (by omega), hx]
   by_cases h3 : d < 0
   ·rw [if_pos h3]
   ·rw [if_neg h3]
    by_cases h4 : d ≥ i
    ·rw [if_pos h4]
    ·rw [if_neg h4]
     have h5 : 0 < pre.length := by
      refine Nat.pos_of_ne_zero fun hz => ?_
      have := h0 (List.eq_nil_of_length_eq_zero hz)
      omega
     rw [if_pos (by omega), hw h5, if_pos (by omega), if_pos (by omega), hp h5, if_pos (by omega)]
theorem rsample_f (i : Nat) (before : Int) (s : Sm) : Ev (fun k => dioramaref03_sample.f k s.f0 s.f1 s.f2 s.f3 s.f4 s.f5 (i : Int) before) (smV i before s) := by
 have h0 : ∀ b : Bool, Ev (fun k => dioramaref03_sample.j0 k (i : Int) before b s.f0 s.f1 s.f2 s.f3 s.f4 s.f5) (if b = true then 1 else if 65536 < s.f5.length ∨ 4 < s.f4.length then 2 else if 0 < (i : Int) ∧ s.f0 ≤ before then 31 else if (s.f3 = true ∧ 0 < s.f4.length) ∨ depsB i (-1) s.f4 = false then 32 else 0) := by
  intro b
  cases b with
  | true =>
   rw [if_pos rfl]
   exact Ev.step (fun k => by rw [dioramaref03_sample.j0]) (Ev.congr (fun k => if_pos rfl) (Ev.now _))
  | false =>
   rw [if_neg (by decide)]
   have j1 : ∀ b : Bool, (b = true ↔ (65536 < s.f5.length ∨ 4 < s.f4.length)) → Ev (fun k => dioramaref03_sample.j1 k (i : Int) before b s.f0 s.f1 s.f2 s.f3 s.f4 s.f5) (if 65536 < s.f5.length ∨ 4 < s.f4.length then 2 else if 0 < (i : Int) ∧ s.f0 ≤ before then 31 else if (s.f3 = true ∧ 0 < s.f4.length) ∨ depsB i (-1) s.f4 = false then 32 else 0) := by
    intro b hbb
    by_cases h1 : 65536 < s.f5.length ∨ 4 < s.f4.length
    ·rw [if_pos h1, hbb.2 h1]
     exact Ev.step (fun k => by rw [dioramaref03_sample.j1]) (Ev.congr (fun k => if_pos rfl) (Ev.now _))
    ·rw [if_neg h1, Bool.eq_false_iff.2 (fun h => h1 (hbb.1 h))]
     have hl4 : s.f4.length ≤ 4 := by omega
     have hd := rdeps_l (i : Int) s.f4 hl4 s.f0 s.f1 s.f2 s.f3 s.f5 s.f4 [] (-1) rfl (by omega) (fun _ => rfl) (fun h => by cases h)
     have j2 : ∀ b : Bool, (b = true ↔ (0 < (i : Int) ∧ s.f0 ≤ before)) → Ev (fun k => dioramaref03_sample.j2 k (i : Int) b s.f0 s.f1 s.f2 s.f3 s.f4 s.f5) (if 0 < (i : Int) ∧ s.f0 ≤ before then 31 else if (s.f3 = true ∧ 0 < s.f4.length) ∨ depsB i (-1) s.f4 = false then 32 else 0) := by
      intro b hb2
      by_cases h2 : 0 < (i : Int) ∧ s.f0 ≤ before
      ·rw [if_pos h2, hb2.2 h2]
       exact Ev.step (fun k => by rw [dioramaref03_sample.j2]) (Ev.congr (fun k => if_pos rfl) (Ev.now _))
      ·rw [if_neg h2, Bool.eq_false_iff.2 (fun h => h2 (hb2.1 h))]
       refine Ev.step (f := fun k => dioramaref03_sample.l0 k (i : Int) (([] : List Int).length : Int) s.f0 s.f1 s.f2 s.f3 s.f4 s.f5) (fun k => by rw [dioramaref03_sample.j2, if_neg (by decide)]; rfl) ?_
       by_cases h5 : depsB i (-1) s.f4 = true
       ·rw [if_pos h5] at hd
        by_cases h4 : s.f3 = true ∧ 0 < s.f4.length
        ·rw [if_pos h4] at hd
         rw [if_pos (.inl h4)]
         exact hd
        ·rw [if_neg h4] at hd
         rw [if_neg (by rintro (h | h) <;> simp_all)]
         exact hd
       ·rw [if_neg h5] at hd
        rw [if_pos (.inr (Bool.eq_false_iff.2 h5))]
        exact hd
     refine Ev.step (fun k => by rw [dioramaref03_sample.j1]) (Ev.congr (fun k => if_neg (by decide)) ?_)
     by_cases h2 : 0 < i
     ·refine Ev.congr (fun k => if_pos (by omega)) (j2 _ ?_)
      rw [decide_eq_true_eq]
      exact ⟨fun h => ⟨by omega, h⟩, fun h => h.2⟩
     ·refine Ev.congr (fun k => if_neg (by omega)) (j2 _ ?_)
      exact ⟨fun h => by (cases h), fun h => by omega⟩
   refine Ev.step (fun k => by rw [dioramaref03_sample.j0]) (Ev.congr (fun k => if_neg (by decide)) ?_)
   by_cases h1 : 65536 < s.f5.length
   ·exact Ev.congr (fun k => if_pos (by omega)) (j1 _ ⟨fun _ => .inl h1, fun _ => rfl⟩)
   ·refine Ev.congr (fun k => if_neg (by omega)) (j1 _ ?_)
    rw [decide_eq_true_eq]
    omega
 unfold smV
 refine Ev.congr (f := fun k => (some (inB s.f0 (-1099511627776) 1099511627776)).bind fun t => (if t = true then ((some (inB s.f1 (-1099511627776) 1099511627776)).bind fun t => (if t = true then ((some (inB s.f2 0 1099511627776)).bind fun t => (dioramaref03_sample.j0 k (i : Int) before (!t) s.f0 s.f1 s.f2 s.f3 s.f4 s.f5)) else (dioramaref03_sample.j0 k (i : Int) before true s.f0 s.f1 s.f2 s.f3 s.f4 s.f5))) else (dioramaref03_sample.j0 k (i : Int) before true s.f0 s.f1 s.f2 s.f3 s.f4 s.f5))) (fun k => ?_) ?_
 ·unfold dioramaref03_sample.f
  rw [rin_f, rin_f, rin_f]
 have off := h0 true
 rw [if_pos rfl] at off
 generalize inB s.f0 (-1099511627776) 1099511627776 = c0
 generalize inB s.f1 (-1099511627776) 1099511627776 = c1
 generalize inB s.f2 0 1099511627776 = c2
 cases c0 with
 | false => exact off
 | true =>
  cases c1 with
  | false => exact off
  | true =>
   cases c2 with
   | false => exact off
   | true => exact h0 false
theorem redits_l (l : List Ed') (hl : l.length ≤ 20) : ∀ (rest pre : List Ed'), l = pre ++ rest → (∀ x ∈ pre, edB x = true) → Ev (fun k => dioramaref03_edits.l0 k l (sumE pre) (pre.length : Int)) (rest.all edB && decide (sumE l ≤ 1099511627776))
 | [], pre, h, _ => by
  have e : l.length = pre.length := by rw [h]; simp
  have e2 : sumE pre = sumE l := by rw [h, List.append_nil]
  refine Ev.step (f := fun _ => some (decide (sumE l ≤ 1099511627776))) (fun k => ?_) (by simpa using Ev.now _)
  rw [dioramaref03_edits.l0, if_neg (by omega), e2]
 | x :: t, pre, h, hp => by
  have hlen : l.length = pre.length + (t.length + 1) := by rw [h]; simp
  have hx : rd_T77 l (pre.length : Int) = x := by rw [h]; exact rdE_mid pre x t
  have hs := sumE_rng pre hp
  have bad : ∀ (b : Bool) (acc : Int), (b = true ∨ (x.f1 = -1 ∧ (x.f2 ≠ 1 ∨ x.f3 ≠ 1))) → Ev (fun k => dioramaref03_edits.j1 k l acc (pre.length : Int) b x.f0 x.f1 x.f2 x.f3) false := by
   intro b acc hb
   refine Ev.step (f := fun _ => some false) (fun k => ?_) (Ev.now _)
   rw [dioramaref03_edits.j1]
   rcases hb with hb | ⟨h1, h2⟩
   ·rw [if_pos hb]
   ·by_cases hb2 : b = true
    ·rw [if_pos hb2]
    ·rw [if_neg hb2, if_pos h1]
     by_cases h3 : x.f2 = 1
     ·rw [if_pos h3, if_neg (h2.resolve_left (fun hc => hc h3))]
     ·rw [if_neg h3]
  refine Ev.congr (f := fun k => dioramaref03_edits.l0 k l (sumE pre) (pre.length : Int)) (fun _ => rfl) ?_
  refine Ev.step (f := fun k => (some (inB x.f0 1 1099511627776)).bind fun t => (if t = true then ((some (inB x.f1 (-1) 1099511627776)).bind fun t => (if t = true then ((some (inB x.f2 0 1000)).bind fun t => (if t = true then ((some (inB x.f3 1 1000)).bind fun t => (dioramaref03_edits.j1 k l (sumE pre) (pre.length : Int) (!t) x.f0 x.f1 x.f2 x.f3)) else (dioramaref03_edits.j1 k l (sumE pre) (pre.length : Int) true x.f0 x.f1 x.f2 x.f3))) else (dioramaref03_edits.j1 k l (sumE pre) (pre.length : Int) true x.f0 x.f1 x.f2 x.f3))) else (dioramaref03_edits.j1 k l (sumE pre) (pre.length : Int) true x.f0 x.f1 x.f2 x.f3))) (fun k => ?_) ?_
  ·rw [dioramaref03_edits.l0, if_pos (by omega), if_pos (by omega), hx, rin_f, rin_f, rin_f, rin_f]
  by_cases hv : edB x = true
  ·have hf := ed_is hv
   have ih := redits_l l hl t (pre ++ [x]) (by rw [h]; simp) (fun y hy => by
    rcases List.mem_append.1 hy with h | h
    ·exact hp y h
    ·rw [List.mem_singleton.1 h]; exact hv)
   rw [List.all_cons, hv, Bool.true_and]
   unfold edB at hv
   simp only [Bool.and_eq_true] at hv
   obtain ⟨v0, v1, v2, v3, v4⟩ := hv
   rw [v0, v1, v2, v3]
   refine Ev.step (fun k => ?_) ih
   show dioramaref03_edits.j1 (k + 1) l (sumE pre) (pre.length : Int) false x.f0 x.f1 x.f2 x.f3 = _
   have e1 : wrap64 (sumE pre + x.f0) = sumE (pre ++ [x]) := by
    rw [w64 (by omega) (by omega), sumE_app]
    simp [sumE]
   have e2 : wrap64 ((pre.length : Int) + 1) = ((pre ++ [x]).length : Nat) := by
    rw [w64 (by omega) (by omega)]
    simp
   rw [dioramaref03_edits.j1, if_neg (by decide), e1, e2]
   simp only [beq_iff_eq, Bool.and_eq_false_iff, decide_eq_false_iff_not, Bool.or_eq_false_iff, ne_eq, Decidable.not_not] at v4
   by_cases h1 : x.f1 = -1
   ·rw [if_pos h1]
    rcases v4 with v4 | v4
    ·exact absurd h1 v4
    ·rw [if_pos v4.1, if_pos v4.2]
   ·rw [if_neg h1]
  ·rw [List.all_cons, Bool.eq_false_iff.2 hv, Bool.false_and, Bool.false_and]
   unfold edB at hv
   cases c0 : inB x.f0 1 1099511627776 with
   | false => exact bad _ _ (.inl rfl)
   | true =>
    cases c1 : inB x.f1 (-1) 1099511627776 with
    | false => exact bad _ _ (.inl rfl)
    | true =>
     cases c2 : inB x.f2 0 1000 with
     | false => exact bad _ _ (.inl rfl)
     | true =>
      cases c3 : inB x.f3 1 1000 with
      | false => exact bad _ _ (.inl rfl)
      | true =>
       rw [c0, c1, c2, c3] at hv
       refine bad _ _ (.inr ?_)
       simp only [Bool.true_and, beq_iff_eq, Bool.not_eq_false, Bool.and_eq_true, decide_eq_true_eq, Bool.or_eq_true] at hv
       exact hv
theorem redits_f (l : List Ed') (hl : l.length ≤ 20) : Ev (fun k => dioramaref03_edits.f k l) (edsB l) := redits_l l hl l [] rfl (by simp)
section
variable (id kind : Int) (codec : ByteArray) (scale : Int) (setup : List Int) (lang name : ByteArray) (pr : Int) (edits : List Ed') (refs : List Rf) (samples : List Sm)
theorem rrefs_l (hrl : refs.length ≤ maxLen) (hr : ∀ r ∈ refs, Bs r.f0) : ∀ (rest pre : List Rf), refs = pre ++ rest → Ev (fun k => dioramaref03_fields.l0 k (pre.length : Int) id kind codec scale setup lang name pr edits refs samples) (rfsB rest)
 | [], pre, h => by
  have e : refs.length = pre.length := by rw [h]; simp
  refine Ev.step (f := fun _ => some true) (fun k => ?_) (Ev.now _)
  rw [dioramaref03_fields.l0, if_neg (by omega)]
 | x :: t, pre, h => by
  have hlen : refs.length = pre.length + (t.length + 1) := by rw [h]; simp
  have hx : rd_T150 refs (pre.length : Int) = x := by rw [h]; exact rdR_mid pre x t
  have hm := max_is
  have e2 : wrap64 ((pre.length : Int) + 1) = ((pre ++ [x]).length : Nat) := by
   rw [w64 (by omega) (by omega)]
   simp
  refine Ev.step (f := fun k => (dioramaref03_Letters.f k x.f0).bind fun t => (if t = true then (dioramaref03_fields.l0 k ((pre ++ [x]).length : Nat) id kind codec scale setup lang name pr edits refs samples) else (some false))) (fun k => ?_) ?_
  ·rw [dioramaref03_fields.l0, if_pos (by omega), if_pos (by omega), hx, e2]
  ·refine Ev.and (rletters_f x.f0 (hr x (by rw [h]; simp))) (fun hb => ?_) (fun hb => ?_)
   ·have ih := rrefs_l hrl hr t (pre ++ [x]) (by rw [h]; simp)
    rw [show rfsB (x :: t) = rfsB t by unfold rfsB; rw [List.all_cons, hb, Bool.true_and]]
    exact ih
   ·rw [show rfsB (x :: t) = false by unfold rfsB; rw [List.all_cons, hb, Bool.false_and]]
    exact Ev.now _
theorem rfields_f (h1 : Bs codec) (h2 : Bs lang) (h3 : Bs name) (hrl : refs.length ≤ maxLen) (hr : ∀ r ∈ refs, Bs r.f0) : Ev (fun k => dioramaref03_fields.f k id kind codec scale setup lang name pr edits refs samples) (fldB id kind codec scale lang name pr && rfsB refs) := by
 have off : Ev (fun k => dioramaref03_fields.j0 k true id kind codec scale setup lang name pr edits refs samples) false := Ev.step (fun k => by rw [dioramaref03_fields.j0]) (Ev.congr (fun k => if_pos rfl) (Ev.now _))
 have on : Ev (fun k => dioramaref03_fields.j0 k false id kind codec scale setup lang name pr edits refs samples) (rfsB refs) := by
  refine Ev.step (fun k => ?_) (rrefs_l id kind codec scale setup lang name pr edits refs samples hrl hr refs [] rfl)
  rw [dioramaref03_fields.j0, if_neg (by decide)]
  rfl
 unfold fldB
 unfold dioramaref03_fields.f
 simp only [rin_f, Option.bind_some]
 cases c0 : inB id 1 1000 with
 | false => exact Ev.congr (fun k => if_neg (by decide)) off
 | true =>
 refine Ev.congr (fun k => if_pos rfl) ?_
 cases c1 : inB kind 1 7 with
 | false => exact Ev.congr (fun k => if_neg (by decide)) off
 | true =>
 refine Ev.congr (fun k => if_pos rfl) (Ev.and (rletters_f codec h1) (fun c2 => ?_) (fun c2 => by rw [c2]; exact off))
 rw [c2]
 cases c3 : inB scale 1 1000000 with
 | false => exact Ev.congr (fun k => if_neg (by decide)) off
 | true =>
 refine Ev.congr (fun k => if_pos rfl) (Ev.and (rlang_f lang h2) (fun c4 => ?_) (fun c4 => by rw [c4]; exact off))
 rw [c4]
 refine Ev.and (rname_f name h3) (fun c5 => ?_) (fun c5 => by rw [c5]; exact off)
 rw [c5]
 cases c6 : inB pr 0 1099511627776 with
 | false => exact off
 | true => exact on
theorem rsamples_l (hn : samples.length ≤ 400) : ∀ (rest pre : List Sm) (before : Int), samples = pre ++ rest → Ev (fun k => dioramaref03_CheckTrack.l0 k before (pre.length : Int) id kind codec scale setup lang name pr edits refs samples) (smsV pre.length before rest)
 | [], pre, before, h => by
  have e : samples.length = pre.length := by rw [h]; simp
  refine Ev.step (f := fun _ => some 0) (fun k => ?_) (Ev.now _)
  rw [dioramaref03_CheckTrack.l0, if_neg (by omega)]
 | x :: t, pre, before, h => by
  have hlen : samples.length = pre.length + (t.length + 1) := by rw [h]; simp
  have hx : rd_T120 samples (pre.length : Int) = x := by rw [h]; exact rdS_mid pre x t
  have ih := rsamples_l hn t (pre ++ [x]) x.f0 (by rw [h]; simp)
  have e2 : wrap64 ((pre.length : Int) + 1) = ((pre ++ [x]).length : Nat) := by
   rw [w64 (by omega) (by omega)]
   simp
  refine Ev.step (f := fun k => (dioramaref03_sample.f k x.f0 x.f1 x.f2 x.f3 x.f4 x.f5 (pre.length : Int) before).bind fun t => (if t = 0 then (dioramaref03_CheckTrack.l0 k x.f0 ((pre ++ [x]).length : Nat) id kind codec scale setup lang name pr edits refs samples) else (some t))) (fun k => ?_) ?_
  ·rw [dioramaref03_CheckTrack.l0, if_pos (by omega), if_pos (by omega), hx, e2]
  ·refine Ev.bind (rsample_f pre.length before x) ?_
   rw [smsV]
   by_cases h0 : smV (pre.length : Int) before x = 0
   ·rw [if_pos h0]
    refine Ev.congr (fun k => if_pos h0) ?_
    have e3 : (pre ++ [x]).length = pre.length + 1 := by simp
    rw [← e3]
    exact ih
   ·rw [if_neg h0]
    exact Ev.congr (fun k => if_neg h0) (Ev.now _)
theorem rCheckTrack_f (h1 : Bs codec) (h2 : Bs lang) (h3 : Bs name) (hrl : refs.length ≤ maxLen) (hr : ∀ r ∈ refs, Bs r.f0) : Ev (fun k => dioramaref03_CheckTrack.f k id kind codec scale setup lang name pr edits refs samples) (chkT id kind codec scale setup lang name pr edits refs samples) := by
 have hj : ∀ b : Bool, b = limB setup edits refs samples → Ev (fun k => dioramaref03_CheckTrack.j0 k b id kind codec scale setup lang name pr edits refs samples) (if limB setup edits refs samples = true then 2 else if edsB edits = true then smsV 0 0 samples else 33) := by
  intro b hb
  rw [← hb]
  cases b with
  | true =>
   rw [if_pos rfl]
   exact Ev.step (fun k => by rw [dioramaref03_CheckTrack.j0]) (Ev.congr (fun k => if_pos rfl) (Ev.now _))
  | false =>
   rw [if_neg (by decide)]
   have hb2 := hb.symm
   unfold limB at hb2
   simp only [Bool.or_eq_false_iff, decide_eq_false_iff_not] at hb2
   refine Ev.step (fun k => by rw [dioramaref03_CheckTrack.j0]) (Ev.congr (fun k => if_neg (by decide)) ?_)
   refine Ev.and (redits_f edits (by omega)) (fun hb => ?_) (fun hb => ?_)
   ·rw [if_pos hb]
    exact rsamples_l id kind codec scale setup lang name pr edits refs samples (by omega) samples [] 0 rfl
   ·rw [if_neg (by rw [hb]; decide)]
    exact Ev.now _
 unfold chkT
 refine Ev.congr (fun k => rfl) (Ev.and (rfields_f id kind codec scale setup lang name pr edits refs samples h1 h2 h3 hrl hr) (fun hb => ?_) (fun hb => ?_))
 ·rw [if_pos hb]
  by_cases h1 : 1000 < setup.length
  ·exact Ev.congr (fun k => if_pos (by omega)) (hj true (by unfold limB; rw [decide_eq_true h1]; rfl))
  refine Ev.congr (fun k => if_neg (by omega)) ?_
  by_cases h2 : 20 < edits.length
  ·exact Ev.congr (fun k => if_pos (by omega)) (hj true (by unfold limB; rw [decide_eq_false h1, decide_eq_true h2]; rfl))
  refine Ev.congr (fun k => if_neg (by omega)) ?_
  by_cases h3 : 8 < refs.length
  ·exact Ev.congr (fun k => if_pos (by omega)) (hj true (by unfold limB; rw [decide_eq_false h1, decide_eq_false h2, decide_eq_true h3]; rfl))
  refine Ev.congr (fun k => if_neg (by omega)) (hj _ ?_)
  unfold limB
  rw [decide_eq_false h1, decide_eq_false h2, decide_eq_false h3, Bool.false_or, Bool.false_or, Bool.false_or, Bool.eq_iff_iff, decide_eq_true_eq, decide_eq_true_eq]
  omega
 ·rw [if_neg (by rw [hb]; decide)]
  exact Ev.now _
end
end Go.Proofs.Ytpbhepdgamoiaaa.Tk
namespace Go.Proofs.Ytpbhepdgamoiaaa.Pa
open Go.RowKit Go.Proofs.Ytpbhepdgamoiaaa.P Go.Proofs.Ytpbhepdgamoiaaa.E Go.Proofs.YtpbhepdgamoiaaaW.PrintWords Go.Proofs.YtpbhepdgamoiaaaW.PrintLast Go.Proofs.Ytpbhepdgamoiaaa.Ml Go.Proofs.Ytpbhepdgamoiaaa.Mn
set_option linter.unusedVariables false
set_option linter.unusedSimpArgs false
abbrev Bd : Int := 1000000000
abbrev Nn (l : List Int) : Prop := Cn 1000000000 l
theorem top_cons {x : Int} {l : List Int} (h : Top l) (hx : l = [] → x ≠ 0) : Top (x :: l) := by
 intro hne
 cases l with
 | nil => simpa using hx rfl
 | cons y t =>
  rw [List.getLast_cons (by simp)]
  exact h (by simp)
theorem digit_f (l : List Int) (i : Nat) : dioramaref02_digit.f l (i : Int) = some (l.getD i 0) := by
 unfold dioramaref02_digit.f
 by_cases h : i < l.length
 ·rw [if_pos (by omega), if_pos (by omega), rd_nat]
 ·rw [if_neg (by omega), getD_ge (by omega)]
theorem tmodB {x : Int} (h : 0 ≤ x) : Int.tmod x 1000000000 = x % 1000000000 := Int.tmod_eq_emod_of_nonneg h
theorem tdivB {x : Int} (h : 0 ≤ x) : Int.tdiv x 1000000000 = x / 1000000000 := Int.tdiv_eq_ediv_of_nonneg h
theorem of_l (m : Nat) : ∀ (x : Int) (acc : List Int), 0 ≤ x → x < pw 1000000000 m → x ≤ 9223372036854775807 → acc.length + m ≤ 1000 → ∃ r, Ev (fun k => dioramaref02_Of.l0 k x acc) (acc ++ r) ∧ Nn r ∧ dv 1000000000 r = x ∧ r.length ≤ m := by
 induction m with
 | zero =>
  intro x acc h0 h1 _ _
  have hx : x = 0 := by simp [pw] at h1; omega
  subst hx
  exact ⟨[], Ev.step (f := fun _ => some (acc ++ [])) (fun k => by simp [dioramaref02_Of.l0]) (Ev.now _), Cn.nil _, rfl, Nat.le_refl _⟩
 | succ m ih =>
  intro x acc h0 h1 h2 hl
  by_cases hx : x = 0
  ·subst hx
   exact ⟨[], Ev.step (f := fun _ => some (acc ++ [])) (fun k => by simp [dioramaref02_Of.l0]) (Ev.now _), Cn.nil _, rfl, Nat.zero_le _⟩
  ·have hd : x / 1000000000 < pw 1000000000 m := by
    rw [pw_succ] at h1
    omega
   obtain ⟨r, he, hc, hv, hr⟩ := ih (x / 1000000000) (acc ++ [x % 1000000000]) (by omega) hd (by omega) (by simp; omega)
   refine ⟨x % 1000000000 :: r, ?_, ⟨Dg.cons (by omega) (by omega) hc.dg, top_cons hc.top (fun h => ?_)⟩, ?_, by simp; omega⟩
   ·rw [List.append_assoc, List.singleton_append] at he
    refine Ev.step (fun k => ?_) he
    simp only [dioramaref02_Of.l0]
    rw [if_pos (by omega), if_pos (by omega), tdivB h0, tmodB h0, w64 (by omega) (by omega)]
   ·subst h
    simp only [dv] at hv
    omega
   ·simp only [dv] at hv ⊢
    rw [hv]
    omega
theorem of_f (x : Int) (h0 : 0 ≤ x) (h1 : x ≤ 9223372036854775807) : ∃ r, Ev (fun k => dioramaref02_Of.f k x) r ∧ Nn r ∧ dv 1000000000 r = x ∧ r.length ≤ 3 := by
 obtain ⟨r, he, h⟩ := of_l 3 x [] h0 (by simp [pw]; omega) h1 (by simp)
 exact ⟨r, he, h⟩
theorem trimmed_l (l : List Int) (hd : Dg 1000000000 l) (hl : l.length ≤ 1000000) : ∀ n : Nat, n ≤ l.length → dv 1000000000 (l.take n) = dv 1000000000 l → ∃ r, Ev (fun k => dioramaref02_trimmed.l0 k l (n : Int)) r ∧ Nn r ∧ dv 1000000000 r = dv 1000000000 l ∧ r.length ≤ n := by
 intro n
 induction n with
 | zero =>
  intro _ hv
  refine ⟨[], Ev.step (f := fun _ => some []) (fun k => ?_) (Ev.now _), Cn.nil _, by rw [← hv]; rfl, Nat.le_refl _⟩
  simp [dioramaref02_trimmed.l0]
 | succ n ih =>
  intro hn hv
  have hw : wrap64 (((n + 1 : Nat) : Int) - 1) = (n : Int) := by rw [w64 (by omega) (by omega)]; omega
  by_cases hz : l.getD n 0 = 0
  ·obtain ⟨r, he, hc, hr, hlr⟩ := ih (by omega) (by rw [← hv] ; rw [dv_take_succ', hz]; omega)
   refine ⟨r, Ev.step (fun k => ?_) he, hc, hr, by omega⟩
   simp only [dioramaref02_trimmed.l0, hw, rd_nat]
   rw [if_pos (by omega), if_pos (by omega), if_pos (by omega), if_pos hz]
  ·refine ⟨l.take (n + 1), Ev.step (f := fun _ => some (l.take (n + 1))) (fun k => ?_) (Ev.now _), ⟨hd.take _, top_of_getD ?_⟩, hv, by simp; omega⟩
   ·simp only [dioramaref02_trimmed.l0, hw, rd_nat]
    rw [if_pos (by omega), if_pos (by omega), if_pos (by omega), if_neg hz, if_pos (by omega), if_pos (by omega), Int.toNat_natCast]
   ·rw [List.length_take, Nat.min_eq_left (by omega)]
    simp only [Nat.add_sub_cancel]
    rw [List.getD_eq_getElem?_getD, List.getElem?_take_of_lt (by omega), ← List.getD_eq_getElem?_getD]
    exact hz
theorem trimmed_f (l : List Int) (hd : Dg 1000000000 l) (hl : l.length ≤ 1000000) : ∃ r, Ev (fun k => dioramaref02_trimmed.f k l) r ∧ Nn r ∧ dv 1000000000 r = dv 1000000000 l ∧ r.length ≤ l.length :=
 trimmed_l l hd hl l.length (Nat.le_refl _) (by rw [List.take_length])
theorem cmp1 {x y : Int} (h : x < y) : Nd.cmpI x y = -1 := by unfold Nd.cmpI; rw [if_pos h]
theorem cmp2 {x y : Int} (h : y < x) : Nd.cmpI x y = 1 := by unfold Nd.cmpI; rw [if_neg (by omega), if_pos h]
theorem cmp0 {x y : Int} (h : x = y) : Nd.cmpI x y = 0 := by unfold Nd.cmpI; rw [if_neg (by omega), if_neg (by omega)]
theorem compare_l (a b : List Int) (ha : Dg 1000000000 a) (hb : Dg 1000000000 b) (hl : a.length = b.length) (hn : a.length ≤ 1000000) : ∀ i : Nat, i ≤ a.length → dv 1000000000 (a.drop i) = dv 1000000000 (b.drop i) →
  Ev (fun k => dioramaref02_Compare.l0 k a b ((i : Int) - 1)) (Nd.cmpI (dv 1000000000 a) (dv 1000000000 b)) := by
 intro i
 induction i with
 | zero =>
  intro _ h
  refine Ev.step (f := fun _ => some 0) (fun k => ?_) (by rw [cmp0 (by simpa using h)]; exact Ev.now _)
  simp [dioramaref02_Compare.l0]
 | succ i ih =>
  intro hi h
  have e : (((i + 1 : Nat) : Int) - 1) = (i : Int) := by omega
  have hw : wrap64 ((i : Int) - 1) = (i : Int) - 1 := w64 (by omega) (by omega)
  rw [e]
  rcases Int.lt_trichotomy (a.getD i 0) (b.getD i 0) with h1 | h1 | h1
  ·rw [cmp1 (dv_less (by decide) ha hb hl i (by omega) h h1)]
   refine Ev.step (f := fun _ => some (-1)) (fun k => ?_) (Ev.now _)
   simp only [dioramaref02_Compare.l0, rd_nat]
   rw [if_pos (by omega), if_pos (by omega), if_pos (by omega), if_pos (by omega), if_pos h1]
  ·refine Ev.step (fun k => ?_) (ih (by omega) (by rw [dv_drop _ a i (by omega), dv_drop _ b i (by omega), h1, h]))
   simp only [dioramaref02_Compare.l0, rd_nat, hw]
   rw [if_pos (by omega), if_pos (by omega), if_pos (by omega), if_pos (by omega), if_neg (by omega), if_neg (by omega)]
  ·rw [cmp2 (dv_less (by decide) hb ha hl.symm i (by omega) h.symm h1)]
   refine Ev.step (f := fun _ => some 1) (fun k => ?_) (Ev.now _)
   simp only [dioramaref02_Compare.l0, rd_nat]
   rw [if_pos (by omega), if_pos (by omega), if_pos (by omega), if_pos (by omega), if_neg (by omega), if_pos h1]
theorem compare_f (a b : List Int) (ha : Nn a) (hb : Nn b) (hn : a.length ≤ 1000000) (hm : b.length ≤ 1000000) : Ev (fun k => dioramaref02_Compare.f k a b) (Nd.cmpI (dv 1000000000 a) (dv 1000000000 b)) := by
 by_cases hl : a.length = b.length
 ·have h := compare_l a b ha.dg hb.dg hl hn a.length (Nat.le_refl _) (by rw [List.drop_of_length_le (Nat.le_refl _), List.drop_of_length_le (by omega)])
  refine Ev.congr (fun k => ?_) h
  simp only [dioramaref02_Compare.f]
  rw [if_pos (by omega), w64 (by omega) (by omega)]
 ·by_cases h1 : a.length < b.length
  ·rw [cmp1 (dv_len (by decide) ha.dg hb h1)]
   refine Ev.congr (f := fun _ => some (-1)) (fun k => ?_) (Ev.now _)
   simp only [dioramaref02_Compare.f]
   rw [if_neg (by omega), if_pos (by omega)]
  ·rw [cmp2 (dv_len (by decide) hb.dg ha (by omega))]
   refine Ev.congr (f := fun _ => some 1) (fun k => ?_) (Ev.now _)
   simp only [dioramaref02_Compare.f]
   rw [if_neg (by omega), if_neg (by omega)]
end Go.Proofs.Ytpbhepdgamoiaaa.Pa
namespace Go.Proofs.Ytpbhepdgamoiaaa.Pb
open Go.RowKit Go.Proofs.Ytpbhepdgamoiaaa.P Go.Proofs.Ytpbhepdgamoiaaa.E Go.Proofs.YtpbhepdgamoiaaaW.PrintWords Go.Proofs.YtpbhepdgamoiaaaW.PrintLast Go.Proofs.Ytpbhepdgamoiaaa.Ml Go.Proofs.Ytpbhepdgamoiaaa.Mn Go.Proofs.Ytpbhepdgamoiaaa.Pa
set_option linter.unusedVariables false
set_option linter.unusedSimpArgs false
theorem nv_take_all {l : List Int} {n : Nat} (h : l.length ≤ n) : dv 1000000000 (l.take n) = dv 1000000000 l := by rw [List.take_of_length_le h]
theorem dg_snoc {l : List Int} {x : Int} (h : Dg 1000000000 l) (h0 : 0 ≤ x) (h1 : x < 1000000000) : Dg 1000000000 (l ++ [x]) := h.append (Dg.cons h0 h1 (Dg.nil _))
theorem w1 {i : Nat} (h : i ≤ 10000000) : wrap64 ((i : Int) + 1) = ((i + 1 : Nat) : Int) := by rw [w64 (by omega) (by omega)]; omega
theorem minus_l (a b : List Int) (ha : Dg 1000000000 a) (hb : Dg 1000000000 b) (hn : a.length ≤ 1000000) (hlb : b.length ≤ a.length) (hle : dv 1000000000 b ≤ dv 1000000000 a) :
  ∀ (d i : Nat) (out : List Int) (c : Int), i + d = a.length → out.length = i → Dg 1000000000 out → 0 ≤ c → c ≤ 1 → dv 1000000000 out = dv 1000000000 (a.take i) - dv 1000000000 (b.take i) + c * pw 1000000000 i →
  ∃ r, Ev (fun k => dioramaref02_Minus.l0 k a b out c (i : Int)) r ∧ Nn r ∧ dv 1000000000 r = dv 1000000000 a - dv 1000000000 b ∧ r.length ≤ a.length := by
 intro d
 induction d with
 | zero =>
  intro i out c hi hl hd h0 h1 hv
  obtain ⟨r, he, hc, hr, hlr⟩ := trimmed_f out hd (by omega)
  have hlt := dv_lt (by decide) hd
  rw [hl] at hlt
  rw [nv_take_all (by omega), nv_take_all (by omega)] at hv
  have c0 : c = 0 := by
   rcases (show c = 0 ∨ c = 1 by omega) with h | h
   ·exact h
   ·rw [h] at hv
    omega
  refine ⟨r, Ev.step (f := fun k => (dioramaref02_trimmed.f k out).bind fun t => some t) (fun k => ?_) (Ev.bind he (Ev.now _)), hc, by rw [hr, hv, c0]; omega, by omega⟩
  simp only [dioramaref02_Minus.l0]
  rw [if_neg (by omega)]
 | succ d ih =>
  intro i out c hi hl hd h0 h1 hv
  have hx := ha.getD (by decide) i
  have hy := hb.getD (by decide) i
  have e1 := dv_take_succ' 1000000000 a i
  have e2 := dv_take_succ' 1000000000 b i
  have e3 := pw_succ 1000000000 i
  generalize hxv : a.getD i 0 = x at *
  generalize hyv : b.getD i 0 = y at *
  have hw : wrap64 (wrap64 (x - y) - c) = x - y - c := by rw [w64 (x := x - y) (by omega) (by omega), w64 (by omega) (by omega)]
  have hw2 : wrap64 (x - y - c + 1000000000) = x - y - c + 1000000000 := w64 (by omega) (by omega)
  by_cases hneg : x - y - c < 0
  ·obtain ⟨r, he, h⟩ := ih (i + 1) (out ++ [x - y - c + 1000000000]) 1 (by omega) (by simp [hl]) (dg_snoc hd (by omega) (by omega)) (by decide) (by decide) (by
    rw [dv_snoc, hl, hv, e1, e2, e3]
    grind)
   refine ⟨r, Ev.step (fun k => ?_) he, h⟩
   simp only [dioramaref02_Minus.l0]
   rw [if_pos (by omega), digit_f, digit_f, hxv, hyv]
   simp only [Option.bind_some, hw, hw2]
   rw [if_pos hneg, if_pos (by omega), w1 (by omega)]
  ·obtain ⟨r, he, h⟩ := ih (i + 1) (out ++ [x - y - c]) 0 (by omega) (by simp [hl]) (dg_snoc hd (by omega) (by omega)) (by decide) (by decide) (by
    rw [dv_snoc, hl, hv, e1, e2]
    grind)
   refine ⟨r, Ev.step (fun k => ?_) he, h⟩
   simp only [dioramaref02_Minus.l0]
   rw [if_pos (by omega), digit_f, digit_f, hxv, hyv]
   simp only [Option.bind_some, hw, hw2]
   rw [if_neg hneg, if_pos (by omega), w1 (by omega)]
theorem len_le {a b : List Int} (ha : Nn a) (hb : Nn b) (h : dv 1000000000 b ≤ dv 1000000000 a) : b.length ≤ a.length := by
 refine Nat.le_of_not_lt fun hl => ?_
 have := dv_len (by decide) ha.dg hb hl
 omega
theorem minus_f (a b : List Int) (ha : Nn a) (hb : Nn b) (hn : a.length ≤ 1000000) (hle : dv 1000000000 b ≤ dv 1000000000 a) : ∃ r, Ev (fun k => dioramaref02_Minus.f k a b) r ∧ Nn r ∧ dv 1000000000 r = dv 1000000000 a - dv 1000000000 b ∧ r.length ≤ a.length :=
 minus_l a b ha.dg hb.dg hn (len_le ha hb hle) hle a.length 0 [] 0 (by omega) rfl (Dg.nil _) (by decide) (by decide) (by simp [dv])
theorem plus_l (a b : List Int) (ha : Nn a) (hb : Nn b) (hn : a.length ≤ 1000000) (hm : b.length ≤ 1000000) :
  ∀ (d i : Nat) (out : List Int) (c : Int), i + d = max a.length b.length + 1 → out.length = i → Dg 1000000000 out → 0 ≤ c → c ≤ 1 → (i ≤ max a.length b.length ∨ c = 0) → (i < a.length ∨ i < b.length ∨ 0 < c ∨ Top out) → dv 1000000000 out = dv 1000000000 (a.take i) + dv 1000000000 (b.take i) - c * pw 1000000000 i →
  ∃ r, Ev (fun k => dioramaref02_Plus.l0 k a b out c (i : Int)) r ∧ Nn r ∧ dv 1000000000 r = dv 1000000000 a + dv 1000000000 b ∧ r.length ≤ max a.length b.length + 1 := by
 intro d
 induction d with
 | zero =>
  intro i out c hi hl hd h0 h1 hic ht hv
  have c0 : c = 0 := by omega
  subst c0
  rw [nv_take_all (by omega), nv_take_all (by omega)] at hv
  refine ⟨out, Ev.step (f := fun k => dioramaref02_Plus.j1 k a b out 0 (i : Int) (decide ((0 : Int) > 0))) (fun k => ?_) (Ev.step (f := fun _ => some out) (fun k => ?_) (Ev.now _)), ⟨hd, ?_⟩, by rw [hv]; omega, by omega⟩
  ·simp only [dioramaref02_Plus.l0]
   rw [if_neg (by omega), if_neg (by omega)]
  ·simp [dioramaref02_Plus.j1]
  ·rcases ht with h | h | h | h
   ·omega
   ·omega
   ·omega
   ·exact h
 | succ d ih =>
  intro i out c hi hl hd h0 h1 hic ht hv
  by_cases hgo : i < a.length ∨ i < b.length ∨ 0 < c
  ·have hx := ha.dg.getD (by decide) i
   have hy := hb.dg.getD (by decide) i
   have e1 := dv_take_succ' 1000000000 a i
   have e2 := dv_take_succ' 1000000000 b i
   have e3 := pw_succ 1000000000 i
   have zx : a.length ≤ i → a.getD i 0 = 0 := fun h => getD_ge h
   have zy : b.length ≤ i → b.getD i 0 = 0 := fun h => getD_ge h
   have tx : i + 1 = a.length → a.getD i 0 ≠ 0 := fun h => by have := top_getD ha.top (by omega); rwa [← h, Nat.add_sub_cancel] at this
   have ty : i + 1 = b.length → b.getD i 0 ≠ 0 := fun h => by have := top_getD hb.top (by omega); rwa [← h, Nat.add_sub_cancel] at this
   generalize hxv : a.getD i 0 = x at *
   generalize hyv : b.getD i 0 = y at *
   have hw : wrap64 (wrap64 (x + y) + c) = x + y + c := by rw [w64 (x := x + y) (by omega) (by omega), w64 (by omega) (by omega)]
   have hw2 : wrap64 ((x + y + c) / 1000000000) = (x + y + c) / 1000000000 := w64 (by omega) (by omega)
   obtain ⟨r, he, h⟩ := ih (i + 1) (out ++ [(x + y + c) % 1000000000]) ((x + y + c) / 1000000000) (by omega) (by simp [hl]) (dg_snoc hd (by omega) (by omega)) (by omega) (by omega)
    (by
     by_cases hmx : i < max a.length b.length
     ·left; omega
     ·right
      rw [zx (by omega), zy (by omega)]
      omega)
    (by
     by_cases g1 : i + 1 < a.length
     ·exact .inl g1
     ·by_cases g2 : i + 1 < b.length
      ·exact .inr (.inl g2)
      ·by_cases g3 : 0 < (x + y + c) / 1000000000
       ·exact .inr (.inr (.inl g3))
       ·refine .inr (.inr (.inr (top_of_getD ?_)))
        have hne : (x + y + c) % 1000000000 ≠ 0 := by
         rcases hgo with g | g | g
         ·have := tx (by omega); omega
         ·have := ty (by omega); omega
         ·omega
        simp only [List.length_append, List.length_singleton, Nat.add_sub_cancel]
        rw [List.getD_eq_getElem?_getD, List.getElem?_append_right (Nat.le_refl _)]
        simpa using hne)
    (by
     rw [dv_snoc, hl, hv, e1, e2, e3]
     have hdm := Int.mul_ediv_add_emod (x + y + c) 1000000000
     generalize (x + y + c) / 1000000000 = Q at *
     generalize (x + y + c) % 1000000000 = R at *
     have : R = x + y + c - 1000000000 * Q := by omega
     subst this
     grind)
   refine ⟨r, ?_, h⟩
   have hj : Ev (fun k => dioramaref02_Plus.j1 k a b out c (i : Int) true) r := by
    refine Ev.step (fun k => ?_) he
    simp only [dioramaref02_Plus.j1, if_true]
    rw [digit_f, digit_f, hxv, hyv]
    simp only [Option.bind_some, hw]
    rw [if_pos (by omega), tmodB (by omega), tdivB (by omega), hw2, w1 (by omega)]
   refine Ev.step (fun k => ?_) hj
   simp only [dioramaref02_Plus.l0]
   by_cases g1 : i < a.length
   ·rw [if_pos (by omega)]
   ·rw [if_neg (by omega)]
    by_cases g2 : i < b.length
    ·rw [if_pos (by omega)]
    ·rw [if_neg (by omega), decide_eq_true (show c > 0 by omega)]
  ·have c0 : c = 0 := by omega
   subst c0
   rw [nv_take_all (by omega), nv_take_all (by omega)] at hv
   refine ⟨out, Ev.step (f := fun k => dioramaref02_Plus.j1 k a b out 0 (i : Int) (decide ((0 : Int) > 0))) (fun k => ?_) (Ev.step (f := fun _ => some out) (fun k => ?_) (Ev.now _)), ⟨hd, ?_⟩, by rw [hv]; omega, by omega⟩
   ·simp only [dioramaref02_Plus.l0]
    rw [if_neg (by omega), if_neg (by omega)]
   ·simp [dioramaref02_Plus.j1]
   ·rcases ht with h | h | h | h
    ·omega
    ·omega
    ·omega
    ·exact h
theorem plus_f (a b : List Int) (ha : Nn a) (hb : Nn b) (hn : a.length ≤ 1000000) (hm : b.length ≤ 1000000) : ∃ r, Ev (fun k => dioramaref02_Plus.f k a b) r ∧ Nn r ∧ dv 1000000000 r = dv 1000000000 a + dv 1000000000 b ∧ r.length ≤ max a.length b.length + 1 :=
 plus_l a b ha hb hn hm (max a.length b.length + 1) 0 [] 0 (by omega) rfl (Dg.nil _) (by decide) (by decide) (.inr rfl) (.inr (.inr (.inr (fun h => absurd rfl h)))) (by simp [dv])
theorem mulB {c x y o : Int} (hc0 : 0 ≤ c) (hc1 : c < 1000000000) (hx0 : 0 ≤ x) (hx1 : x < 1000000000) (hy0 : 0 ≤ y) (hy1 : y < 1000000000) (ho0 : 0 ≤ o) (ho1 : o < 1000000000) :
  wrap64 (wrap64 (o + wrap64 (x * y)) + c) = o + x * y + c ∧ 0 ≤ o + x * y + c ∧ wrap64 (Int.tdiv (o + x * y + c) 1000000000) = (o + x * y + c) / 1000000000 ∧ (o + x * y + c) / 1000000000 < 1000000000 := by
 obtain ⟨h1, h2⟩ := mul_lt_sq hx0 hx1 hy0 hy1
 have h2' : x * y ≤ 999999998000000001 := h2
 rw [w64 (x := x * y) (by omega) (by omega), w64 (x := o + x * y) (by omega) (by omega), w64 (x := o + x * y + c) (by omega) (by omega), tdivB (by omega), w64 (by omega) (by omega)]
 refine ⟨rfl, by omega, rfl, by omega⟩
set_option maxHeartbeats 1000000 in
theorem times_l1 (a b : List Int) (i : Nat) (x : Int) (hx : a.getD i 0 = x) (hi : i < a.length) (hb : Dg 1000000000 b) (hx0 : 0 ≤ x) (hx1 : x < 1000000000) (hn : a.length + b.length ≤ 1000000) :
  ∀ (d j : Nat) (out : List Int) (c : Int), j + d = b.length → Dg 1000000000 out → out.length = a.length + b.length → 0 ≤ c → c < 1000000000 → (∀ m, i + b.length ≤ m → out.getD m 0 = 0) →
  ∃ out', (∀ r, Ev (fun k => dioramaref02_Times.l0 k a b out' ((i + 1 : Nat) : Int)) r → Ev (fun k => dioramaref02_Times.l1 k a b out (i : Int) c (j : Int)) r) ∧ out'.length = a.length + b.length ∧ Dg 1000000000 out' ∧
   dv 1000000000 out' = dv 1000000000 out + c * pw 1000000000 (i + j) + x * dv 1000000000 (b.drop j) * pw 1000000000 (i + j) ∧ ∀ m, i + 1 + b.length ≤ m → out'.getD m 0 = 0 := by
 intro d
 induction d with
 | zero =>
  intro j out c hj hd hl h0 h1 hz
  obtain rfl : j = b.length := by omega
  have hend : ∀ (out : List Int) (j : Nat) r, b.length ≤ j → Ev (fun k => dioramaref02_Times.l0 k a b out ((i + 1 : Nat) : Int)) r → Ev (fun k => dioramaref02_Times.l1 k a b out (i : Int) 0 (j : Int)) r := by
   intro out j r hj he
   refine Ev.step (fun k => ?_) he
   simp only [dioramaref02_Times.l1]
   rw [if_neg (by omega), if_neg (by omega), w1 (by omega)]
  rw [List.drop_of_length_le (Nat.le_refl _)]
  by_cases hc : c = 0
  ·subst hc
   exact ⟨out, fun r he => hend out _ r (Nat.le_refl _) he, hl, hd, by simp [dv], fun m hm => hz m (by omega)⟩
  ·refine ⟨out.set (i + b.length) c, fun r he => ?_, by simp [hl], hd.set _ h0 h1, ?_, fun m hm => by rw [getD_set (by omega)]; exact hz m (by omega)⟩
   ·have h2 := hend (out.set (i + b.length) c) (b.length + 1) r (by omega) he
    refine Ev.step (fun k => ?_) h2
    have hw : wrap64 ((i : Int) + (b.length : Int)) = ((i + b.length : Nat) : Int) := by rw [w64 (by omega) (by omega)]; omega
    obtain ⟨g1, g2, g3, g4⟩ := mulB (o := 0) (y := 0) h0 h1 hx0 hx1 (by decide) (by decide) (by decide) (by decide)
    have e0 : (0 : Int) + x * 0 + c = c := by omega
    rw [e0] at g1 g3
    simp only [dioramaref02_Times.l1, hw, rd_nat, hx, Int.toNat_natCast]
    rw [if_neg (by omega), if_pos (by omega), if_pos (by omega), if_pos (by omega), if_pos (by omega), if_pos (by omega), digit_f, getD_ge (Nat.le_refl _), hz _ (Nat.le_refl _)]
    simp only [Option.bind_some, g1, g3]
    rw [tmodB h0, Int.emod_eq_of_lt h0 h1, Int.ediv_eq_zero_of_lt h0 h1, w1 (by omega)]
   ·rw [dv_set _ _ _ _ (by omega), hz _ (Nat.le_refl _)]
    simp [dv]
 | succ d ih =>
  intro j out c hj hd hl h0 h1 hz
  have hy := hb.getD (by decide) j
  have ho := hd.getD (by decide) (i + j)
  have c1 : (j : Int) < (b.length : Int) := by omega
  have c2 : 0 ≤ ((i + j : Nat) : Int) := by omega
  have c3 : ((i + j : Nat) : Int) < (out.length : Int) := by omega
  have c4 : 0 ≤ (i : Int) := by omega
  have c5 : (i : Int) < (a.length : Int) := by omega
  have c6 : i + j < out.length := by omega
  have c7 : j < b.length := by omega
  have hw : wrap64 ((i : Int) + (j : Int)) = ((i + j : Nat) : Int) := by rw [w64 (by omega) (by omega)]; omega
  have hw1 := w1 (i := j) (by omega)
  have HW := Aside0.mk (And.intro hw hw1)
  clear hw hw1
  generalize hyv : b.getD j 0 = y at *
  generalize hov : out.getD (i + j) 0 = o at *
  obtain ⟨g1, g2, g3, g4⟩ := mulB h0 h1 hx0 hx1 hy.1 hy.2 ho.1 ho.2
  have gm := Int.mul_ediv_add_emod (o + x * y + c) 1000000000
  have gr0 := Int.emod_nonneg (o + x * y + c) (show (1000000000 : Int) ≠ 0 by decide)
  have gr1 := Int.emod_lt_of_pos (o + x * y + c) (show (0 : Int) < 1000000000 by decide)
  have gq0 : 0 ≤ (o + x * y + c) / 1000000000 := Int.ediv_nonneg g2 (by decide)
  have gt := tmodB g2
  generalize (o + x * y + c) / 1000000000 = q at *
  generalize (o + x * y + c) % 1000000000 = r' at *
  have hs : r' + 1000000000 * q = c + (x * y + o) := by clear g1 g3 gt; omega
  have HG := Aside0.mk (And.intro g1 (And.intro g3 gt))
  clear g1 g3 gt gm
  obtain ⟨out', k1, k2, k3, k4, k5⟩ := ih (j + 1) (out.set (i + j) r') q (by omega) (hd.set _ gr0 gr1) (by simp [hl]) gq0 g4 (fun m hm => by rw [getD_set (by omega)]; exact hz m hm)
  refine ⟨out', fun r he => ?_, k2, k3, ?_, k5⟩
  ·refine Ev.step (fun k => ?_) (k1 r he)
   simp only [dioramaref02_Times.l1, HW.out.1, rd_nat, hx, Int.toNat_natCast]
   rw [if_pos c1, if_pos c2, if_pos c3, if_pos c4, if_pos c5, digit_f, hyv, hov]
   simp only [Option.bind_some, HG.out.1, HG.out.2.1, HG.out.2.2, HW.out.2]
  ·rw [k4, dv_set _ _ _ _ c6, hov, dv_drop 1000000000 b j c7, hyv, ← Nat.add_assoc, pw_succ]
   exact (mul_step hs).symm
theorem times_l0 (a b : List Int) (ha : Dg 1000000000 a) (hb : Dg 1000000000 b) (hn : a.length + b.length ≤ 1000000) :
  ∀ (d i : Nat) (out : List Int), i + d = a.length → Dg 1000000000 out → out.length = a.length + b.length → dv 1000000000 out = dv 1000000000 (a.take i) * dv 1000000000 b → (∀ m, i + b.length ≤ m → out.getD m 0 = 0) →
  ∃ r, Ev (fun k => dioramaref02_Times.l0 k a b out (i : Int)) r ∧ Nn r ∧ dv 1000000000 r = dv 1000000000 a * dv 1000000000 b ∧ r.length ≤ a.length + b.length := by
 intro d
 induction d with
 | zero =>
  intro i out hi hd hl hv hz
  obtain ⟨r, he, hc, hr, hlr⟩ := trimmed_f out hd (by omega)
  refine ⟨r, Ev.step (f := fun k => (dioramaref02_trimmed.f k out).bind fun t => some t) (fun k => ?_) (Ev.bind he (Ev.now _)), hc, by rw [hr, hv, nv_take_all (by omega)], by omega⟩
  simp only [dioramaref02_Times.l0]
  rw [if_neg (by omega)]
 | succ d ih =>
  intro i out hi hd hl hv hz
  have hx := ha.getD (by decide) i
  obtain ⟨out', k1, k2, k3, k4, k5⟩ := times_l1 a b i (a.getD i 0) rfl (by omega) hb hx.1 hx.2 hn b.length 0 out 0 (by omega) hd hl (by decide) (by decide) hz
  obtain ⟨r, he, h⟩ := ih (i + 1) out' (by omega) k3 k2 (by
   rw [k4, hv, dv_take_succ' _ a i]
   simp only [List.drop_zero, Nat.add_zero]
   grind) (fun m hm => k5 m (by omega))
  refine ⟨r, Ev.step (fun k => ?_) (k1 r he), h⟩
  simp only [dioramaref02_Times.l0]
  rw [if_pos (by omega)]
  rfl
theorem times_f (a b : List Int) (ha : Nn a) (hb : Nn b) (hn : a.length + b.length ≤ 1000000) : ∃ r, Ev (fun k => dioramaref02_Times.f k a b) r ∧ Nn r ∧ dv 1000000000 r = dv 1000000000 a * dv 1000000000 b ∧ r.length ≤ a.length + b.length := by
 have e1 : wrap64 ((a.length : Int) + (b.length : Int)) = ((a.length + b.length : Nat) : Int) := by rw [w64 (by omega) (by omega)]; omega
 obtain ⟨r, he, h⟩ := times_l0 a b ha.dg hb.dg hn a.length 0 (List.replicate (a.length + b.length) 0) (by omega) (Dg.replicate (by decide) _) (by simp) (by rw [dv_replicate]; simp [dv]) (fun m _ => by
  rw [List.getD_eq_getElem?_getD, List.getElem?_replicate]
  split <;> rfl)
 refine ⟨r, Ev.congr (fun k => ?_) he, h⟩
 simp only [dioramaref02_Times.f, e1, Int.toNat_natCast]
 rw [if_pos (by omega), if_pos (by omega)]
 rfl
theorem drop_le (l : List Int) (hd : Dg 1000000000 l) (i : Nat) : dv 1000000000 (l.drop i) ≤ dv 1000000000 l ∧ 0 ≤ dv 1000000000 (l.drop i) := by
 have h0 := dv_nonneg (by decide) (hd.drop i)
 refine ⟨?_, h0⟩
 by_cases hi : i ≤ l.length
 ·have h1 := dv_split 1000000000 l i hi
  have h2 := dv_nonneg (by decide) (hd.take i)
  have h3 : 0 < pw 1000000000 i := pow_pos (by decide) i
  have h4 : 1 * dv 1000000000 (l.drop i) ≤ pw 1000000000 i * dv 1000000000 (l.drop i) := Int.mul_le_mul_of_nonneg_right (by omega) h0
  omega
 ·rw [List.drop_of_length_le (by omega)]
  exact dv_nonneg (by decide) hd
theorem small_l (l : List Int) (hd : Dg 1000000000 l) (hn : l.length ≤ 1000000) (hs : dv 1000000000 l ≤ 9223372036854775807) : ∀ i : Nat, i ≤ l.length → Ev (fun k => dioramaref02_Small.l0 k l (dv 1000000000 (l.drop i)) ((i : Int) - 1)) (dv 1000000000 l, true) := by
 intro i
 induction i with
 | zero =>
  intro _
  refine Ev.step (f := fun _ => some (dv 1000000000 l, true)) (fun k => ?_) (Ev.now _)
  simp [dioramaref02_Small.l0]
 | succ i ih =>
  intro hi
  have e : (((i + 1 : Nat) : Int) - 1) = (i : Int) := by omega
  have h1 := dv_drop 1000000000 l i (by omega)
  have h2 := drop_le l hd i
  have h3 := drop_le l hd (i + 1)
  have hx := hd.getD (by decide) i
  rw [e]
  refine Ev.step (fun k => ?_) (ih (by omega))
  simp only [dioramaref02_Small.l0, rd_nat]
  rw [if_pos (by omega), if_pos (by omega), if_pos (by omega), w64 (x := _ * 1000000000) (by omega) (by omega), w64 (x := _ + _) (by omega) (by omega), w64 (x := (i : Int) - 1) (by omega) (by omega), h1]
  congr 1
  omega
theorem small_f (l : List Int) (most : Int) (hl : Nn l) (hn : l.length ≤ 1000000) (h0 : 0 ≤ most) (h1 : most ≤ 9223372036854775807) : Ev (fun k => dioramaref02_Small.f k l most) (if most < dv 1000000000 l then (0, false) else (dv 1000000000 l, true)) := by
 obtain ⟨r, he, hr, hv, hlr⟩ := of_f most h0 h1
 have hc := compare_f l r hl hr hn (by omega)
 rw [hv] at hc
 by_cases hb : most < dv 1000000000 l
 ·rw [if_pos hb]
  rw [cmp2 hb] at hc
  exact Ev.bind he (Ev.bind hc (Ev.congr (f := fun _ => some (0, false)) (fun k => by simp) (Ev.now _)))
 ·rw [if_neg hb]
  have hle : ¬ (Nd.cmpI (dv 1000000000 l) most > 0) := by
   unfold Nd.cmpI
   by_cases h2 : dv 1000000000 l < most
   ·rw [if_pos h2]; decide
   ·rw [if_neg h2, if_neg hb]; decide
  have h2 := small_l l hl.dg hn (by omega) l.length (Nat.le_refl _)
  rw [List.drop_of_length_le (Nat.le_refl _)] at h2
  refine Ev.bind he (Ev.bind hc (Ev.congr (fun k => ?_) h2))
  rw [if_neg hle, w64 (by omega) (by omega)]
  rfl
end Go.Proofs.Ytpbhepdgamoiaaa.Pb
namespace Go.Proofs.Ytpbhepdgamoiaaa.Pf
open Go.RowKit Go Go.Proofs.YtpbhepdgamoiaaaW.PrintWords Go.Proofs.YtpbhepdgamoiaaaW.PrintLast Go.Proofs.YtpbhepdgamoiaaaW.PrintMore Go.Proofs.Ytpbhepdgamoiaaa.Mn Go.Proofs.Ytpbhepdgamoiaaa.Rf Go.Proofs.Ytpbhepdgamoiaaa.Er Go.Proofs.Ytpbhepdgamoiaaa.Ek Go.Proofs.Ytpbhepdgamoiaaa.E Go.Proofs.Ytpbhepdgamoiaaa.Pe
set_option linter.unusedVariables false
set_option linter.unusedSimpArgs false
def lowV (x : Ed) : Ed := ⟨x.f0, x.f1, (qq x.f2 x.f3).num, ((qq x.f2 x.f3).den : Int)⟩
def ovV (ms ts : Int) (a b : Ed) : Bool := overB ms ts a.f0 a.f1 a.f2 a.f3 b.f1 b.f2 b.f3
def push (ms ts : Int) : List Ed → Ed → List Ed
 | [], e => [e]
 | a :: t, e => if ovV ms ts a e = true then ⟨a.f0 + e.f0, a.f1, a.f2, a.f3⟩ :: t else e :: a :: t
def nrmR (ms ts : Int) (out l : List Ed) : List Ed := (l.map lowV).foldl (push ms ts) out
def nrm (ms ts : Int) (l : List Ed) : List Ed := (nrmR ms ts [] l).reverse
def fin (out : List Ed) : List Ed × Int := if 20 < out.length then ([], 2) else (out.reverse, 0)
def nrmV (ms ts : Int) (l : List Ed) : List Ed × Int := if 1099511627776 < sumD l then ([], 2) else fin (nrmR ms ts [] l)
structure Wd (x : Ed) : Prop where
 d0 : 1 ≤ x.f0
 m0 : -1 ≤ x.f1
 m1 : x.f1 ≤ 1099511627776
 n0 : 0 ≤ x.f2
 n1 : x.f2 ≤ 1000
 e0 : 1 ≤ x.f3
 e1 : x.f3 ≤ 1000
theorem wd_low {x : Ed} (h : Vd x) : Wd (lowV x) := by
 have hq := qq_low h.n0 h.e0
 have h1 := h.n1
 have h2 := h.e1
 exact ⟨h.d0, h.m0, h.m1, hq.1, by unfold lowV; simp only; omega, hq.2.2.1, by unfold lowV; simp only; omega⟩
theorem low_f {x : Ed} (h : Vd x) : edit_lowest.f x.f0 x.f1 x.f2 x.f3 = some ((lowV x).f0, (lowV x).f1, (lowV x).f2, (lowV x).f3) := by
 unfold edit_lowest.f rateOk
 have h0 := h.n0
 have h1 := h.n1
 have h2 := h.e0
 have h3 := h.e1
 rw [decide_eq_true h0, decide_eq_true (show x.f2 ≤ 1000000 by omega), decide_eq_true h2, decide_eq_true (show x.f3 ≤ 1000000 by omega)]
 rfl
theorem over_f {ms ts : Int} {a b : Ed} (hc : Ck ms ts) (ha : Wd a) (hd : a.f0 ≤ 1099511627776) (hb : Wd b) : edit_clocks_over.f ms ts a.f0 a.f1 a.f2 a.f3 b.f0 b.f1 b.f2 b.f3 = some (ovV ms ts a b) := by
 unfold edit_clocks_over.f overOk in64
 have c0 := hc.m0
 have c1 := hc.m1
 have c2 := hc.t0
 have c3 := hc.t1
 have a0 := ha.d0
 have a1 := ha.m0
 have a2 := ha.m1
 have a3 := ha.n0
 have a4 := ha.n1
 have a5 := ha.e0
 have a6 := ha.e1
 have b1 := hb.m0
 have b2 := hb.m1
 rw [if_pos (by simp only [Bool.and_eq_true, decide_eq_true_eq]; omega)]
 rfl
theorem push_sum (ms ts : Int) (out : List Ed) (e : Ed) : sumD (push ms ts out e) = sumD out + e.f0 := by
 cases out with
 | nil => simp [push, sumD]
 | cons a t =>
  simp only [push]
  split
  ·simp only [sumD]; omega
  ·simp only [sumD]; omega
theorem push_wd {ms ts : Int} {out : List Ed} {e : Ed} (h : ∀ x ∈ out, Wd x) (he : Wd e) : ∀ x ∈ push ms ts out e, Wd x := by
 cases out with
 | nil => simpa [push] using he
 | cons a t =>
  have ha := h a (by simp)
  simp only [push]
  split
  ·intro x hx
   simp only [List.mem_cons] at hx
   rcases hx with rfl | hx
   ·have a0 := ha.d0
    have e0 := he.d0
    exact ⟨by simp only; omega, ha.m0, ha.m1, ha.n0, ha.n1, ha.e0, ha.e1⟩
   ·exact h x (by simp [hx])
  ·intro x hx
   simp only [List.mem_cons] at hx
   rcases hx with rfl | hx
   ·exact he
   ·exact h x (by simpa using hx)
theorem push_len (ms ts : Int) (out : List Ed) (e : Ed) : (push ms ts out e).length ≤ out.length + 1 := by
 cases out with
 | nil => simp [push]
 | cons a t =>
  simp only [push]
  split <;> simp
theorem wd_sum {l : List Ed} (h : ∀ x ∈ l, Wd x) : 0 ≤ sumD l := by
 induction l with
 | nil => simp [sumD]
 | cons x t ih =>
  have h1 := (h x (by simp)).d0
  have h2 := ih (fun y hy => h y (by simp [hy]))
  simp only [sumD]
  omega
theorem normal_l {ms ts : Int} (hc : Ck ms ts) (l : List Ed) (hV : ∀ x ∈ l, Vd x) (hl : l.length ≤ 1000000000) (rest : List Ed) :
  ∀ pre out, l = pre ++ rest → sumD out = sumD pre → sumD pre ≤ 1099511627776 → (∀ x ∈ out, Wd x) → out.length ≤ pre.length →
   Ev (fun k => edit_clocks_normal.l0 k out.reverse (sumD pre) l (l.length : Int) (pre.length : Int) ms ts) (if 1099511627776 < sumD l then ([], 2) else fin (nrmR ms ts out rest)) := by
 induction rest with
 | nil =>
  intro pre out he hs hp hw ho
  subst he
  rw [if_neg (by simp only [List.append_nil]; omega)]
  refine Ev.step (f := fun _ => some (fin (nrmR ms ts out []))) (fun k => ?_) (Ev.now _)
  simp only [edit_clocks_normal.l0, List.append_nil]
  rw [if_neg (by omega)]
  unfold fin nrmR
  simp only [List.map_nil, List.foldl_nil, List.length_reverse]
  by_cases h : 20 < out.length
  ·rw [if_pos h, if_pos (by omega)]
  ·rw [if_neg h, if_neg (by omega)]
 | cons x t ih =>
  intro pre out he hs hp hw ho
  have hlen : l.length = pre.length + (t.length + 1) := by rw [he]; simp
  have hx : rd_T77 l (pre.length : Int) = x := by rw [he]; exact rd_at pre x t
  have hvx : Vd x := hV x (by rw [he]; simp)
  have hst : 0 ≤ sumD t := sumD_nonneg (fun y hy => hV y (by rw [he]; simp [hy]))
  have hsl : sumD l = sumD pre + x.f0 + sumD t := by rw [he, sumD_app]; simp only [sumD]; omega
  have hs0 : 0 ≤ sumD pre := by rw [← hs]; exact wd_sum hw
  have hd0 := hvx.d0
  have hd1 := hvx.d1
  have hsp : sumD (pre ++ [x]) = sumD pre + x.f0 := by rw [sumD_app]; simp [sumD]
  by_cases hbig : sumD pre + x.f0 > 1099511627776
  ·rw [if_pos (by omega)]
   refine Ev.step (f := fun _ => some ([], 2)) (fun k => ?_) (Ev.now _)
   simp only [edit_clocks_normal.l0]
   rw [if_pos (by omega), if_pos (by omega), if_pos (by omega), hx, low_f hvx]
   simp only [Option.bind_some]
   rw [show (lowV x).f0 = x.f0 from rfl, w64 (by omega) (by omega), if_pos hbig]
  ·have hwl := wd_low hvx
   have hr := ih (pre ++ [x]) (push ms ts out (lowV x)) (by rw [he]; simp) (by rw [push_sum, hs, hsp]; rfl) (by omega) (push_wd hw hwl) (by have := push_len ms ts out (lowV x); simp only [List.length_append, List.length_cons, List.length_nil]; omega)
   have hn : nrmR ms ts out (x :: t) = nrmR ms ts (push ms ts out (lowV x)) t := rfl
   rw [hn]
   refine Ev.step (f := fun k => edit_clocks_normal.l1 k out.reverse (sumD (pre ++ [x])) (out.reverse.length : Int) l (l.length : Int) (pre.length : Int) ms ts (lowV x).f0 (lowV x).f1 (lowV x).f2 (lowV x).f3) (fun k => ?_) ?_
   ·simp only [edit_clocks_normal.l0]
    rw [if_pos (by omega), if_pos (by omega), if_pos (by omega), hx, low_f hvx]
    simp only [Option.bind_some]
    rw [show (lowV x).f0 = x.f0 from rfl, w64 (by omega) (by omega), if_neg hbig, hsp]
   ·refine Ev.step (f := fun k => edit_clocks_normal.l0 k (push ms ts out (lowV x)).reverse (sumD (pre ++ [x])) l (l.length : Int) ((pre ++ [x]).length : Int) ms ts) (fun k => ?_) hr
    simp only [edit_clocks_normal.l1]
    have hpl : wrap64 ((pre.length : Int) + 1) = ((pre ++ [x]).length : Int) := by rw [w64 (by omega) (by omega)]; simp
    rw [hpl]
    cases out with
    | nil =>
     rw [if_neg (show ¬ (([] : List Ed).reverse.length : Int) > 0 by simp), if_pos (show ([] : List Ed).reverse.length < 4398046511104 by simp)]
     rfl
    | cons a o =>
     have hla : (a :: o).reverse.length = o.length + 1 := by simp
     have hra : rd_T77 (a :: o).reverse (o.length : Int) = a := by
      rw [List.reverse_cons]
      have := rd_at o.reverse a []
      rw [List.length_reverse] at this
      exact this
     have hol : o.length + 1 ≤ pre.length := ho
     have hsa := wd_sum (l := o) (fun y hy => hw y (by simp [hy]))
     have hda : a.f0 ≤ 1099511627776 := by simp only [sumD] at hs; omega
     rw [hla, if_pos (by omega), w64 (by omega) (by omega), show ((o.length + 1 : Nat) : Int) - 1 = (o.length : Int) by omega, if_pos (by omega), if_pos (by omega), hra]
     have ha0 := (hw a (by simp)).d0
     have hov : edit_clocks_over.f ms ts a.f0 a.f1 a.f2 a.f3 (lowV x).f0 (lowV x).f1 (lowV x).f2 (lowV x).f3 = some (ovV ms ts a (lowV x)) := over_f hc (hw a (by simp)) hda hwl
     rw [hov]
     simp only [Option.bind_some, push]
     by_cases hb : ovV ms ts a (lowV x) = true
     ·rw [if_pos hb, if_pos hb]
      have hf : (lowV x).f0 = x.f0 := rfl
      simp only [sumD] at hs
      rw [w64 (by rw [hf]; omega) (by rw [hf]; omega)]
      congr 1
      rw [List.reverse_cons, List.reverse_cons, Int.toNat_natCast]
      have : o.length = o.reverse.length := by simp
      rw [this, List.set_append_right _ _ (Nat.le_refl _)]
      simp
     ·rw [if_neg hb, if_neg hb, if_pos (by omega)]
      congr 1
      simp
theorem normal_f {ms ts : Int} (hc : Ck ms ts) (l : List Ed) (hV : ∀ x ∈ l, Vd x) (hl : l.length ≤ 1000000000) : Ev (fun k => edit_clocks_normal.f k ms ts l) (nrmV ms ts l) :=
 normal_l hc l hV hl l [] [] rfl rfl (by simp [sumD]) (by simp) (by simp)
theorem nrmR_len (ms ts : Int) (l : List Ed) : ∀ out, (nrmR ms ts out l).length ≤ out.length + l.length := by
 induction l with
 | nil => intro out; simp [nrmR]
 | cons x t ih =>
  intro out
  have h := ih (push ms ts out (lowV x))
  have hn : nrmR ms ts out (x :: t) = nrmR ms ts (push ms ts out (lowV x)) t := rfl
  have h2 := push_len ms ts out (lowV x)
  rw [hn]
  simp only [List.length_cons]
  omega
def norV (ms ts : Int) (l : List Ed) : List Ed × Int := if chk l ms ts = 0 then (nrm ms ts l, 0) else ([], chk l ms ts)
theorem Normal_f (l : List Ed) (ms ts : Int) : Ev (fun k => edit_Normal.f k l ms ts) (norV ms ts l) := by
 unfold norV
 by_cases h0 : chk l ms ts = 0
 ·obtain ⟨hc, hl, hV, hs⟩ := chk_ok.1 h0
  rw [if_pos h0]
  have hr : nrmV ms ts l = (nrm ms ts l, 0) := by
   have := nrmR_len ms ts l []
   simp only [List.length_nil] at this
   unfold nrmV fin nrm
   rw [if_neg (by omega), if_neg (by omega)]
  have h1 := check_f l ms ts
  rw [h0] at h1
  refine Ev.congr (fun k => rfl) (Ev.bind h1 ?_)
  refine Ev.congr (fun k => if_pos rfl) (Ev.bind (normal_f hc l hV (by omega)) ?_)
  rw [hr]
  exact Ev.now _
 ·rw [if_neg h0]
  refine Ev.congr (fun k => rfl) (Ev.bind (check_f l ms ts) ?_)
  refine Ev.congr (fun k => if_neg h0) (Ev.now _)
end Go.Proofs.Ytpbhepdgamoiaaa.Pf
namespace Go.Proofs.Ytpbhepdgamoiaaa.Qr
open Go.RowKit Go Go.Proofs.YtpbhepdgamoiaaaW.PrintWords Go.Proofs.YtpbhepdgamoiaaaW.PrintLast Go.Proofs.YtpbhepdgamoiaaaW.PrintMore Go.Proofs.Ytpbhepdgamoiaaa.Ml Go.Proofs.Ytpbhepdgamoiaaa.Mn Go.Proofs.Ytpbhepdgamoiaaa.Nd Go.Proofs.Ytpbhepdgamoiaaa.Pa Go.Proofs.Ytpbhepdgamoiaaa.Pb Go.Proofs.Ytpbhepdgamoiaaa.Rf Go.Proofs.Ytpbhepdgamoiaaa.Er Go.Proofs.Ytpbhepdgamoiaaa.Ek Go.Proofs.Ytpbhepdgamoiaaa.E Go.Proofs.Ytpbhepdgamoiaaa.Pe Go.Proofs.Ytpbhepdgamoiaaa.Pf
set_option linter.unusedVariables false
set_option linter.unusedSimpArgs false
structure RV (b : Bool) (x y : List Int) (q : Rat) (n : Nat) : Prop where
 nx : Nn x
 ny : Nn y
 pos : 0 < dv 1000000000 y
 eq : q = qq (sg b (dv 1000000000 x)) (dv 1000000000 y)
 lx : x.length ≤ n
 ly : y.length ≤ n
theorem RV.mono {b : Bool} {x y : List Int} {q : Rat} {n m : Nat} (h : RV b x y q n) (hm : n ≤ m) : RV b x y q m := ⟨h.nx, h.ny, h.pos, h.eq, Nat.le_trans h.lx hm, Nat.le_trans h.ly hm⟩
theorem RV.x0 {b : Bool} {x y : List Int} {q : Rat} {n : Nat} (h : RV b x y q n) : 0 ≤ dv 1000000000 x := dv_nonneg (by decide) h.nx.dg
def RE (f : Nat → Option (Bool × List Int × List Int)) (q : Rat) (n : Nat) : Prop := ∃ b x y, Ev f (b, x, y) ∧ RV b x y q n
theorem qq_parts {a b : Int} (hb : 0 < b) : ∃ g : Int, 0 < g ∧ a = (qq a b).num * g ∧ b = ((qq a b).den : Int) * g := by
 obtain ⟨h1, h2⟩ := rat_low (a := a) (b := b) (by omega)
 refine ⟨(Int.gcd a b : Nat), ?_, ?_, ?_⟩
 ·have := Int.gcd_pos_of_ne_zero_right a (show b ≠ 0 by omega)
  omega
 ·rw [← h1]
  unfold Ra.ratN Ea.lowN
  rw [if_neg (by omega)]
  exact (Int.ediv_mul_cancel (Int.gcd_dvd_left a b)).symm
 ·rw [← h2]
  unfold Ra.ratD Ea.lowD
  rw [if_neg (by omega)]
  exact (Int.ediv_mul_cancel (Int.gcd_dvd_right a b)).symm
theorem qq_lt {a b c d : Int} (hb : 0 < b) (hd : 0 < d) : qq a b < qq c d ↔ a * d < c * b := by
 obtain ⟨g, hg, e1, e2⟩ := qq_parts (a := a) hb
 obtain ⟨h, hh, e3, e4⟩ := qq_parts (a := c) hd
 rw [Rat.lt_iff]
 generalize (qq a b).num = N1 at *
 generalize ((qq a b).den : Int) = D1 at *
 generalize (qq c d).num = N2 at *
 generalize ((qq c d).den : Int) = D2 at *
 subst e1 e2 e3 e4
 have k1 : N1 * g * (D2 * h) = N1 * D2 * (g * h) := by grind
 have k2 : N2 * h * (D1 * g) = N2 * D1 * (g * h) := by grind
 rw [k1, k2]
 exact (Int.mul_lt_mul_right (Int.mul_pos hg hh)).symm
theorem ratio_f (n d : Int) (hn : -9223372036854775807 ≤ n) (hn1 : n ≤ 9223372036854775807) (hd : 0 < d) (hd1 : d ≤ 9223372036854775807) : RE (fun k => dioramaref10_ratio.f k n d) (qq n d) 3 := by
 obtain ⟨y, ey, ny, vy, ly⟩ := of_f d (by omega) hd1
 by_cases h : n < 0
 ·obtain ⟨x, ex, nx, vx, lx⟩ := of_f (-n) (by omega) (by omega)
  refine ⟨true, x, y, ?_, ⟨nx, ny, by rw [vy]; exact hd, by rw [vx, vy]; simp [sg], lx, ly⟩⟩
  refine Ev.congr (fun k => if_pos h) ?_
  rw [w64 (by omega) (by omega)]
  exact Ev.bind ex (Ev.bind ey (Ev.now _))
 ·obtain ⟨x, ex, nx, vx, lx⟩ := of_f n (by omega) hn1
  refine ⟨false, x, y, ?_, ⟨nx, ny, by rw [vy]; exact hd, by rw [vx, vy]; simp [sg], lx, ly⟩⟩
  refine Ev.congr (fun k => if_neg h) ?_
  exact Ev.bind ex (Ev.bind ey (Ev.now _))
theorem sg_ne (a b : Bool) (x y : Int) : sg (a != b) (x * y) = sg a x * sg b y := by cases a <;> cases b <;> simp [sg, Int.neg_mul, Int.mul_neg]
theorem timesR_f {b1 b2 : Bool} {x1 y1 x2 y2 : List Int} {p q : Rat} {n m : Nat} (h1 : RV b1 x1 y1 p n) (h2 : RV b2 x2 y2 q m) (hl : n + m ≤ 1000000) : RE (fun k => dioramaref10_times.f k b1 x1 y1 b2 x2 y2) (p * q) (n + m) := by
 have l1 := h1.lx
 have l2 := h1.ly
 have l3 := h2.lx
 have l4 := h2.ly
 obtain ⟨x, ex, nx, vx, lx⟩ := times_f x1 x2 h1.nx h2.nx (by omega)
 obtain ⟨y, ey, ny, vy, ly⟩ := times_f y1 y2 h1.ny h2.ny (by omega)
 refine ⟨b1 != b2, x, y, Ev.congr (fun k => rfl) (Ev.bind ex (Ev.bind ey (Ev.now _))), ⟨nx, ny, by rw [vy]; exact Int.mul_pos h1.pos h2.pos, ?_, by omega, by omega⟩⟩
 rw [h1.eq, h2.eq, vx, vy, sg_ne]
 unfold qq
 rw [Rat.divInt_mul_divInt]
theorem RV.neg {b : Bool} {x y : List Int} {q : Rat} {n : Nat} (h : RV b x y q n) : RV (!b) x y (-q) n := by
 refine ⟨h.nx, h.ny, h.pos, ?_, h.lx, h.ly⟩
 rw [h.eq]
 unfold qq
 rw [Rat.neg_divInt]
 congr 1
 cases b <;> simp [sg]
theorem RV.sign {b : Bool} {x y : List Int} {q : Rat} {n : Nat} (h : RV b x y q n) : (b && decide ((x.length : Int) > 0)) = decide (q < 0) := by
 have h0 := h.x0
 have hz := dv_eq_zero (by decide) h.nx
 have hq : q < 0 ↔ sg b (dv 1000000000 x) < 0 := by
  have e : (0 : Rat) = qq 0 1 := by unfold qq; simp
  rw [h.eq, e, qq_lt h.pos (by decide)]
  simp
 rw [Bool.eq_iff_iff]
 simp only [Bool.and_eq_true, decide_eq_true_eq, hq]
 have hl : (x.length : Int) > 0 ↔ dv 1000000000 x ≠ 0 := by
  rw [ne_eq, hz]
  cases x <;> simp
 rw [hl]
 cases b
 ·simp [sg]; omega
 ·simp [sg]; omega
end Go.Proofs.Ytpbhepdgamoiaaa.Qr
namespace Go.Proofs.Ytpbhepdgamoiaaa.Pc
open Go.RowKit Go.Proofs.Ytpbhepdgamoiaaa.P Go.Proofs.Ytpbhepdgamoiaaa.E Go.Proofs.YtpbhepdgamoiaaaW.PrintWords Go.Proofs.YtpbhepdgamoiaaaW.PrintLast Go.Proofs.Ytpbhepdgamoiaaa.Ml Go.Proofs.Ytpbhepdgamoiaaa.Mn Go.Proofs.Ytpbhepdgamoiaaa.Pa Go.Proofs.Ytpbhepdgamoiaaa.Pb
set_option linter.unusedVariables false
set_option linter.unusedSimpArgs false
theorem drop_set' {l : List Int} {i : Nat} {v : Int} : (l.set i v).drop (i + 1) = l.drop (i + 1) := by
 rw [List.drop_set]
 simp
theorem over_l1 (a b q rest : List Int) (i : Nat) (hb : Nn b) (hr : Nn rest) (hi : i < q.length) (hq : q.length ≤ 1000000) (hlb : b.length ≤ 100000) (hlr : rest.length ≤ 200000) (hbp : 0 < dv 1000000000 b) :
  ∀ (m : Nat) (low high : Int), high - low ≤ m → 0 ≤ low → low ≤ high → high ≤ 999999999 → low * dv 1000000000 b ≤ dv 1000000000 rest → dv 1000000000 rest < (high + 1) * dv 1000000000 b →
  ∃ t rest', 0 ≤ t ∧ t < 1000000000 ∧ Nn rest' ∧ dv 1000000000 rest = t * dv 1000000000 b + dv 1000000000 rest' ∧ dv 1000000000 rest' < dv 1000000000 b ∧ (∀ r, Ev (fun k => dioramaref02_Over.l0 k a b (q.set i t) rest' ((i : Int) - 1)) r → Ev (fun k => dioramaref02_Over.l1 k a b q rest (i : Int) low high) r) := by
 intro m
 induction m with
 | zero =>
  intro low high hm h0 h1 h2 hlo hhi
  obtain rfl : low = high := by omega
  obtain ⟨o, eo, ho, vo, lo⟩ := of_f low h0 (by omega)
  obtain ⟨p, ep, hp, vp, lp⟩ := times_f b o hb ho (by omega)
  have e1 : dv 1000000000 p = low * dv 1000000000 b := by rw [vp, vo, Int.mul_comm]
  obtain ⟨s, es, hs, vs, ls⟩ := minus_f rest p hr hp (by omega) (by omega)
  have e2 : (low + 1) * dv 1000000000 b = low * dv 1000000000 b + dv 1000000000 b := by rw [Int.add_mul]; omega
  refine ⟨low, s, h0, by omega, hs, by omega, by omega, fun r he => ?_⟩
  refine Ev.step (f := fun k => (dioramaref02_Of.f k low).bind fun t197 => ((dioramaref02_Times.f k b t197).bind fun t200 => ((dioramaref02_Minus.f k rest t200).bind fun t203 => (dioramaref02_Over.l0 k a b (q.set i low) t203 ((i : Int) - 1))))) (fun k => ?_) (Ev.bind eo (Ev.bind ep (Ev.bind es he)))
  simp only [dioramaref02_Over.l1, Int.toNat_natCast]
  rw [if_neg (by omega), if_pos (by omega), if_pos (by omega), w64 (by omega) (by omega)]
 | succ m ih =>
  intro low high hm h0 h1 h2 hlo hhi
  by_cases hlt : low < high
  ·have hmid : wrap64 (Int.tdiv (wrap64 (wrap64 (low + high) + 1)) 2) = (low + high + 1) / 2 := by
    rw [w64 (x := low + high) (by omega) (by omega), w64 (x := low + high + 1) (by omega) (by omega), Int.tdiv_eq_ediv_of_nonneg (by omega), w64 (by omega) (by omega)]
   have hm1 : low < (low + high + 1) / 2 := by omega
   have hm2 : (low + high + 1) / 2 ≤ high := by omega
   generalize (low + high + 1) / 2 = mid at *
   obtain ⟨o, eo, ho, vo, lo⟩ := of_f mid (by omega) (by omega)
   obtain ⟨p, ep, hp, vp, lp⟩ := times_f b o hb ho (by omega)
   have e1 : dv 1000000000 p = mid * dv 1000000000 b := by rw [vp, vo, Int.mul_comm]
   have ec := compare_f p rest hp hr (by omega) (by omega)
   rw [e1] at ec
   by_cases hc : mid * dv 1000000000 b ≤ dv 1000000000 rest
   ·obtain ⟨t, rest', g1, g2, g3, g4, g5, g6⟩ := ih mid high (by omega) (by omega) hm2 h2 hc hhi
    have hle : Nd.cmpI (mid * dv 1000000000 b) (dv 1000000000 rest) ≤ 0 := by
     unfold Nd.cmpI
     by_cases h2 : mid * dv 1000000000 b < dv 1000000000 rest
     ·rw [if_pos h2]; decide
     ·rw [if_neg h2, if_neg (by omega)]; decide
    refine ⟨t, rest', g1, g2, g3, g4, g5, fun r he => ?_⟩
    refine Ev.step (f := fun k => (dioramaref02_Of.f k mid).bind fun t206 => ((dioramaref02_Times.f k b t206).bind fun t209 => ((dioramaref02_Compare.f k t209 rest).bind fun t212 => (if t212 ≤ 0 then (dioramaref02_Over.l1 k a b q rest (i : Int) mid high) else (dioramaref02_Over.l1 k a b q rest (i : Int) low (wrap64 (mid - 1))))))) (fun k => ?_) (Ev.bind eo (Ev.bind ep (Ev.bind ec (Ev.congr (fun k => ?_) (g6 r he)))))
    ·simp only [dioramaref02_Over.l1, hmid]
     rw [if_pos hlt]
    ·rw [if_pos hle]
   ·have hw : wrap64 (mid - 1) = mid - 1 := w64 (by omega) (by omega)
    obtain ⟨t, rest', g1, g2, g3, g4, g5, g6⟩ := ih low (mid - 1) (by omega) h0 (by omega) (by omega) hlo (by rw [Int.sub_add_cancel]; omega)
    have hle : ¬ Nd.cmpI (mid * dv 1000000000 b) (dv 1000000000 rest) ≤ 0 := by
     rw [cmp2 (by omega)]; decide
    refine ⟨t, rest', g1, g2, g3, g4, g5, fun r he => ?_⟩
    refine Ev.step (f := fun k => (dioramaref02_Of.f k mid).bind fun t206 => ((dioramaref02_Times.f k b t206).bind fun t209 => ((dioramaref02_Compare.f k t209 rest).bind fun t212 => (if t212 ≤ 0 then (dioramaref02_Over.l1 k a b q rest (i : Int) mid high) else (dioramaref02_Over.l1 k a b q rest (i : Int) low (wrap64 (mid - 1))))))) (fun k => ?_) (Ev.bind eo (Ev.bind ep (Ev.bind ec (Ev.congr (fun k => ?_) (g6 r he)))))
    ·simp only [dioramaref02_Over.l1, hmid]
     rw [if_pos hlt]
    ·rw [if_neg hle, hw]
  ·exact ih low high (by omega) h0 h1 h2 hlo hhi
theorem over_l0 (a b : List Int) (ha : Dg 1000000000 a) (hb : Nn b) (hla : a.length ≤ 100000) (hlb : b.length ≤ 100000) (hbp : 0 < dv 1000000000 b) :
  ∀ (i : Nat) (q rest : List Int), i ≤ a.length → q.length = a.length → Dg 1000000000 q → Nn rest → dv 1000000000 rest < dv 1000000000 b → dv 1000000000 (a.drop i) = dv 1000000000 (q.drop i) * dv 1000000000 b + dv 1000000000 rest →
  ∃ r1 r2, Ev (fun k => dioramaref02_Over.l0 k a b q rest ((i : Int) - 1)) (r1, r2) ∧ Nn r1 ∧ Nn r2 ∧ dv 1000000000 a = dv 1000000000 r1 * dv 1000000000 b + dv 1000000000 r2 ∧ dv 1000000000 r2 < dv 1000000000 b ∧ r1.length ≤ a.length ∧ r2.length ≤ b.length := by
 have hlen : ∀ {l : List Int}, Nn l → dv 1000000000 l < dv 1000000000 b → l.length ≤ b.length := by
  intro l hl h
  refine Nat.le_of_not_lt fun h2 => ?_
  have := dv_len (by decide) hb.dg hl h2
  omega
 intro i
 induction i with
 | zero =>
  intro q rest _ hq dq hr hlt hv
  obtain ⟨r, he, hc, hvr, hlr⟩ := trimmed_f q dq (by omega)
  rw [List.drop_zero, List.drop_zero] at hv
  refine ⟨r, rest, Ev.step (f := fun k => (dioramaref02_trimmed.f k q).bind fun t => some (t, rest)) (fun k => ?_) (Ev.bind he (Ev.now _)), hc, hr, by rw [hvr]; exact hv, hlt, by omega, hlen hr hlt⟩
  simp [dioramaref02_Over.l0]
 | succ i ih =>
  intro q rest hi hq dq hr hlt hv
  have e : (((i + 1 : Nat) : Int) - 1) = (i : Int) := by omega
  have hx := ha.getD (by decide) i
  have hlr := hlen hr hlt
  obtain ⟨u, eu, hu, vu, lu⟩ := trimmed_f (a.getD i 0 :: rest) (Dg.cons hx.1 hx.2 hr.dg) (by simp; omega)
  have vu2 : dv 1000000000 u = a.getD i 0 + 1000000000 * dv 1000000000 rest := vu
  have r0 := dv_nonneg (by decide) hr.dg
  simp only [List.length_cons] at lu
  obtain ⟨t, rest', g1, g2, g3, g4, g5, g6⟩ := over_l1 a b q u i hb hu (by omega) (by omega) hlb (by omega) hbp 999999999 0 999999999 (by decide) (by decide) (by decide) (by decide) (by have := dv_nonneg (by decide) hu.dg ; omega) (by
   have : (1000000000 : Int) * (dv 1000000000 rest + 1) ≤ 1000000000 * dv 1000000000 b := Int.mul_le_mul_of_nonneg_left (by omega) (by decide)
   rw [vu2]
   omega)
  obtain ⟨r1, r2, he, h⟩ := ih (q.set i t) rest' (by omega) (by simpa using hq) (dq.set _ g1 g2) g3 g5 (by
   rw [dv_drop _ a i (by omega), dv_drop _ (q.set i t) i (by simp; omega), drop_set', getD_set_self (by omega), hv]
   have := vu2
   rw [g4] at this
   grind)
  refine ⟨r1, r2, ?_, h⟩
  rw [e]
  refine Ev.step (f := fun k => (dioramaref02_trimmed.f k (a.getD i 0 :: rest)).bind fun t193 => (dioramaref02_Over.l1 k a b q t193 (i : Int) 0 999999999)) (fun k => ?_) (Ev.bind eu (g6 _ he))
  simp only [dioramaref02_Over.l0, rd_nat, Option.bind_some, List.singleton_append, List.length_singleton]
  rw [if_pos (by omega), if_pos (by omega), if_pos (by omega), if_pos (by omega)]
theorem over_f (a b : List Int) (ha : Nn a) (hb : Nn b) (hla : a.length ≤ 100000) (hlb : b.length ≤ 100000) (hbp : 0 < dv 1000000000 b) :
  ∃ r1 r2, Ev (fun k => dioramaref02_Over.f k a b) (r1, r2) ∧ Nn r1 ∧ Nn r2 ∧ dv 1000000000 a = dv 1000000000 r1 * dv 1000000000 b + dv 1000000000 r2 ∧ dv 1000000000 r2 < dv 1000000000 b ∧ r1.length ≤ a.length ∧ r2.length ≤ b.length := by
 obtain ⟨r1, r2, he, h⟩ := over_l0 a b ha.dg hb hla hlb hbp a.length (List.replicate a.length 0) [] (Nat.le_refl _) (by simp) (Dg.replicate (by decide) _) (Cn.nil _) hbp (by rw [List.drop_of_length_le (Nat.le_refl _), List.drop_of_length_le (by simp)]; simp [dv])
 refine ⟨r1, r2, Ev.congr (fun k => ?_) he, h⟩
 simp only [dioramaref02_Over.f, Int.toNat_natCast]
 rw [if_pos (by omega), if_pos (by omega), w64 (by omega) (by omega)]
end Go.Proofs.Ytpbhepdgamoiaaa.Pc
namespace Go.Proofs.Ytpbhepdgamoiaaa.Wv
open Go.RowKit Go Go.Proofs.YtpbhepdgamoiaaaW.PrintWords Go.Proofs.YtpbhepdgamoiaaaW.PrintLast Go.Proofs.YtpbhepdgamoiaaaW.PrintMore Go.Proofs.Ytpbhepdgamoiaaa.Ml Go.Proofs.Ytpbhepdgamoiaaa.Mn Go.Proofs.Ytpbhepdgamoiaaa.Nd Go.Proofs.Ytpbhepdgamoiaaa.Rf Go.Proofs.Ytpbhepdgamoiaaa.Er Go.Proofs.Ytpbhepdgamoiaaa.Ek Go.Proofs.Ytpbhepdgamoiaaa.E Go.Proofs.Ytpbhepdgamoiaaa.Pa Go.Proofs.Ytpbhepdgamoiaaa.Pb Go.Proofs.Ytpbhepdgamoiaaa.Pc Go.Proofs.Ytpbhepdgamoiaaa.Qr Go.Proofs.Ytpbhepdgamoiaaa.Tk
set_option linter.unusedVariables false
set_option linter.unusedSimpArgs false
def endL : List Sm → Int → Int
 | [], m => m
 | s :: t, m => endL t (mx m (wrap64 (s.f1 + s.f2)))
def upV (q : Rat) : Int := (q.num + (q.den : Int) - 1) / (q.den : Int)
def whoT (ms scale : Int) (edits : List Ed') (samples : List Sm) : List Ed' × Int :=
 if 0 < edits.length then (edits, 0) else if endL samples 0 = 0 then ([], 0) else if 1099511627776 < upV (qq (endL samples 0) scale * qq ms 1) then ([], 2) else ([⟨upV (qq (endL samples 0) scale * qq ms 1), 0, 1, 1⟩], 0)
theorem inB_is {a lo hi : Int} (h : inB a lo hi = true) : lo ≤ a ∧ a ≤ hi := by
 unfold inB at h
 simpa using h
theorem smV_ok {i before : Int} {s : Sm} (h : smV i before s = 0) : (-1099511627776 ≤ s.f1 ∧ s.f1 ≤ 1099511627776) ∧ 0 ≤ s.f2 ∧ s.f2 ≤ 1099511627776 := by
 unfold smV at h
 split at h
 ·rename_i hc
  simp only [Bool.and_eq_true] at hc
  exact ⟨inB_is hc.2.1, inB_is hc.2.2⟩
 ·cases h
theorem smsV_ok : ∀ (l : List Sm) (i : Nat) (before : Int), smsV i before l = 0 → ∀ s ∈ l, (-1099511627776 ≤ s.f1 ∧ s.f1 ≤ 1099511627776) ∧ 0 ≤ s.f2 ∧ s.f2 ≤ 1099511627776
 | [], _, _, _, s, hs => by cases hs
 | x :: t, i, before, h, s, hs => by
  rw [smsV] at h
  by_cases h0 : smV i before x = 0
  ·rw [if_pos h0] at h
   rcases List.mem_cons.1 hs with rfl | hs
   ·exact smV_ok h0
   ·exact smsV_ok t _ _ h s hs
  ·rw [if_neg h0] at h
   exact absurd h h0
theorem chkT_ok {id kind : Int} {codec : ByteArray} {scale : Int} {setup : List Int} {lang name : ByteArray} {pr : Int} {edits : List Ed'} {refs : List Rf} {samples : List Sm} (h : chkT id kind codec scale setup lang name pr edits refs samples = 0) :
  (1 ≤ scale ∧ scale ≤ 1000000) ∧ edits.length ≤ 20 ∧ samples.length ≤ 400 ∧ ∀ s ∈ samples, (-1099511627776 ≤ s.f1 ∧ s.f1 ≤ 1099511627776) ∧ 0 ≤ s.f2 ∧ s.f2 ≤ 1099511627776 := by
 unfold chkT at h
 split at h
 ·rename_i hc
  split at h
  ·cases h
  ·rename_i hl
   split at h
   ·unfold fldB at hc
    simp only [Bool.and_eq_true] at hc
    unfold limB at hl
    simp only [Bool.or_eq_true, decide_eq_true_eq] at hl
    exact ⟨inB_is hc.1.2.2.2.1, by omega, by omega, smsV_ok samples 0 0 h⟩
   ·cases h
 ·cases h
theorem end_rng : ∀ (l : List Sm) (m : Int), (∀ s ∈ l, (-1099511627776 ≤ s.f1 ∧ s.f1 ≤ 1099511627776) ∧ 0 ≤ s.f2 ∧ s.f2 ≤ 1099511627776) → 0 ≤ m → m ≤ 2199023255552 → 0 ≤ endL l m ∧ endL l m ≤ 2199023255552
 | [], m, _, h0, h1 => ⟨h0, h1⟩
 | s :: t, m, h, h0, h1 => by
  have hs := h s (by simp)
  rw [endL, w64 (by omega) (by omega)]
  exact end_rng t _ (fun y hy => h y (by simp [hy])) (by unfold mx; split <;> omega) (by unfold mx; split <;> omega)
theorem up_iff {n d c : Int} (hd : 0 < d) (h1 : (c - 1) * d < n) (h2 : n ≤ c * d) : (n + d - 1) / d = c := by
 have e : n + d - 1 = (n + d - 1 - c * d) + c * d := by omega
 rw [Int.sub_mul] at h1
 rw [e, Int.add_mul_ediv_right _ _ (by omega), Int.ediv_eq_zero_of_lt (by omega) (by omega)]
 omega
theorem up_is (n : Int) {d : Int} (hd : 0 < d) : ((n + d - 1) / d - 1) * d < n ∧ n ≤ (n + d - 1) / d * d := by
 have h1 := Int.mul_ediv_add_emod (n + d - 1) d
 have h2 := Int.emod_nonneg (n + d - 1) (show d ≠ 0 by omega)
 have h3 := Int.emod_lt_of_pos (n + d - 1) hd
 rw [Int.mul_comm] at h1
 rw [Int.sub_mul]
 omega
theorem up_qq (n : Int) {d : Int} (hd : 0 < d) : (n + d - 1) / d = upV (qq n d) := by
 obtain ⟨g, hg, e1, e2⟩ := qq_parts (a := n) hd
 have hD : 0 < ((qq n d).den : Int) := by have := (qq n d).den_pos; omega
 obtain ⟨h1, h2⟩ := up_is (qq n d).num hD
 refine up_iff hd ?_ ?_
 ·show (upV (qq n d) - 1) * d < n
  have := Int.mul_lt_mul_of_pos_right h1 hg
  rw [Int.mul_assoc, ← e2, ← e1] at this
  exact this
 ·show n ≤ upV (qq n d) * d
  have := Int.mul_le_mul_of_nonneg_right h2 (Int.le_of_lt hg)
  rw [Int.mul_assoc, ← e2, ← e1] at this
  exact this
theorem qq_nonneg {a b : Int} (ha : 0 ≤ a) (hb : 0 < b) : 0 ≤ (qq a b).num := by
 obtain ⟨g, hg, e1, e2⟩ := qq_parts (a := a) hb
 refine Int.not_lt.1 fun h => ?_
 have := Int.mul_neg_of_neg_of_pos h hg
 omega
theorem q_is {a b c : Int} (hb : 0 < b) : qq a b * qq c 1 = qq (a * c) b := by
 unfold qq
 rw [Rat.divInt_mul_divInt, Int.mul_one]
theorem up_pos {a b c : Int} (ha : 0 < a) (hb : 0 < b) (hc : 0 < c) : 0 < upV (qq a b * qq c 1) := by
 rw [q_is hb, ← up_qq _ hb]
 have := Int.mul_pos ha hc
 have h := Int.ediv_le_ediv hb (show b ≤ a * c + b - 1 by omega)
 rw [Int.ediv_self (by omega)] at h
 omega
theorem up_zero {b c : Int} (hb : 0 < b) : upV (qq 0 b * qq c 1) = 0 := by
 rw [q_is hb, ← up_qq _ hb, Int.zero_mul]
 exact Int.ediv_eq_zero_of_lt (by omega) (by omega)
def endV (e s ms : Int) : Int × Int := if 1099511627776 < upV (qq e s * qq ms 1) then (0, 2) else (upV (qq e s * qq ms 1), 0)
theorem nn_len0 {r : List Int} (hr : Nn r) : (r.length : Int) > 0 ↔ 0 < dv 1000000000 r := by
 have h0 := dv_nonneg (by decide) hr.dg
 constructor
 ·intro h
  have h1 := dv_len (a := []) (by decide) (Dg.nil _) hr (by cases r with | nil => simp at h | cons x t => simp)
  simpa only [dv] using h1
 ·intro h
  cases r with
  | nil => simp [dv] at h
  | cons x t => simp only [List.length_cons]; omega
set_option maxHeartbeats 1000000 in
theorem round_f {e s ms : Int} (h0 : 0 ≤ e) (h1 : e ≤ 2199023255552) (hs : 1 ≤ s ∧ s ≤ 1000000) (hm : 1 ≤ ms ∧ ms ≤ 1000000) :
  Ev (fun k => (dioramaref10_ratio.f k e s).bind fun bt1351 => ((dioramaref10_ratio.f k ms 1).bind fun bt1358 => ((dioramaref10_times.f k bt1351.1 bt1351.2.1 bt1351.2.2 bt1358.1 bt1358.2.1 bt1358.2.2).bind fun bt1365 => ((dioramaref02_Over.f k bt1365.2.1 bt1365.2.2).bind fun bt1373 => (if (bt1373.2.length : Int) > 0 then ((dioramaref02_Of.f k 1).bind fun t1379 => ((dioramaref02_Plus.f k bt1373.1 t1379).bind fun t1382 => ((dioramaref02_Small.f k t1382 1099511627776).bind fun bt1385 => (if bt1385.2 = true then (some (bt1385.1, 0)) else (some ((0 : Int), (2 : Int))))))) else ((dioramaref02_Small.f k bt1373.1 1099511627776).bind fun bt1387 => (if bt1387.2 = true then (some (bt1387.1, 0)) else (some (0, 2))))))))) (endV e s ms) := by
 obtain ⟨b1, x1, y1, e1, v1⟩ := ratio_f e s (by omega) (by omega) (by omega) (by omega)
 obtain ⟨b2, x2, y2, e2, v2⟩ := ratio_f ms 1 (by omega) (by omega) (by omega) (by omega)
 obtain ⟨b3, x3, y3, e3, v3⟩ := timesR_f v1 v2 (by decide)
 obtain ⟨r1, r2, e4, n1, n2, hv, hlt, l1, l2⟩ := over_f x3 y3 v3.nx v3.ny (by have := v3.lx; omega) (by have := v3.ly; omega) v3.pos
 have hl3 := v3.lx
 have p2 := dv_nonneg (by decide) n2.dg
 have p1 := dv_nonneg (by decide) n1.dg
 have hx := v3.x0
 have hq : qq e s * qq ms 1 = qq (dv 1000000000 x3) (dv 1000000000 y3) := by
  rw [v3.eq]
  cases b3 with
  | false => rfl
  | true =>
   have h3 := v3.eq
   rw [q_is (by omega)] at h3
   have hp : 0 ≤ e * ms := Int.mul_nonneg h0 (by omega)
   have h4 := qq_nonneg hp (show (0 : Int) < s by omega)
   rw [h3] at h4
   obtain ⟨g, hg, g1, g2⟩ := qq_parts (a := sg true (dv 1000000000 x3)) v3.pos
   have : 0 ≤ sg true (dv 1000000000 x3) := by rw [g1]; exact Int.mul_nonneg h4 (by omega)
   have hz : dv 1000000000 x3 = 0 := by unfold sg at this; simp only [if_true] at this; omega
   rw [hz]
   rfl
 have hup : upV (qq e s * qq ms 1) = dv 1000000000 r1 + (if 0 < dv 1000000000 r2 then 1 else 0) := by
  rw [hq, ← up_qq _ v3.pos]
  by_cases hr : 0 < dv 1000000000 r2
  ·rw [if_pos hr]
   exact up_iff v3.pos (by rw [show dv 1000000000 r1 + 1 - 1 = dv 1000000000 r1 by omega]; omega) (by rw [Int.add_mul]; omega)
  ·rw [if_neg hr, Int.add_zero]
   have := v3.pos
   exact up_iff v3.pos (by rw [Int.sub_mul]; omega) (by omega)
 have tail : ∀ r : List Int, Nn r → r.length ≤ 1000 → dv 1000000000 r = upV (qq e s * qq ms 1) → Ev (fun k => (dioramaref02_Small.f k r 1099511627776).bind fun bt => (if bt.2 = true then (some (bt.1, 0)) else (some ((0 : Int), (2 : Int))))) (endV e s ms) := by
  intro r hr hl he
  have h := small_f r 1099511627776 hr (by omega) (by decide) (by decide)
  unfold endV
  rw [he] at h
  by_cases hb : 1099511627776 < upV (qq e s * qq ms 1)
  ·rw [if_pos hb] at h ⊢
   exact Ev.bind h (Ev.congr (fun k => if_neg (by decide)) (Ev.now _))
  ·rw [if_neg hb] at h ⊢
   exact Ev.bind h (Ev.congr (fun k => if_pos rfl) (Ev.now _))
 refine Ev.bind e1 (Ev.bind e2 (Ev.bind e3 (Ev.bind e4 ?_)))
 by_cases hr : 0 < dv 1000000000 r2
 ·refine Ev.congr (fun k => if_pos ((nn_len0 n2).2 hr)) ?_
  obtain ⟨o, e5, n5, v5, l5⟩ := of_f 1 (by decide) (by decide)
  obtain ⟨p, e6, n6, v6, l6⟩ := plus_f r1 o n1 n5 (by omega) (by omega)
  refine Ev.bind e5 (Ev.bind e6 (tail p n6 (by omega) ?_))
  rw [hup, if_pos hr, v6, v5]
 ·refine Ev.congr (fun k => if_neg (fun h => hr ((nn_len0 n2).1 h))) (tail r1 n1 (by omega) ?_)
  rw [hup, if_neg hr, Int.add_zero]
section
variable (id kind : Int) (codec : ByteArray) (scale : Int) (setup : List Int) (lang name : ByteArray) (pr : Int) (edits : List Ed') (refs : List Rf) (samples : List Sm)
theorem end_l {ms : Int} (hs : 1 ≤ scale ∧ scale ≤ 1000000) (hm : 1 ≤ ms ∧ ms ≤ 1000000) (hn : samples.length ≤ 400) (hv : ∀ s ∈ samples, (-1099511627776 ≤ s.f1 ∧ s.f1 ≤ 1099511627776) ∧ 0 ≤ s.f2 ∧ s.f2 ≤ 1099511627776) : ∀ (rest pre : List Sm) (m : Int), samples = pre ++ rest → 0 ≤ m → m ≤ 2199023255552 → Ev (fun k => dioramaref10_end.l0 k ms m (pre.length : Int) id kind codec scale setup lang name pr edits refs samples) (endV (endL rest m) scale ms)
 | [], pre, m, h, h0, h1 => by
  have e : samples.length = pre.length := by rw [h]; simp
  refine Ev.step (fun k => ?_) (round_f h0 h1 hs hm)
  rw [dioramaref10_end.l0, if_neg (by omega)]
  rfl
 | x :: t, pre, m, h, h0, h1 => by
  have hlen : samples.length = pre.length + (t.length + 1) := by rw [h]; simp
  have hx : rd_T120 samples (pre.length : Int) = x := by rw [h]; exact rdS_mid pre x t
  have hb := hv x (by rw [h]; simp)
  have hw : wrap64 (x.f1 + x.f2) = x.f1 + x.f2 := w64 (by omega) (by omega)
  have ih := end_l hs hm hn hv t (pre ++ [x]) (mx m (wrap64 (x.f1 + x.f2))) (by rw [h]; simp) (by rw [hw]; unfold mx; split <;> omega) (by rw [hw]; unfold mx; split <;> omega)
  have e2 : wrap64 ((pre.length : Int) + 1) = ((pre ++ [x]).length : Nat) := by
   rw [w64 (by omega) (by omega)]
   simp
  refine Ev.step (fun k => ?_) ih
  rw [dioramaref10_end.l0, if_pos (by omega), if_pos (by omega), hx, e2]
theorem end_f {ms : Int} (hm : 1 ≤ ms ∧ ms ≤ 1000000) (h : chkT id kind codec scale setup lang name pr edits refs samples = 0) : Ev (fun k => dioramaref10_end.f k id kind codec scale setup lang name pr edits refs samples ms) (endV (endL samples 0) scale ms) := by
 obtain ⟨hs, _, hn, hv⟩ := chkT_ok h
 exact end_l id kind codec scale setup lang name pr edits refs samples hs hm hn hv samples [] 0 rfl (by decide) (by decide)
end
end Go.Proofs.Ytpbhepdgamoiaaa.Wv
namespace Go.Proofs.Ytpbhepdgamoiaaa.Tw
open Go.RowKit Go Go.Proofs.YtpbhepdgamoiaaaW.PrintWords Go.Proofs.YtpbhepdgamoiaaaW.PrintLast Go.Proofs.YtpbhepdgamoiaaaW.PrintMore Go.Proofs.Ytpbhepdgamoiaaa.Mn Go.Proofs.Ytpbhepdgamoiaaa.Nd Go.Proofs.Ytpbhepdgamoiaaa.Z Go.Proofs.Ytpbhepdgamoiaaa.E Go.Proofs.Ytpbhepdgamoiaaa.Tk
attribute [local go_sem] max2_int min2_int
set_option linter.unusedVariables false
set_option linter.unusedSimpArgs false
theorem ten_cells {w : World} {g : Nat} {t : TypeId} {a0 a1 a2 a3 a4 a5 a6 a7 a8 a9 aa : Value} (h : w.heap[g]? = some (.cells #[a0, a1, a2, a3, a4, a5, a6, a7, a8, a9, aa] t (0, 0))) :
  w.cell? ⟨g, 0, none⟩ = some a0 ∧ w.cell? ⟨g, 1, none⟩ = some a1 ∧ w.cell? ⟨g, 2, none⟩ = some a2 ∧ w.cell? ⟨g, 3, none⟩ = some a3 ∧ w.cell? ⟨g, 4, none⟩ = some a4 ∧ w.cell? ⟨g, 5, none⟩ = some a5 ∧ w.cell? ⟨g, 6, none⟩ = some a6 ∧ w.cell? ⟨g, 7, none⟩ = some a7 ∧ w.cell? ⟨g, 8, none⟩ = some a8 ∧ w.cell? ⟨g, 9, none⟩ = some a9 ∧ w.cell? ⟨g, 10, none⟩ = some aa :=
 ⟨(blk_cell h 0).trans rfl, (blk_cell h 1).trans rfl, (blk_cell h 2).trans rfl, (blk_cell h 3).trans rfl, (blk_cell h 4).trans rfl, (blk_cell h 5).trans rfl, (blk_cell h 6).trans rfl, (blk_cell h 7).trans rfl, (blk_cell h 8).trans rfl, (blk_cell h 9).trans rfl, (blk_cell h 10).trans rfl⟩
structure Bt (w W : World) (cells : Array Value) : Prop where
 c : W.heap[w.heap.size]? = some (.cells cells 71 (0, 0))
 below : Below w.heap.size w W
theorem Bt.start (w : World) (cells : Array Value) : Bt w (w.alloc (.cells cells 71 (0, 0))) cells := ⟨blk_new w _, below_alloc (Below.refl _ w) _⟩
theorem Bt.step {w W W2 : World} {cells : Array Value} (h : Bt w W cells) (hb : Below W.heap.size W W2) : Bt w W2 cells := ⟨blk_below h.c hb, h.below.trans (hb.mono h.below.size)⟩
def okB (codec lang name : ByteArray) (refs : List Rf) : Bool := decide (codec.size ≤ maxLen) && (decide (lang.size ≤ maxLen) && (decide (name.size ≤ maxLen) && (decide (refs.length ≤ maxLen) && refs.all (fun r => decide (r.f0.size ≤ maxLen)))))
theorem letters_n (s : ByteArray) (hs : Bs s) (w : World) : Calls Try.prog 142 #[.string s, .int .i64 4, .bool true] w (ValP w (.bool (letB s))) := by
 obtain ⟨k, hk⟩ := (letters_f s hs).rounds
 refine (model_letters.calls k s 4 true _ w hk).mono ?_
 rintro e w' ⟨rfl, hb⟩
 exact ⟨rfl, Drawn0.below hb⟩
theorem lang_n (s : ByteArray) (hs : Bs s) (w : World) : Calls Try.prog 142 #[.string s, .int .i64 3, .bool false] w (ValP w (.bool (lanB s))) := by
 obtain ⟨k, hk⟩ := (lang_f s hs).rounds
 refine (model_letters.calls k s 3 false _ w hk).mono ?_
 rintro e w' ⟨rfl, hb⟩
 exact ⟨rfl, Drawn0.below hb⟩
theorem name_n (s : ByteArray) (hs : Bs s) (w : World) : Calls Try.prog 143 #[.string s] w (ValP w (.bool (namB s))) := by
 obtain ⟨k, hk⟩ := (name_f s hs).rounds
 refine (model_isName.calls k s _ w hk).mono ?_
 rintro e w' ⟨rfl, hb⟩
 exact ⟨rfl, Drawn0.below hb⟩
theorem within_n (a lo hi : Int) (w : World) : Calls Try.prog 141 #[.int .i64 a, .int .i64 lo, .int .i64 hi] w (ValP w (.bool (inB a lo hi))) := by
 refine (model_within.calls a lo hi _ w (within_f a lo hi)).mono ?_
 rintro e w' ⟨rfl, hb⟩
 exact ⟨rfl, Drawn0.below hb⟩
section
variable (id kind : Int) (codec : ByteArray) (scale : Int) (A4 : Option Addr) (c4 : Nat) (setup : List Int) (lang name : ByteArray) (pr : Int) (A8 : Option Addr) (c8 : Nat) (edits : List Ed') (A9 : Option Addr) (c9 : Nat) (refs : List Rf) (A10 : Option Addr) (c10 : Nat) (samples : List Sm)
structure Hd (W : World) : Prop where
 s : Kd.C (Kd.int .u8) W A4 setup.length setup
 e : Kd.C k77 W A8 edits.length edits
 r : Kd.C k150 W A9 refs.length refs
 p : Kd.C k120 W A10 samples.length samples
theorem Hd.below {w W : World} (h : Hd A4 setup A8 edits A9 refs A10 samples w) (hb : Below w.heap.size w W) : Hd A4 setup A8 edits A9 refs A10 samples W := ⟨Kd.C_below h.s hb, Kd.C_below h.e hb, Kd.C_below h.r hb, Kd.C_below h.p hb⟩
theorem sample_n (hc4 : setup.length ≤ c4) (hc8 : edits.length ≤ c8) (hc9 : refs.length ≤ c9) (hc10 : samples.length ≤ c10) (i : Int) (before : Int) (X : Sm) (B4 : Option Addr) (d4 : Nat) (B5 : Option Addr) (d5 : Nat) (h0 : 0 ≤ i) (h1 : i < (samples.length : Int)) (hn : samples.length ≤ 1000000) (hb : 0 < i → (rd_T120 samples (i - 1)).f0 = before) (W : World) (h : Hd A4 setup A8 edits A9 refs A10 samples W) (k4 : X.f4.length ≤ d4) (g4 : Kd.C (Kd.int .i64) W B4 X.f4.length X.f4) (k5 : X.f5.length ≤ d5) (g5 : Kd.C (Kd.int .u8) W B5 X.f5.length X.f5) :
  Calls Try.prog 144 #[.agg #[.int .i64 id, .int .i64 kind, .string codec, .int .i64 scale, .slice A4 setup.length c4, .string lang, .string name, .int .i64 pr, .slice A8 edits.length c8, .slice A9 refs.length c9, .slice A10 samples.length c10], .int .i64 i, .agg #[.int .i64 X.f0, .int .i64 X.f1, .int .i64 X.f2, .bool X.f3, .slice B4 X.f4.length d4, .slice B5 X.f5.length d5]] W (ValP W (.int .i64 (smV i before X))) := by
 obtain ⟨j, rfl⟩ : ∃ j : Nat, i = j := ⟨i.toNat, by omega⟩
 obtain ⟨k, hk⟩ := (checkSample_f id kind codec scale setup lang name pr edits refs samples j before X (by omega) hn (fun hj => hb (by omega))).rounds
 exact model_checkSample.calls k id kind codec scale A4 c4 setup lang name pr A8 c8 edits A9 c9 refs A10 c10 samples j X.f0 X.f1 X.f2 X.f3 B4 d4 X.f4 B5 d5 X.f5 _ W h.s hc4 h.e hc8 h.r hc9 h.p hc10 g4 k4 g5 k5 hk
theorem smsV_drop {i before : Int} (h0 : 0 ≤ i) (h1 : i < (samples.length : Int)) : smsV i.toNat before (samples.drop i.toNat) = if smV i before (rd_T120 samples i) = 0 then smsV (i + 1).toNat (rd_T120 samples i).f0 (samples.drop (i + 1).toNat) else smV i before (rd_T120 samples i) := by
 have hn : i.toNat < samples.length := by omega
 have hi : (i + 1).toNat = i.toNat + 1 := by omega
 have hg : rd_T120 samples i = samples[i.toNat] := by
  unfold rd_T120
  rw [List.getD_eq_getElem?_getD, List.getElem?_eq_getElem hn]
  rfl
 have he : ((i.toNat : Nat) : Int) = i := by omega
 rw [hi, hg, List.drop_eq_getElem_cons hn, smsV, he]
theorem refs_drop {i : Int} (h0 : 0 ≤ i) (h1 : i < (refs.length : Int)) : rfsB (refs.drop i.toNat) = (letB (rd_T150 refs i).f0 && rfsB (refs.drop (i + 1).toNat)) ∧ rd_T150 refs i ∈ refs := by
 have hn : i.toNat < refs.length := by omega
 have hi : (i + 1).toNat = i.toNat + 1 := by omega
 have hg : rd_T150 refs i = refs[i.toNat] := by
  unfold rd_T150
  rw [List.getD_eq_getElem?_getD, List.getElem?_eq_getElem hn]
  rfl
 rw [hi, hg, List.drop_eq_getElem_cons hn]
 exact ⟨rfl, List.getElem_mem hn⟩
def edsR (s : Int) (l : List Ed') : Bool := l.all edB && decide (s + sumE l ≤ 1099511627776)
theorem eds_drop {i s : Int} (h0 : 0 ≤ i) (h1 : i < (edits.length : Int)) : edsR s (edits.drop i.toNat) = (edB (rd_T77 edits i) && edsR (s + (rd_T77 edits i).f0) (edits.drop (i + 1).toNat)) := by
 have hn : i.toNat < edits.length := by omega
 have hi : (i + 1).toNat = i.toNat + 1 := by omega
 have hg : rd_T77 edits i = edits[i.toNat] := by
  unfold rd_T77
  rw [List.getD_eq_getElem?_getD, List.getElem?_eq_getElem hn]
  rfl
 rw [hi, hg, List.drop_eq_getElem_cons hn]
 unfold edsR
 rw [List.all_cons, sumE, Bool.and_assoc, Int.add_assoc]
def empB (X : Ed') : Bool := decide (X.f1 = -1) && (decide (X.f2 ≠ 1) || decide (X.f3 ≠ 1))
theorem edB_is (X : Ed') : edB X = (inB X.f0 1 1099511627776 && (inB X.f1 (-1) 1099511627776 && (inB X.f2 0 1000 && (inB X.f3 1 1000 && !(empB X))))) := by
 unfold edB empB
 cases (decide (X.f1 = -1) && (decide (X.f2 ≠ 1) || decide (X.f3 ≠ 1))) <;> rfl
set_option maxHeartbeats 16000000 in
set_option maxRecDepth 100000 in
theorem check_track_n (hok : okB codec lang name refs = true) (hc4 : setup.length ≤ c4) (hc8 : edits.length ≤ c8) (hc9 : refs.length ≤ c9) (hc10 : samples.length ≤ c10) (w : World) (hh : Hd A4 setup A8 edits A9 refs A10 samples w) :
  Calls Try.prog 103 #[.agg #[.int .i64 id, .int .i64 kind, .string codec, .int .i64 scale, .slice A4 setup.length c4, .string lang, .string name, .int .i64 pr, .slice A8 edits.length c8, .slice A9 refs.length c9, .slice A10 samples.length c10]] w (ValP w (.int .i64 (chkT id kind codec scale setup lang name pr edits refs samples))) := by
 have hu := Try.underlying71
 have hu2 := Try.underlying77
 have hu3 := Try.underlying120
 have hu4 := Try.underlying150
 unfold okB at hok
 simp only [Bool.and_eq_true, decide_eq_true_eq, List.all_eq_true] at hok
 have HS := Aside0.mk hok
 have HH := Aside0.mk hh
 have HN := Aside0.mk (And.intro hc4 (And.intro hc8 (And.intro hc9 hc10)))
 have HV := Aside0.mk (show chkT id kind codec scale setup lang name pr edits refs samples = if (fldB id kind codec scale lang name pr && rfsB refs) = true then (if limB setup edits refs samples = true then 2 else if edsB edits = true then smsV 0 0 samples else 33) else 1 from rfl)
 generalize chkT id kind codec scale setup lang name pr edits refs samples = V at *
 clear hok hc4 hc8 hc9 hc10 hh
 go_enter Try.func103, Try.ntmps103
 go_upto_region 1 with (first | ((with_reducible refine gate_dst (N := 1) rfl ?_); refine zB 1 71 #[.int .i64 id, .int .i64 kind, .string codec, .int .i64 scale, .slice A4 setup.length c4, .string lang, .string name, .int .i64 pr, .slice A8 edits.length c8, .slice A9 refs.length c9, .slice A10 samples.length c10] ?_; intro gb hg W0 hbox hb; subst hg; have HB := Aside0.mk (show Bt w W0 #[.int .i64 id, .int .i64 kind, .string codec, .int .i64 scale, .slice A4 setup.length c4, .string lang, .string name, .int .i64 pr, .slice A8 edits.length c8, .slice A9 refs.length c9, .slice A10 samples.length c10] from ⟨hbox, hb⟩); clear hbox hb))
 obtain ⟨q0, q1, q2, q3, q4, q5, q6, q7, q8, q9, qa⟩ := ten_cells HB.out.c
 go_wp2_with fail
 refine (within_n id 1 1000 W0).mono ?_
 rintro e W1 ⟨rfl, hb1⟩
 have HB1 := Aside0.mk (HB.out.step hb1)
 clear hb1 HB q0 q1 q2 q3 q4 q5 q6 q7 q8 q9 qa
 obtain ⟨b1, hb1⟩ : ∃ b : Bool, b = inB id 1 1000 := ⟨_, rfl⟩
 rw [← hb1]
 cases b1 with
 | false =>
  have HV2 := Aside0.mk (show V = 1 by rw [HV.out]; unfold fldB; rw [← hb1]; simp)
  clear HV hb1
  go_wp2_with fail
  go_ret
  exact ⟨ret_i HV2.out.symm, HB1.out.below⟩
 | true =>
 have HT1 := Aside0.mk hb1
 clear hb1
 obtain ⟨q0, q1, q2, q3, q4, q5, q6, q7, q8, q9, qa⟩ := ten_cells HB1.out.c
 go_wp2_with fail
 refine (within_n kind 1 7 W1).mono ?_
 rintro e W2 ⟨rfl, hb2⟩
 have HB2 := Aside0.mk (HB1.out.step hb2)
 clear hb2 HB1 q0 q1 q2 q3 q4 q5 q6 q7 q8 q9 qa
 obtain ⟨b2, hb2⟩ : ∃ b : Bool, b = inB kind 1 7 := ⟨_, rfl⟩
 rw [← hb2]
 cases b2 with
 | false =>
  have HV2 := Aside0.mk (show V = 1 by rw [HV.out]; unfold fldB; rw [← hb2]; simp)
  clear HV hb2
  go_wp2_with fail
  go_ret
  exact ⟨ret_i HV2.out.symm, HB2.out.below⟩
 | true =>
 have HT2 := Aside0.mk hb2
 clear hb2
 obtain ⟨q0, q1, q2, q3, q4, q5, q6, q7, q8, q9, qa⟩ := ten_cells HB2.out.c
 go_wp2_with fail
 refine (letters_n codec HS.out.1 W2).mono ?_
 rintro e W3 ⟨rfl, hb3⟩
 have HB3 := Aside0.mk (HB2.out.step hb3)
 clear hb3 HB2 q0 q1 q2 q3 q4 q5 q6 q7 q8 q9 qa
 obtain ⟨b3, hb3⟩ : ∃ b : Bool, b = letB codec := ⟨_, rfl⟩
 rw [← hb3]
 cases b3 with
 | false =>
  have HV2 := Aside0.mk (show V = 1 by rw [HV.out]; unfold fldB; rw [← hb3]; simp)
  clear HV hb3
  go_wp2_with fail
  go_ret
  exact ⟨ret_i HV2.out.symm, HB3.out.below⟩
 | true =>
 have HT3 := Aside0.mk hb3
 clear hb3
 obtain ⟨q0, q1, q2, q3, q4, q5, q6, q7, q8, q9, qa⟩ := ten_cells HB3.out.c
 go_wp2_with fail
 refine (within_n scale 1 1000000 W3).mono ?_
 rintro e W4 ⟨rfl, hb4⟩
 have HB4 := Aside0.mk (HB3.out.step hb4)
 clear hb4 HB3 q0 q1 q2 q3 q4 q5 q6 q7 q8 q9 qa
 obtain ⟨b4, hb4⟩ : ∃ b : Bool, b = inB scale 1 1000000 := ⟨_, rfl⟩
 rw [← hb4]
 cases b4 with
 | false =>
  have HV2 := Aside0.mk (show V = 1 by rw [HV.out]; unfold fldB; rw [← hb4]; simp)
  clear HV hb4
  go_wp2_with fail
  go_ret
  exact ⟨ret_i HV2.out.symm, HB4.out.below⟩
 | true =>
 have HT4 := Aside0.mk hb4
 clear hb4
 obtain ⟨q0, q1, q2, q3, q4, q5, q6, q7, q8, q9, qa⟩ := ten_cells HB4.out.c
 go_wp2_with fail
 refine (lang_n lang HS.out.2.1 W4).mono ?_
 rintro e W5 ⟨rfl, hb5⟩
 have HB5 := Aside0.mk (HB4.out.step hb5)
 clear hb5 HB4 q0 q1 q2 q3 q4 q5 q6 q7 q8 q9 qa
 obtain ⟨b5, hb5⟩ : ∃ b : Bool, b = lanB lang := ⟨_, rfl⟩
 rw [← hb5]
 cases b5 with
 | false =>
  have HV2 := Aside0.mk (show V = 1 by rw [HV.out]; unfold fldB; rw [← hb5]; simp)
  clear HV hb5
  go_wp2_with fail
  go_ret
  exact ⟨ret_i HV2.out.symm, HB5.out.below⟩
 | true =>
 have HT5 := Aside0.mk hb5
 clear hb5
 obtain ⟨q0, q1, q2, q3, q4, q5, q6, q7, q8, q9, qa⟩ := ten_cells HB5.out.c
 go_wp2_with fail
 refine (name_n name HS.out.2.2.1 W5).mono ?_
 rintro e W6 ⟨rfl, hb6⟩
 have HB6 := Aside0.mk (HB5.out.step hb6)
 clear hb6 HB5 q0 q1 q2 q3 q4 q5 q6 q7 q8 q9 qa
 obtain ⟨b6, hb6⟩ : ∃ b : Bool, b = namB name := ⟨_, rfl⟩
 rw [← hb6]
 cases b6 with
 | false =>
  have HV2 := Aside0.mk (show V = 1 by rw [HV.out]; unfold fldB; rw [← hb6]; simp)
  clear HV hb6
  go_wp2_with fail
  go_ret
  exact ⟨ret_i HV2.out.symm, HB6.out.below⟩
 | true =>
 have HT6 := Aside0.mk hb6
 clear hb6
 obtain ⟨q0, q1, q2, q3, q4, q5, q6, q7, q8, q9, qa⟩ := ten_cells HB6.out.c
 go_wp2_with fail
 refine (within_n pr 0 1099511627776 W6).mono ?_
 rintro e W7 ⟨rfl, hb7⟩
 have HB7 := Aside0.mk (HB6.out.step hb7)
 clear hb7 HB6 q0 q1 q2 q3 q4 q5 q6 q7 q8 q9 qa
 obtain ⟨b7, hb7⟩ : ∃ b : Bool, b = inB pr 0 1099511627776 := ⟨_, rfl⟩
 rw [← hb7]
 cases b7 with
 | false =>
  have HV2 := Aside0.mk (show V = 1 by rw [HV.out]; unfold fldB; rw [← hb7]; simp)
  clear HV hb7
  go_wp2_with fail
  go_ret
  exact ⟨ret_i HV2.out.symm, HB7.out.below⟩
 | true =>
 have HT7 := Aside0.mk hb7
 clear hb7
 have HV2 := Aside0.mk (show V = if rfsB (refs.drop (0 : Int).toNat) = true then (if limB setup edits refs samples = true then 2 else if edsB edits = true then smsV 0 0 samples else 33) else 1 by
  rw [HV.out]
  unfold fldB
  rw [← HT1.out, ← HT2.out, ← HT3.out, ← HT4.out, ← HT5.out, ← HT6.out, ← HT7.out]
  simp)
 clear HV HT1 HT2 HT3 HT4 HT5 HT6 HT7
 obtain ⟨q0, q1, q2, q3, q4, q5, q6, q7, q8, q9, qa⟩ := ten_cells HB7.out.c
 go_wp2_with fail
 clear q0 q1 q2 q3 q4 q5 q6 q7 q8 q9 qa
 go_loopg [55] refs.length (fun kq v55 w' => ∃ i : Int, v55 = .int .i64 i ∧ Aside0 (0 ≤ i ∧ i + kq = refs.length ∧ V = if rfsB (refs.drop i.toNat) = true then (if limB setup edits refs samples = true then 2 else if edsB edits = true then smsV 0 0 samples else 33) else 1) ∧ Aside0 (Bt w w' #[.int .i64 id, .int .i64 kind, .string codec, .int .i64 scale, .slice A4 setup.length c4, .string lang, .string name, .int .i64 pr, .slice A8 edits.length c8, .slice A9 refs.length c9, .slice A10 samples.length c10]))
 case atStart => exact ⟨0, rfl, ⟨by simp, by simp, HV2.out⟩, ⟨HB7.out⟩⟩
 case round =>
  clear HB7 HV2
  obtain ⟨i, rfl, hi, hB⟩ := hrel
  by_cases hlt : i < (refs.length : Int)
  ·have hlb : decide (i < (refs.length : Int)) = true := decide_eq_true hlt
   have p0 := hi.out.1
   obtain ⟨ad, hA, r0, r1⟩ := at_T150 (Kd.C_below HH.out.r hB.out.below) i p0 hlt
   have HD := Aside0.mk (refs_drop refs p0 hlt)
   obtain ⟨k1, rfl⟩ : ∃ k, gk = k + 1 := ⟨gk - 1, by have := hi.out; omega⟩
   have hwi : wrap64 (i + 1) = i + 1 := by
    have := HS.out.2.2.2.1
    unfold maxLen at this
    exact w64 (by omega) (by omega)
   have HW := Aside0.mk (And.intro hwi (show 0 ≤ i + 1 ∧ i + 1 + (k1 : Int) = refs.length by have := hi.out.2.1; omega))
   have HV3 := Aside0.mk hi.out.2.2
   subst hA
   generalize rd_T150 refs i = X at *
   have HX := Aside0.mk (HS.out.2.2.2.2 X HD.out.2)
   replace p0 := eq_true p0
   replace hlt := eq_true hlt
   have HB4 := Aside0.mk (hB.out.step (below_alloc (Below.refl wr.heap.size wr) (.cells #[.string X.f0, .int .i64 X.f1] 150 (0, 0))))
   clear hwi hi hB
   go_wp2_with fail
   generalize World.alloc wr _ = W2 at *
   have HB5 := HB4
   clear HB4 r0 r1
   refine (letters_n X.f0 HX.out W2).mono ?_
   rintro e W3 ⟨rfl, hb3⟩
   have HB6 := Aside0.mk (HB5.out.step hb3)
   clear hb3 HB5
   obtain ⟨b, hb⟩ : ∃ b : Bool, b = letB X.f0 := ⟨_, rfl⟩
   rw [← hb]
   cases b with
   | false =>
    have HV4 := Aside0.mk (show V = 1 by rw [HV3.out, HD.out.1, ← hb]; simp)
    clear HV3 hb
    go_wp2_with fail
    go_ret
    exact ⟨ret_i HV4.out.symm, HB6.out.below⟩
   | true =>
    have HV4 := Aside0.mk (show V = if rfsB (refs.drop (i + 1).toNat) = true then (if limB setup edits refs samples = true then 2 else if edsB edits = true then smsV 0 0 samples else 33) else 1 by rw [HV3.out, HD.out.1, ← hb]; simp)
    clear HV3 hb
    go_wp2_with fail
    go_roundg k1
    case measure => omega
    case rel => exact ⟨i + 1, by rw [HW.out.1], ⟨HW.out.2.1, HW.out.2.2, HV4.out⟩, ⟨HB6.out⟩⟩
  ·have hlb : decide (i < (refs.length : Int)) = false := decide_eq_false hlt
   have HV3 := Aside0.mk (show V = if limB setup edits refs samples = true then 2 else if edsB edits = true then smsV 0 0 samples else 33 by
    rw [hi.out.2.2, List.drop_of_length_le (by have := hi.out; omega)]
    simp [rfsB])
   replace hlt := eq_false hlt
   clear hi
   obtain ⟨q0, q1, q2, q3, q4, q5, q6, q7, q8, q9, qa⟩ := ten_cells hB.out.c
   obtain ⟨bl, hbl⟩ : ∃ b : Bool, b = limB setup edits refs samples := ⟨_, rfl⟩
   cases bl with
   | true =>
    have HV4 := Aside0.mk (show V = 2 by rw [HV3.out, ← hbl]; simp)
    have hb2 := hbl
    unfold limB at hb2
    clear HV3 hbl
    by_cases l1 : 1000 < setup.length
    ·have m1 : decide ((setup.length : Int) > 1000) = true := decide_eq_true (by omega)
     clear hb2 l1
     go_wp2_with fail
     go_ret
     exact ⟨ret_i HV4.out.symm, hB.out.below⟩
    have m1 : decide ((setup.length : Int) > 1000) = false := decide_eq_false (by omega)
    by_cases l2 : 20 < edits.length
    ·have m2 : decide ((edits.length : Int) > 20) = true := decide_eq_true (by omega)
     clear hb2 l1 l2
     go_wp2_with fail
     go_ret
     exact ⟨ret_i HV4.out.symm, hB.out.below⟩
    have m2 : decide ((edits.length : Int) > 20) = false := decide_eq_false (by omega)
    by_cases l3 : 8 < refs.length
    ·have m3 : decide ((refs.length : Int) > 8) = true := decide_eq_true (by omega)
     clear hb2 l1 l2 l3
     go_wp2_with fail
     go_ret
     exact ⟨ret_i HV4.out.symm, hB.out.below⟩
    have m3 : decide ((refs.length : Int) > 8) = false := decide_eq_false (by omega)
    have m4 : decide ((samples.length : Int) > 400) = true := decide_eq_true (by simp only [l1, l2, l3, decide_false, Bool.false_or] at hb2; have := of_decide_eq_true hb2.symm; omega)
    clear hb2 l1 l2 l3
    go_wp2_with fail
    go_ret
    exact ⟨ret_i HV4.out.symm, hB.out.below⟩
   | false =>
   have HL := Aside0.mk (show setup.length ≤ 1000 ∧ edits.length ≤ 20 ∧ refs.length ≤ 8 ∧ samples.length ≤ 400 by
    unfold limB at hbl
    have h := hbl.symm
    simp only [Bool.or_eq_false_iff, decide_eq_false_iff_not] at h
    omega)
   have HV4 := Aside0.mk (show V = if edsR 0 (edits.drop (0 : Int).toNat) = true then smsV 0 0 samples else 33 by
    rw [HV3.out, ← hbl, if_neg (by decide)]
    unfold edsB edsR
    simp)
   clear HV3 hbl
   have m1 : decide ((setup.length : Int) > 1000) = false := decide_eq_false (by have := HL.out; omega)
   have m2 : decide ((edits.length : Int) > 20) = false := decide_eq_false (by have := HL.out; omega)
   have m3 : decide ((refs.length : Int) > 8) = false := decide_eq_false (by have := HL.out; omega)
   have m4 : decide ((samples.length : Int) > 400) = false := decide_eq_false (by have := HL.out; omega)
   go_wp2_with fail
   clear q0 q1 q2 q3 q4 q5 q6 q7 q8 q9 qa m1 m2 m3 m4
   have HB7 := hB
   clear hB
   go_loopg [5, 89] edits.length (fun kq v5 v89 w' => ∃ s i : Int, v5 = .int .i64 s ∧ v89 = .int .i64 i ∧ Aside0 (0 ≤ i ∧ i + kq = edits.length ∧ V = if edsR s (edits.drop i.toNat) = true then smsV 0 0 samples else 33) ∧ Aside0 (0 ≤ s ∧ s ≤ 1099511627776 * i) ∧ Aside0 (Bt w w' #[.int .i64 id, .int .i64 kind, .string codec, .int .i64 scale, .slice A4 setup.length c4, .string lang, .string name, .int .i64 pr, .slice A8 edits.length c8, .slice A9 refs.length c9, .slice A10 samples.length c10]))
   case atStart => exact ⟨0, 0, rfl, rfl, ⟨by simp, by simp, HV4.out⟩, ⟨by simp⟩, ⟨HB7.out⟩⟩
   case round =>
    clear HB7 HV4
    obtain ⟨s, i, rfl, rfl, hi, hs, hB⟩ := hrel
    by_cases hlt : i < (edits.length : Int)
    ·have hlb : decide (i < (edits.length : Int)) = true := decide_eq_true hlt
     have p0 := hi.out.1
     obtain ⟨ad, hA, r0, r1, r2, r3⟩ := at_T77 (Kd.C_below HH.out.e hB.out.below) i p0 hlt
     have HD := Aside0.mk (eds_drop edits (s := s) p0 hlt)
     obtain ⟨k1, rfl⟩ : ∃ k, gk = k + 1 := ⟨gk - 1, by have := hi.out; omega⟩
     have hwi : wrap64 (i + 1) = i + 1 := by
      have := HL.out
      exact w64 (by omega) (by omega)
     have HW := Aside0.mk (And.intro hwi (show 0 ≤ i + 1 ∧ i + 1 + (k1 : Int) = edits.length by have := hi.out.2.1; omega))
     have HV3 := Aside0.mk hi.out.2.2
     have HI := Aside0.mk (show 0 ≤ s ∧ s ≤ 1099511627776 * i ∧ 0 ≤ i ∧ i ≤ 20 by have := hs.out; have := HL.out; omega)
     subst hA
     generalize rd_T77 edits i = X at *
     replace p0 := eq_true p0
     replace hlt := eq_true hlt
     have HB4 := Aside0.mk (hB.out.step (below_alloc (Below.refl wr.heap.size wr) (.cells #[.int .i64 X.f0, .int .i64 X.f1, .int .i64 X.f2, .int .i64 X.f3] 77 (0, 0))))
     have HE4 := Aside0.mk (blk_new wr (.cells #[.int .i64 X.f0, .int .i64 X.f1, .int .i64 X.f2, .int .i64 X.f3] 77 (0, 0)))
     clear hwi hi hB hs
     go_upto_region 16 with fail
     generalize World.alloc wr _ = W2 at *
     have HB5 := HB4
     have HE5 := HE4
     clear HB4 HE4 r0 r1 r2 r3
     generalize wr.heap.size = gE at *
     have e0 : W2.cell? ⟨gE, 0, none⟩ = some (.int .i64 X.f0) := (blk_cell HE5.out 0).trans rfl
     have e1 : W2.cell? ⟨gE, 1, none⟩ = some (.int .i64 X.f1) := (blk_cell HE5.out 1).trans rfl
     have e2 : W2.cell? ⟨gE, 2, none⟩ = some (.int .i64 X.f2) := (blk_cell HE5.out 2).trans rfl
     have e3 : W2.cell? ⟨gE, 3, none⟩ = some (.int .i64 X.f3) := (blk_cell HE5.out 3).trans rfl
     go_cut [8] (fun v8 wc => v8 = .bool (empB X) ∧ W2 = wc)
     case first =>
      by_cases f1 : X.f1 = -1
      ·have b1 : (X.f1 == -1) = true := by rw [f1]; rfl
       by_cases f2 : X.f2 = 1
       ·have b2 : (X.f2 != 1) = false := by rw [f2]; rfl
        have HE := Aside0.mk (show empB X = (X.f3 != 1) by unfold empB; rw [f1, f2]; simp [bne]; rfl)
        clear f1 f2
        go_wp2_with fail
        go_meet
        case rel => exact ⟨by rw [HE.out], rfl⟩
       ·have b2 : (X.f2 != 1) = true := by simpa using f2
        have HE := Aside0.mk (show empB X = true by unfold empB; rw [f1]; simp [f2])
        clear f1 f2
        go_wp2_with fail
        go_meet
        case rel => exact ⟨by rw [HE.out], rfl⟩
      ·have b1 : (X.f1 == -1) = false := by simpa using f1
       have HE := Aside0.mk (show empB X = false by unfold empB; simp [f1])
       clear f1
       go_wp2_with fail
       go_meet
       case rel => exact ⟨by rw [HE.out], rfl⟩
     case rest =>
     obtain ⟨rfl, rfl⟩ := hcut
     go_wp2_with fail
     refine (within_n X.f0 1 1099511627776 W2).mono ?_
     rintro e W4 ⟨rfl, hb4⟩
     have HB7 := Aside0.mk (HB5.out.step hb4)
     have HE7 := Aside0.mk (blk_below HE5.out hb4)
     clear hb4 HB5 HE5 e0 e1 e2 e3
     have e0 : W4.cell? ⟨gE, 0, none⟩ = some (.int .i64 X.f0) := (blk_cell HE7.out 0).trans rfl
     have e1 : W4.cell? ⟨gE, 1, none⟩ = some (.int .i64 X.f1) := (blk_cell HE7.out 1).trans rfl
     have e2 : W4.cell? ⟨gE, 2, none⟩ = some (.int .i64 X.f2) := (blk_cell HE7.out 2).trans rfl
     have e3 : W4.cell? ⟨gE, 3, none⟩ = some (.int .i64 X.f3) := (blk_cell HE7.out 3).trans rfl
     obtain ⟨b3, hc3⟩ : ∃ b : Bool, b = inB X.f0 1 1099511627776 := ⟨_, rfl⟩
     rw [← hc3]
     cases b3 with
     | false =>
      have HV4 := Aside0.mk (show V = 33 by rw [HV3.out, HD.out, show edB X = false by unfold edB; rw [← hc3]; simp]; rfl)
      clear HV3 hc3
      go_wp2_with fail
      go_ret
      exact ⟨ret_i HV4.out.symm, HB7.out.below⟩
     | true =>
     have HT3 := Aside0.mk hc3
     clear hc3
     go_wp2_with fail
     refine (within_n X.f1 (-1) 1099511627776 W4).mono ?_
     rintro e W5 ⟨rfl, hb5⟩
     have HB8 := Aside0.mk (HB7.out.step hb5)
     have HE8 := Aside0.mk (blk_below HE7.out hb5)
     clear hb5 HB7 HE7 e0 e1 e2 e3
     have e0 : W5.cell? ⟨gE, 0, none⟩ = some (.int .i64 X.f0) := (blk_cell HE8.out 0).trans rfl
     have e1 : W5.cell? ⟨gE, 1, none⟩ = some (.int .i64 X.f1) := (blk_cell HE8.out 1).trans rfl
     have e2 : W5.cell? ⟨gE, 2, none⟩ = some (.int .i64 X.f2) := (blk_cell HE8.out 2).trans rfl
     have e3 : W5.cell? ⟨gE, 3, none⟩ = some (.int .i64 X.f3) := (blk_cell HE8.out 3).trans rfl
     obtain ⟨b4, hc4⟩ : ∃ b : Bool, b = inB X.f1 (-1) 1099511627776 := ⟨_, rfl⟩
     rw [← hc4]
     cases b4 with
     | false =>
      have HV4 := Aside0.mk (show V = 33 by rw [HV3.out, HD.out, show edB X = false by unfold edB; rw [← hc4]; simp]; rfl)
      clear HV3 hc4
      go_wp2_with fail
      go_ret
      exact ⟨ret_i HV4.out.symm, HB8.out.below⟩
     | true =>
     have HT4 := Aside0.mk hc4
     clear hc4
     go_wp2_with fail
     refine (within_n X.f2 0 1000 W5).mono ?_
     rintro e W6 ⟨rfl, hb6⟩
     have HB9 := Aside0.mk (HB8.out.step hb6)
     have HE9 := Aside0.mk (blk_below HE8.out hb6)
     clear hb6 HB8 HE8 e0 e1 e2 e3
     have e0 : W6.cell? ⟨gE, 0, none⟩ = some (.int .i64 X.f0) := (blk_cell HE9.out 0).trans rfl
     have e1 : W6.cell? ⟨gE, 1, none⟩ = some (.int .i64 X.f1) := (blk_cell HE9.out 1).trans rfl
     have e2 : W6.cell? ⟨gE, 2, none⟩ = some (.int .i64 X.f2) := (blk_cell HE9.out 2).trans rfl
     have e3 : W6.cell? ⟨gE, 3, none⟩ = some (.int .i64 X.f3) := (blk_cell HE9.out 3).trans rfl
     obtain ⟨b5, hc5⟩ : ∃ b : Bool, b = inB X.f2 0 1000 := ⟨_, rfl⟩
     rw [← hc5]
     cases b5 with
     | false =>
      have HV4 := Aside0.mk (show V = 33 by rw [HV3.out, HD.out, show edB X = false by unfold edB; rw [← hc5]; simp]; rfl)
      clear HV3 hc5
      go_wp2_with fail
      go_ret
      exact ⟨ret_i HV4.out.symm, HB9.out.below⟩
     | true =>
     have HT5 := Aside0.mk hc5
     clear hc5
     go_wp2_with fail
     refine (within_n X.f3 1 1000 W6).mono ?_
     rintro e W7 ⟨rfl, hb7⟩
     have HB10 := Aside0.mk (HB9.out.step hb7)
     have HE10 := Aside0.mk (blk_below HE9.out hb7)
     clear hb7 HB9 HE9 e0 e1 e2 e3
     have e0 : W7.cell? ⟨gE, 0, none⟩ = some (.int .i64 X.f0) := (blk_cell HE10.out 0).trans rfl
     have e1 : W7.cell? ⟨gE, 1, none⟩ = some (.int .i64 X.f1) := (blk_cell HE10.out 1).trans rfl
     have e2 : W7.cell? ⟨gE, 2, none⟩ = some (.int .i64 X.f2) := (blk_cell HE10.out 2).trans rfl
     have e3 : W7.cell? ⟨gE, 3, none⟩ = some (.int .i64 X.f3) := (blk_cell HE10.out 3).trans rfl
     obtain ⟨b6, hc6⟩ : ∃ b : Bool, b = inB X.f3 1 1000 := ⟨_, rfl⟩
     rw [← hc6]
     cases b6 with
     | false =>
      have HV4 := Aside0.mk (show V = 33 by rw [HV3.out, HD.out, show edB X = false by unfold edB; rw [← hc6]; simp]; rfl)
      clear HV3 hc6
      go_wp2_with fail
      go_ret
      exact ⟨ret_i HV4.out.symm, HB10.out.below⟩
     | true =>
     have HT6 := Aside0.mk hc6
     clear hc6
     have HX := Aside0.mk (show 1 ≤ X.f0 ∧ X.f0 ≤ 1099511627776 by
      have h := HT3.out.symm
      unfold inB at h
      simpa using h)
     obtain ⟨b7, hc7⟩ : ∃ b : Bool, b = empB X := ⟨_, rfl⟩
     rw [← hc7]
     cases b7 with
     | true =>
      have HV4 := Aside0.mk (show V = 33 by rw [HV3.out, HD.out, show edB X = false by rw [edB_is, ← hc7]; simp]; rfl)
      clear HV3 hc7
      go_wp2_with fail
      go_ret
      exact ⟨ret_i HV4.out.symm, HB10.out.below⟩
     | false =>
      have HV4 := Aside0.mk (show V = if edsR (s + X.f0) (edits.drop (i + 1).toNat) = true then smsV 0 0 samples else 33 by rw [HV3.out, HD.out, show edB X = true by rw [edB_is, ← hc7, ← HT3.out, ← HT4.out, ← HT5.out, ← HT6.out]; rfl, Bool.true_and])
      have HM := Aside0.mk (show wrap64 (s + min X.f0 1099511627776) = s + X.f0 by
       have := HX.out
       have := HI.out
       rw [Int.min_eq_left (show X.f0 ≤ 1099511627776 by omega)]
       exact w64 (by omega) (by omega))
      clear HV3 hc7
      go_wp2_with fail
      go_roundg k1
      case measure => omega
      case rel => exact ⟨s + X.f0, i + 1, by rw [HM.out], by rw [HW.out.1], ⟨HW.out.2.1, HW.out.2.2, HV4.out⟩, ⟨by have := HX.out; have := HI.out; omega⟩, ⟨HB10.out⟩⟩
    ·have hlb : decide (i < (edits.length : Int)) = false := decide_eq_false hlt
     have HV3 := Aside0.mk (show V = if s ≤ 1099511627776 then smsV 0 0 samples else 33 by
      rw [hi.out.2.2, List.drop_of_length_le (by have := hi.out; omega)]
      simp [edsR, sumE])
     replace hlt := eq_false hlt
     clear hi hs
     by_cases hbig : s > 1099511627776
     ·have bb : decide (s > 1099511627776) = true := decide_eq_true hbig
      have HV4 := Aside0.mk (show V = 33 by rw [HV3.out, if_neg (by omega)])
      clear HV3 hbig
      go_wp2_with fail
      go_ret
      exact ⟨ret_i HV4.out.symm, hB.out.below⟩
     have bb : decide (s > 1099511627776) = false := decide_eq_false hbig
     have HV4 := Aside0.mk (show V = smsV (0 : Int).toNat 0 (samples.drop (0 : Int).toNat) by rw [HV3.out, if_pos (by omega)]; simp)
     clear HV3 hbig
     obtain ⟨q0, q1, q2, q3, q4, q5, q6, q7, q8, q9, qa⟩ := ten_cells hB.out.c
     go_wp2_with fail
     clear q0 q1 q2 q3 q4 q5 q6 q7 q8 q9 qa bb hlb hlt
     have HB7 := hB
     clear hB
     go_loopg [142] samples.length (fun kq v142 w' => ∃ i before : Int, v142 = .int .i64 i ∧ Aside0 (0 ≤ i ∧ i + kq = samples.length ∧ V = smsV i.toNat before (samples.drop i.toNat) ∧ (0 < i → (rd_T120 samples (i - 1)).f0 = before)) ∧ Aside0 (Bt w w' #[.int .i64 id, .int .i64 kind, .string codec, .int .i64 scale, .slice A4 setup.length c4, .string lang, .string name, .int .i64 pr, .slice A8 edits.length c8, .slice A9 refs.length c9, .slice A10 samples.length c10]))
     case atStart => exact ⟨0, 0, rfl, ⟨by simp, by simp, HV4.out, fun h => by omega⟩, ⟨HB7.out⟩⟩
     case round =>
      clear HB7 HV4
      obtain ⟨i, before, rfl, hi, hB⟩ := hrel
      by_cases hlt : i < (samples.length : Int)
      ·have hlb : decide (i < (samples.length : Int)) = true := decide_eq_true hlt
       have p0 := hi.out.1
       obtain ⟨ad, B4, d4, B5, d5, hA, r0, r1, r2, r3, r4, r5, t4, t5, t6, t7⟩ := at_T120 (Kd.C_below HH.out.p hB.out.below) i p0 hlt
       have HD := Aside0.mk (smsV_drop samples (before := before) p0 hlt)
       have HQ := Aside0.mk (And.intro t4 (And.intro t5 (And.intro t6 t7)))
       obtain ⟨k1, rfl⟩ : ∃ k, gk = k + 1 := ⟨gk - 1, by have := hi.out; omega⟩
       have hwi : wrap64 (i + 1) = i + 1 := by
        have := HL.out
        exact w64 (by omega) (by omega)
       have HW := Aside0.mk (And.intro hwi (show 0 ≤ i + 1 ∧ i + 1 + (k1 : Int) = samples.length by have := hi.out.2.1; omega))
       have HV3 := Aside0.mk hi.out.2.2.1
       have HC := Aside0.mk (fun W (hb : Below w.heap.size w W) g4 g5 => sample_n id kind codec scale A4 c4 setup lang name pr A8 c8 edits A9 c9 refs A10 c10 samples HN.out.1 HN.out.2.1 HN.out.2.2.1 HN.out.2.2.2 i before (rd_T120 samples i) B4 d4 B5 d5 p0 hlt (by have := HL.out; omega) hi.out.2.2.2 W (Hd.below A4 setup A8 edits A9 refs A10 samples HH.out hb) t4 g4 t6 g5)
       have HF := Aside0.mk (show i + 1 - 1 = i by omega)
       subst hA
       generalize hX : rd_T120 samples i = X at *
       have HX := Aside0.mk hX
       replace p0 := eq_true p0
       replace hlt := eq_true hlt
       have HB4 := Aside0.mk (hB.out.step (below_alloc (Below.refl wr.heap.size wr) (.cells #[.int .i64 X.f0, .int .i64 X.f1, .int .i64 X.f2, .bool X.f3, .slice B4 X.f4.length d4, .slice B5 X.f5.length d5] 120 (0, 0))))
       have HE4 := Aside0.mk (blk_new wr (.cells #[.int .i64 X.f0, .int .i64 X.f1, .int .i64 X.f2, .bool X.f3, .slice B4 X.f4.length d4, .slice B5 X.f5.length d5] 120 (0, 0)))
       have HY := Aside0.mk (And.intro (Kd.C_below t5 (below_alloc (Below.refl wr.heap.size wr) (.cells #[.int .i64 X.f0, .int .i64 X.f1, .int .i64 X.f2, .bool X.f3, .slice B4 X.f4.length d4, .slice B5 X.f5.length d5] 120 (0, 0)))) (Kd.C_below t7 (below_alloc (Below.refl wr.heap.size wr) (.cells #[.int .i64 X.f0, .int .i64 X.f1, .int .i64 X.f2, .bool X.f3, .slice B4 X.f4.length d4, .slice B5 X.f5.length d5] 120 (0, 0)))))
       clear hwi hi hB hX t4 t5 t6 t7 HQ
       go_upto_region 25 with fail
       generalize World.alloc wr _ = W2 at *
       generalize wr.heap.size = gE at *
       clear r0 r1 r2 r3 r4 r5
       obtain ⟨q0, q1, q2, q3, q4, q5, q6, q7, q8, q9, qa⟩ := ten_cells HB4.out.c
       have e0 : W2.cell? ⟨gE, 0, none⟩ = some (.int .i64 X.f0) := (blk_cell HE4.out 0).trans rfl
       have e1 : W2.cell? ⟨gE, 1, none⟩ = some (.int .i64 X.f1) := (blk_cell HE4.out 1).trans rfl
       have e2 : W2.cell? ⟨gE, 2, none⟩ = some (.int .i64 X.f2) := (blk_cell HE4.out 2).trans rfl
       have e3 : W2.cell? ⟨gE, 3, none⟩ = some (.bool X.f3) := (blk_cell HE4.out 3).trans rfl
       have e4 : W2.cell? ⟨gE, 4, none⟩ = some (.slice B4 X.f4.length d4) := (blk_cell HE4.out 4).trans rfl
       have e5 : W2.cell? ⟨gE, 5, none⟩ = some (.slice B5 X.f5.length d5) := (blk_cell HE4.out 5).trans rfl
       go_wp2_with fail
       refine (HC.out W2 HB4.out.below HY.out.1 HY.out.2).mono ?_
       rintro e W3 ⟨rfl, hb3⟩
       have HB5 := Aside0.mk (HB4.out.step hb3)
       clear hb3 HB4 HE4 HC HY q0 q1 q2 q3 q4 q5 q6 q7 q8 q9 qa e0 e1 e2 e3 e4 e5
       by_cases hz : smV i before X = 0
       ·have HV4 := Aside0.mk (show V = smsV (i + 1).toNat X.f0 (samples.drop (i + 1).toNat) by rw [HV3.out, HD.out, if_pos hz])
        rw [hz]
        clear HV3 hz HD
        go_wp2_with fail
        go_roundg k1
        case measure => omega
        case rel => exact ⟨i + 1, X.f0, by rw [HW.out.1], ⟨HW.out.2.1, HW.out.2.2, HV4.out, fun _ => by rw [HF.out, HX.out]⟩, ⟨HB5.out⟩⟩
       ·have HV4 := Aside0.mk (show V = smV i before X by rw [HV3.out, HD.out, if_neg hz])
        generalize smV i before X = Y at *
        clear HV3 HD
        go_wp2_with fail
        go_ret
        exact ⟨ret_i HV4.out.symm, HB5.out.below⟩
      ·have hlb : decide (i < (samples.length : Int)) = false := decide_eq_false hlt
       have HV3 := Aside0.mk (show V = 0 by
        rw [hi.out.2.2.1, List.drop_of_length_le (by have := hi.out; omega)]
        rfl)
       replace hlt := eq_false hlt
       clear hi
       go_wp2_with fail
       go_ret
       exact ⟨ret_i HV3.out.symm, hB.out.below⟩
end
end Go.Proofs.Ytpbhepdgamoiaaa.Tw
namespace Go.Proofs.Ytpbhepdgamoiaaa.Pg
open Go.RowKit Go Go.Proofs.YtpbhepdgamoiaaaW.PrintWords Go.Proofs.YtpbhepdgamoiaaaW.PrintLast Go.Proofs.YtpbhepdgamoiaaaW.PrintMore Go.Proofs.Ytpbhepdgamoiaaa.Mn Go.Proofs.Ytpbhepdgamoiaaa.Rf Go.Proofs.Ytpbhepdgamoiaaa.Er Go.Proofs.Ytpbhepdgamoiaaa.Ek Go.Proofs.Ytpbhepdgamoiaaa.E Go.Proofs.Ytpbhepdgamoiaaa.Pe Go.Proofs.Ytpbhepdgamoiaaa.Pf
set_option linter.unusedVariables false
set_option linter.unusedSimpArgs false
instance : DecidableEq Ed := fun x y =>
 decidable_of_iff (x.f0 = y.f0 ∧ x.f1 = y.f1 ∧ x.f2 = y.f2 ∧ x.f3 = y.f3) ⟨fun h => by cases x; cases y; simp_all, fun h => by subst h; simp⟩
theorem ed_ne (x y : Ed) : (!x.f0 == y.f0 || (!x.f1 == y.f1 || (!x.f2 == y.f2 || !x.f3 == y.f3))) = !decide (x = y) := by
 cases x; cases y
 rw [Bool.eq_iff_iff]
 simp
def exL : List Ed := [⟨10, 0, 1, 1⟩, ⟨5, 10, 1, 1⟩]
theorem nrm_ex : nrm 10 10 exL = [⟨15, 0, 1, 1⟩] := by decide +kernel
theorem chk_ex : chk exL 10 10 = 0 := by decide +kernel
theorem awake_f : Ev (fun k => dioramalaw10_awake.f k) true := by
 have h := Normal_f exL 10 10
 unfold norV at h
 rw [if_pos chk_ex, nrm_ex] at h
 refine Ev.congr (fun k => rfl) (Ev.bind h ?_)
 refine Ev.congr (f := fun _ => some true) (fun k => ?_) (Ev.now _)
 rfl
end Go.Proofs.Ytpbhepdgamoiaaa.Pg
namespace Go.Proofs.Ytpbhepdgamoiaaa.Ph
open Go.RowKit Go Go.Proofs.YtpbhepdgamoiaaaW.PrintWords Go.Proofs.YtpbhepdgamoiaaaW.PrintLast Go.Proofs.YtpbhepdgamoiaaaW.PrintMore Go.Proofs.Ytpbhepdgamoiaaa.Mn Go.Proofs.Ytpbhepdgamoiaaa.Rf Go.Proofs.Ytpbhepdgamoiaaa.Er Go.Proofs.Ytpbhepdgamoiaaa.Ek Go.Proofs.Ytpbhepdgamoiaaa.E Go.Proofs.Ytpbhepdgamoiaaa.Pe Go.Proofs.Ytpbhepdgamoiaaa.Pf Go.Proofs.Ytpbhepdgamoiaaa.Pg
set_option linter.unusedVariables false
set_option linter.unusedSimpArgs false
end Go.Proofs.Ytpbhepdgamoiaaa.Ph
namespace Go.Proofs.Ytpbhepdgamoiaaa.Qn
open Go.RowKit Go Go.Proofs.YtpbhepdgamoiaaaW.PrintWords Go.Proofs.YtpbhepdgamoiaaaW.PrintLast Go.Proofs.YtpbhepdgamoiaaaW.PrintMore Go.Proofs.Ytpbhepdgamoiaaa.Ml Go.Proofs.Ytpbhepdgamoiaaa.Mn Go.Proofs.Ytpbhepdgamoiaaa.Nd Go.Proofs.Ytpbhepdgamoiaaa.Pa Go.Proofs.Ytpbhepdgamoiaaa.Pb Go.Proofs.Ytpbhepdgamoiaaa.Rf Go.Proofs.Ytpbhepdgamoiaaa.Er Go.Proofs.Ytpbhepdgamoiaaa.Ek Go.Proofs.Ytpbhepdgamoiaaa.E Go.Proofs.Ytpbhepdgamoiaaa.Pe Go.Proofs.Ytpbhepdgamoiaaa.Pf Go.Proofs.Ytpbhepdgamoiaaa.Pg Go.Proofs.Ytpbhepdgamoiaaa.Qr
set_option linter.unusedVariables false
set_option linter.unusedSimpArgs false
theorem qq_eq {a b c d : Int} (hb : b ≠ 0) (hd : d ≠ 0) : qq a b = qq c d ↔ a * d = c * b := by
 unfold qq
 exact Rat.divInt_eq_divInt_iff hb hd
end Go.Proofs.Ytpbhepdgamoiaaa.Qn
namespace Go.Proofs.Ytpbhepdgamoiaaa.Qo
open Go.RowKit Go Go.Proofs.YtpbhepdgamoiaaaW.PrintWords Go.Proofs.YtpbhepdgamoiaaaW.PrintLast Go.Proofs.YtpbhepdgamoiaaaW.PrintMore Go.Proofs.Ytpbhepdgamoiaaa.Ml Go.Proofs.Ytpbhepdgamoiaaa.Mn Go.Proofs.Ytpbhepdgamoiaaa.Nd Go.Proofs.Ytpbhepdgamoiaaa.Pa Go.Proofs.Ytpbhepdgamoiaaa.Pb Go.Proofs.Ytpbhepdgamoiaaa.Rf Go.Proofs.Ytpbhepdgamoiaaa.Er Go.Proofs.Ytpbhepdgamoiaaa.Ek Go.Proofs.Ytpbhepdgamoiaaa.E Go.Proofs.Ytpbhepdgamoiaaa.Pe Go.Proofs.Ytpbhepdgamoiaaa.Pf Go.Proofs.Ytpbhepdgamoiaaa.Pg Go.Proofs.Ytpbhepdgamoiaaa.Qr Go.Proofs.Ytpbhepdgamoiaaa.Qn
set_option linter.unusedVariables false
set_option linter.unusedSimpArgs false
theorem RV.int {b : Bool} {x y : List Int} {z : Int} {n : Nat} (h : RV b x y (qq z 1) n) (hy : dv 1000000000 y = 1) : sg b (dv 1000000000 x) = z := by
 have e := h.eq
 rw [hy, qq_eq (by decide) (by decide)] at e
 omega
structure RZ (b : Bool) (x y : List Int) (z : Int) (n : Nat) : Prop where
 nx : Nn x
 ny : Nn y
 y1 : dv 1000000000 y = 1
 eq : sg b (dv 1000000000 x) = z
 lx : x.length ≤ n
 ly : y.length ≤ n
end Go.Proofs.Ytpbhepdgamoiaaa.Qo
namespace Go.Proofs.Ytpbhepdgamoiaaa.Qw
open Go.RowKit Go Go.Proofs.YtpbhepdgamoiaaaW.PrintWords Go.Proofs.YtpbhepdgamoiaaaW.PrintLast Go.Proofs.YtpbhepdgamoiaaaW.PrintMore Go.Proofs.Ytpbhepdgamoiaaa.Ml Go.Proofs.Ytpbhepdgamoiaaa.Mn Go.Proofs.Ytpbhepdgamoiaaa.Nd Go.Proofs.Ytpbhepdgamoiaaa.Pa Go.Proofs.Ytpbhepdgamoiaaa.Pb Go.Proofs.Ytpbhepdgamoiaaa.Pc Go.Proofs.Ytpbhepdgamoiaaa.Rf Go.Proofs.Ytpbhepdgamoiaaa.Er Go.Proofs.Ytpbhepdgamoiaaa.Ek Go.Proofs.Ytpbhepdgamoiaaa.E Go.Proofs.Ytpbhepdgamoiaaa.Pe Go.Proofs.Ytpbhepdgamoiaaa.Pf Go.Proofs.Ytpbhepdgamoiaaa.Qr Go.Proofs.Ytpbhepdgamoiaaa.Qn Go.Proofs.Ytpbhepdgamoiaaa.Ew
set_option linter.unusedVariables false
set_option linter.unusedSimpArgs false
theorem qq_nonneg {a b : Int} (ha : 0 ≤ a) (hb : 0 < b) : ¬ qq a b < 0 := by
 have e : (0 : Rat) = qq 0 1 := by unfold qq; simp
 rw [e, qq_lt hb (by decide)]
 omega
end Go.Proofs.Ytpbhepdgamoiaaa.Qw
namespace Go.Proofs.Ytpbhepdgamoiaaa.Nm
open Go.RowKit Go Go.Proofs.Ytpbhepdgamoiaaa.Rf Go.Proofs.Ytpbhepdgamoiaaa.Er Go.Proofs.Ytpbhepdgamoiaaa.Ek Go.Proofs.Ytpbhepdgamoiaaa.Et Go.Proofs.Ytpbhepdgamoiaaa.E Go.Proofs.Ytpbhepdgamoiaaa.Pe Go.Proofs.Ytpbhepdgamoiaaa.Pf Go.Proofs.Ytpbhepdgamoiaaa.Qr Go.Proofs.Ytpbhepdgamoiaaa.Qn Go.Proofs.Ytpbhepdgamoiaaa.Qw
set_option linter.unusedVariables false
set_option linter.unusedSimpArgs false
abbrev noV : (Int × Int) × Bool × Int := ((0, 1), false, 0)
end Go.Proofs.Ytpbhepdgamoiaaa.Nm
namespace Go.Proofs.Ytpbhepdgamoiaaa.Qp
open Go.RowKit Go Go.Proofs.YtpbhepdgamoiaaaW.PrintWords Go.Proofs.YtpbhepdgamoiaaaW.PrintLast Go.Proofs.YtpbhepdgamoiaaaW.PrintMore Go.Proofs.Ytpbhepdgamoiaaa.Ml Go.Proofs.Ytpbhepdgamoiaaa.Mn Go.Proofs.Ytpbhepdgamoiaaa.Nd Go.Proofs.Ytpbhepdgamoiaaa.Pa Go.Proofs.Ytpbhepdgamoiaaa.Pb Go.Proofs.Ytpbhepdgamoiaaa.Rf Go.Proofs.Ytpbhepdgamoiaaa.Er Go.Proofs.Ytpbhepdgamoiaaa.Ek Go.Proofs.Ytpbhepdgamoiaaa.E Go.Proofs.Ytpbhepdgamoiaaa.Pe Go.Proofs.Ytpbhepdgamoiaaa.Pf Go.Proofs.Ytpbhepdgamoiaaa.Pg Go.Proofs.Ytpbhepdgamoiaaa.Qr Go.Proofs.Ytpbhepdgamoiaaa.Qn Go.Proofs.Ytpbhepdgamoiaaa.Qo
set_option linter.unusedVariables false
set_option linter.unusedSimpArgs false
end Go.Proofs.Ytpbhepdgamoiaaa.Qp
namespace Go.Proofs.Ytpbhepdgamoiaaa.Qe
open Go.RowKit Go Go.Proofs.YtpbhepdgamoiaaaW.PrintWords Go.Proofs.YtpbhepdgamoiaaaW.PrintLast Go.Proofs.YtpbhepdgamoiaaaW.PrintMore Go.Proofs.Ytpbhepdgamoiaaa.Mn Go.Proofs.Ytpbhepdgamoiaaa.Er Go.Proofs.Ytpbhepdgamoiaaa.Ek Go.Proofs.Ytpbhepdgamoiaaa.E Go.Proofs.Ytpbhepdgamoiaaa.Pe Go.Proofs.Ytpbhepdgamoiaaa.Pf Go.Proofs.Ytpbhepdgamoiaaa.Pg
set_option linter.unusedVariables false
set_option linter.unusedSimpArgs false
theorem eqEdits_l (a b : List Ed) (hl : a.length ≤ 1000000) (ra : List Ed) : ∀ (pre rb : List Ed), a = pre ++ ra → b = pre ++ rb → ra.length = rb.length → Ev (fun k => dioramaref00_EqEdits.l0 k a b (pre.length : Int)) (decide (ra = rb)) := by
 induction ra with
 | nil =>
  intro pre rb ha hb hr
  have : rb = [] := by cases rb with | nil => rfl | cons _ _ => simp at hr
  subst this
  refine Ev.step (f := fun _ => some (decide (([] : List Ed) = []))) (fun k => ?_) (Ev.now _)
  simp only [dioramaref00_EqEdits.l0]
  rw [if_neg (by rw [ha]; simp)]
  simp
 | cons x t ih =>
  intro pre rb ha hb hr
  cases rb with
  | nil => simp at hr
  | cons y u =>
   have hx : rd_T77 a (pre.length : Int) = x := by rw [ha]; exact rd_at pre x t
   have hy : rd_T77 b (pre.length : Int) = y := by rw [hb]; exact rd_at pre y u
   have hla : a.length = pre.length + (t.length + 1) := by rw [ha]; simp
   have hlb : b.length = pre.length + (u.length + 1) := by rw [hb]; simp
   simp only [List.length_cons, Nat.add_right_cancel_iff] at hr
   by_cases hxy : x = y
   ·subst hxy
    have hi := ih (pre ++ [x]) u (by rw [ha]; simp) (by rw [hb]; simp) hr
    have e : decide (x :: t = x :: u) = decide (t = u) := by simp
    rw [e]
    refine Ev.step (fun k => ?_) hi
    simp only [dioramaref00_EqEdits.l0]
    rw [if_pos (by omega), if_pos (by omega), if_pos (by omega), hx, hy, ed_ne, if_neg (by simp), w64 (by omega) (by omega)]
    simp
   ·rw [decide_eq_false (by intro h; injection h with h _; exact hxy h)]
    refine Ev.step (f := fun _ => some false) (fun k => ?_) (Ev.now _)
    simp only [dioramaref00_EqEdits.l0]
    rw [if_pos (by omega), if_pos (by omega), if_pos (by omega), hx, hy, ed_ne, if_pos (by simpa using hxy)]
theorem eqEdits_f (a b : List Ed) (hl : a.length ≤ 1000000) : Ev (fun k => dioramaref00_EqEdits.f k a b) (decide (a = b)) := by
 by_cases h : a.length = b.length
 ·refine Ev.congr (fun k => ?_) (eqEdits_l a b hl a [] b rfl rfl h)
  unfold dioramaref00_EqEdits.f
  rw [if_pos (by omega)]; rfl
 ·rw [decide_eq_false (fun e => h (by rw [e]))]
  refine Ev.congr (fun k => ?_) (Ev.now _)
  unfold dioramaref00_EqEdits.f
  rw [if_neg (by omega)]
theorem eq_f (a : List Ed) (e : Int) (hl : a.length ≤ 1000000) : Ev (fun k => dioramalaw10_eq.f k a e a e) true := by
 have h := eqEdits_f a a hl
 rw [decide_eq_true rfl] at h
 refine Ev.congr (fun k => rfl) (Ev.bind h ?_)
 refine Ev.congr (fun k => if_pos rfl) ?_
 rw [show (e == e) = true by simp]
 exact Ev.now _
end Go.Proofs.Ytpbhepdgamoiaaa.Qe
namespace Go.Proofs.Ytpbhepdgamoiaaa.Oe
open Go.ChangeShapes Go.WideShapes Go.ChangeAt Go.RowKit Go.Joins Go.Deep Go.Proofs.YtpbhepdgamoiaaaW.PrintWords Go.Proofs.YtpbhepdgamoiaaaW.PrintLast Go.Proofs.YtpbhepdgamoiaaaW.PrintMore Go.Proofs.Ytpbhepdgamoiaaa.E
set_option linter.unusedVariables false
theorem laidOut : laidOutB Try.prog = true := by kernel_rfl
theorem own : ownKnob Try.prog.godebug = none := by kernel_rfl
section
variable {H : Type} {enc : TypeId × Value → H} {w : World} {base : Nat} {spare : Nat → Bool} {held : Bool}
structure WfE (x : S77) : Prop where
 d : (Lit.int .i64 x.f0).wf = true
 m : (Lit.int .i64 x.f1).wf = true
 n : (Lit.int .i64 x.f2).wf = true
 e : (Lit.int .i64 x.f3).wf = true
structure Eds (w : World) (a : Option Addr) (len cap : Nat) (l : List S77) : Prop where
 n : l.length = len
 c : Kd.C k77 w a l.length l
 h : l.length ≤ cap
 w : ∀ x ∈ l, WfE x
theorem list_of {α : Type} (P : Nat → α → Prop) (n : Nat) (h : ∀ i, i < n → ∃ x, P i x) : ∃ l : List α, l.length = n ∧ ∀ i x, l[i]? = some x → P i x := by
 induction n with
 | zero => exact ⟨[], rfl, by simp⟩
 | succ n ih =>
  obtain ⟨l, hl, hp⟩ := ih (fun i hi => h i (by omega))
  obtain ⟨x, hx⟩ := h n (by omega)
  refine ⟨l ++ [x], by simp [hl], fun i y hy => ?_⟩
  by_cases hi : i < l.length
  ·rw [List.getElem?_append_left hi] at hy
   exact hp i y hy
  ·have hi2 : i = l.length := by
    have := (List.getElem?_eq_some_iff.1 hy).1
    simp only [List.length_append, List.length_cons, List.length_nil] at this
    omega
   subst hi2
   simp only [Nat.le_refl, List.getElem?_append_right, Nat.sub_self, List.getElem?_cons_zero, Option.some.injEq] at hy
   subst hy
   rw [hl]
   exact hx
set_option maxRecDepth 100000 in
theorem len2 {α : Type} {l : List α} (h : l.length = 2) : ∃ a b, l = [a, b] := by
 match l, h with
 | [a, b], _ => exact ⟨a, b, rfl⟩
set_option maxRecDepth 100000 in
end
end Go.Proofs.Ytpbhepdgamoiaaa.Oe
namespace Go.Proofs.Ytpbhepdgamoiaaa.Fr
open Go.RowKit Go Go.Proofs.YtpbhepdgamoiaaaW.PrintWords Go.Proofs.YtpbhepdgamoiaaaW.PrintLast Go.Proofs.YtpbhepdgamoiaaaW.PrintMore Go.Proofs.Ytpbhepdgamoiaaa.Mn Go.Proofs.Ytpbhepdgamoiaaa.Rf Go.Proofs.Ytpbhepdgamoiaaa.Er Go.Proofs.Ytpbhepdgamoiaaa.Ek Go.Proofs.Ytpbhepdgamoiaaa.E Go.Proofs.Ytpbhepdgamoiaaa.Pe Go.Proofs.Ytpbhepdgamoiaaa.Pf Go.Proofs.Ytpbhepdgamoiaaa.Pg Go.Proofs.Ytpbhepdgamoiaaa.Qr Go.Proofs.Ytpbhepdgamoiaaa.Qn Go.Proofs.Ytpbhepdgamoiaaa.Qo Go.Proofs.Ytpbhepdgamoiaaa.Qp Go.Proofs.Ytpbhepdgamoiaaa.Qe Go.Proofs.Ytpbhepdgamoiaaa.Qw Go.Proofs.Ytpbhepdgamoiaaa.Oe
set_option linter.unusedVariables false
set_option linter.unusedSimpArgs false
structure Rt (num den : Int) : Prop where
 n0 : 1 ≤ num
 n1 : num ≤ 1000
 d0 : 1 ≤ den
 d1 : den ≤ 1000
end Go.Proofs.Ytpbhepdgamoiaaa.Fr
namespace Go.Proofs.Ytpbhepdgamoiaaa.Cl
open Go.RowKit Go Go.Proofs.YtpbhepdgamoiaaaW.PrintWords Go.Proofs.YtpbhepdgamoiaaaW.PrintLast Go.Proofs.YtpbhepdgamoiaaaW.PrintMore Go.Proofs.Ytpbhepdgamoiaaa.Mn Go.Proofs.Ytpbhepdgamoiaaa.Rf Go.Proofs.Ytpbhepdgamoiaaa.Er Go.Proofs.Ytpbhepdgamoiaaa.Ek Go.Proofs.Ytpbhepdgamoiaaa.Ew Go.Proofs.Ytpbhepdgamoiaaa.E Go.Proofs.Ytpbhepdgamoiaaa.Pe Go.Proofs.Ytpbhepdgamoiaaa.Pf Go.Proofs.Ytpbhepdgamoiaaa.Pg Go.Proofs.Ytpbhepdgamoiaaa.Qr Go.Proofs.Ytpbhepdgamoiaaa.Qn Go.Proofs.Ytpbhepdgamoiaaa.Qo Go.Proofs.Ytpbhepdgamoiaaa.Qp Go.Proofs.Ytpbhepdgamoiaaa.Qe Go.Proofs.Ytpbhepdgamoiaaa.Qw Go.Proofs.Ytpbhepdgamoiaaa.Oe Go.Proofs.Ytpbhepdgamoiaaa.Fr
set_option linter.unusedVariables false
set_option linter.unusedSimpArgs false
def scB (a : Int) : Bool := decide (1 ≤ a) && decide (a ≤ 1000000)
theorem scale_f (a : Int) : edit_isScale.f a = some (scB a) := by
 unfold edit_isScale.f scB
 by_cases h : a ≥ 1
 ·rw [if_pos h, decide_eq_true (show 1 ≤ a from h), Bool.true_and]
 ·rw [if_neg h, decide_eq_false (show ¬ 1 ≤ a from h), Bool.false_and]
end Go.Proofs.Ytpbhepdgamoiaaa.Cl

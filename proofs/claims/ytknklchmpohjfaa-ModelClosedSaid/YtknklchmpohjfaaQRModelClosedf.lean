/-
  model.Check: the first error of a movie, over what is said of its chapters, tags and bytes. The small track of the Model laws' awake. The sample at a movie time in a track without edits; the track that is asked for, where it is there. A map from things (a kind with an Id) to bools. checkChapters, checkRest and Bytes of a movie that has tracks alone. The Model laws' awake: a small movie is taken and shown.
-/
import Derived.Test.YtknklchmpohjfaaQRModelClosede
import Derived.Test.YtknklchmpohjfaaQRModelClosedc
import Derived.Test.YtknklchmpohjfaaQRModelClosedd
import Derived.DeepKeys4
import Derived.ChangeKeys
import Derived.Laws.EntriesVeiled
import Derived.Test.YtknklchmpohjfaaQRModelCloseda
import Derived.Test.YtknklchmpohjfaaQRModelClosedb
namespace Go.Proofs.Ytknklchmpohjfaa.Ge
open Go.RowKit Go Go.Proofs.YtknklchmpohjfaaW.PrintWords Go.Proofs.YtknklchmpohjfaaW.PrintLast Go.Proofs.YtknklchmpohjfaaW.PrintMore Go.Proofs.Ytknklchmpohjfaa.Mn Go.Proofs.Ytknklchmpohjfaa.Nd Go.Proofs.Ytknklchmpohjfaa.Z Go.Proofs.Ytknklchmpohjfaa.E Go.Proofs.Ytknklchmpohjfaa.Tk Go.Proofs.Ytknklchmpohjfaa.Tw Go.Proofs.Ytknklchmpohjfaa.Gs Go.Proofs.Ytknklchmpohjfaa.Gd
set_option linter.unusedVariables false
set_option linter.unusedSimpArgs false
def scan (p : Tr' → Int → Option (Int × Int)) (E : Int × Int) : List Tr' → Int → Int × Int
 | [], _ => E
 | T :: l, i => match p T i with
  | some v => v
  | none => scan p E l (i + 1)
theorem scan_drop {p : Tr' → Int → Option (Int × Int)} {E : Int × Int} {ts : List Tr'} {i : Int} (h0 : 0 ≤ i) (h1 : i < (ts.length : Int)) : scan p E (ts.drop i.toNat) i = match p (rd_T40 ts i) i with
  | some v => v
  | none => scan p E (ts.drop (i + 1).toNat) (i + 1) := by
 have hn : i.toNat < ts.length := by omega
 have hi : (i + 1).toNat = i.toNat + 1 := by omega
 have hg : rd_T40 ts i = ts[i.toNat] := by
  unfold rd_T40
  rw [List.getD_eq_getElem?_getD, List.getElem?_eq_getElem hn]
  rfl
 rw [hi, hg, List.drop_eq_getElem_cons hn, scan]
theorem rd_mem {ts : List Tr'} {i : Int} (h0 : 0 ≤ i) (h1 : i < (ts.length : Int)) : rd_T40 ts i ∈ ts := by
 have hn : i.toNat < ts.length := by omega
 unfold rd_T40
 rw [List.getD_eq_getElem?_getD, List.getElem?_eq_getElem hn]
 exact List.getElem_mem hn
def chkR (T : Tr') : Int := chkT T.f0 T.f1 T.f2 T.f3 T.f4 T.f5 T.f6 T.f7 T.f8 T.f9 T.f10
def pA (T : Tr') (i : Int) : Option (Int × Int) := if chkR T = 0 then none else some (chkR T, i)
def pB (ts : List Tr') (T : Tr') (i : Int) : Option (Int × Int) := if findT ts T.f0 0 < i then some (30, i) else none
def badR (ts : List Tr') (id : Int) (l : List Rf) : Bool := l.any (fun r => decide (r.f1 = id) || decide (findT ts r.f1 0 < 0))
def pC (ts : List Tr') (T : Tr') (i : Int) : Option (Int × Int) := if badR ts T.f0 T.f9 = true then some (30, i) else none
def tl3 (e1 e2 by_ : Int) : Int × Int := if e1 = 0 then (if e2 = 0 then (if 524288 < by_ then (2, -1) else (0, -1)) else (e2, -1)) else (e1, -1)
def chkM (scale : Int) (title : ByteArray) (ts : List Tr') (n3 n4 n5 : Nat) (e1 e2 by_ : Int) : Int × Int :=
 if (inB scale 1 1000000 && namB title) = true then (if 8 < ts.length ∨ 4 < n3 ∨ 20 < n4 ∨ 6 < n5 then (2, -1) else scan pA (scan (pB ts) (scan (pC ts) (tl3 e1 e2 by_) ts 0) ts 0) ts 0) else (1, -1)
theorem bad_drop {ts : List Tr'} {id : Int} {l : List Rf} {i : Int} (h0 : 0 ≤ i) (h1 : i < (l.length : Int)) : badR ts id (l.drop i.toNat) = ((decide ((rd_T68 l i).f1 = id) || decide (findT ts (rd_T68 l i).f1 0 < 0)) || badR ts id (l.drop (i + 1).toNat)) := by
 have hn : i.toNat < l.length := by omega
 have hi : (i + 1).toNat = i.toNat + 1 := by omega
 have hg : rd_T68 l i = l[i.toNat] := by
  unfold rd_T68
  rw [List.getD_eq_getElem?_getD, List.getElem?_eq_getElem hn]
  rfl
 rw [hi, hg, List.drop_eq_getElem_cons hn]
 unfold badR
 rw [List.any_cons]
theorem mv_cells {w : World} {g : Nat} {t : TypeId} {a0 a1 a2 a3 a4 a5 : Value} (h : w.heap[g]? = some (.cells #[a0, a1, a2, a3, a4, a5] t (0, 0))) : w.cell? ⟨g, 0, none⟩ = some a0 ∧ w.cell? ⟨g, 1, none⟩ = some a1 ∧ w.cell? ⟨g, 2, none⟩ = some a2 ∧ w.cell? ⟨g, 3, none⟩ = some a3 ∧ w.cell? ⟨g, 4, none⟩ = some a4 ∧ w.cell? ⟨g, 5, none⟩ = some a5 :=
 ⟨(blk_cell h 0).trans rfl, (blk_cell h 1).trans rfl, (blk_cell h 2).trans rfl, (blk_cell h 3).trans rfl, (blk_cell h 4).trans rfl, (blk_cell h 5).trans rfl⟩
set_option maxHeartbeats 16000000 in
set_option maxRecDepth 100000 in
theorem check_n (scale : Int) (title : ByteArray) (ts : List Tr') (A2 : Option Addr) (c2 : Nat) (A3 : Option Addr) (n3 c3 : Nat) (A4 : Option Addr) (n4 c4 : Nat) (A5 : Option Addr) (n5 c5 : Nat) (e1 e2 by_ : Int) (w : World) (hr : Kd.C k40 w A2 ts.length ts) (hs : Bs title) (hok : ∀ T ∈ ts, okB T.f2 T.f5 T.f6 T.f9 = true)
  (h1 : ∀ W, Below w.heap.size w W → Calls Try.prog 32 #[.agg #[.int .i64 scale, .string title, .slice A2 ts.length c2, .slice A3 n3 c3, .slice A4 n4 c4, .slice A5 n5 c5]] W (ValP W (.int .i64 e1)))
  (h2 : ∀ W, Below w.heap.size w W → Calls Try.prog 33 #[.agg #[.int .i64 scale, .string title, .slice A2 ts.length c2, .slice A3 n3 c3, .slice A4 n4 c4, .slice A5 n5 c5]] W (ValP W (.int .i64 e2)))
  (h3 : ∀ W, Below w.heap.size w W → Calls Try.prog 13 #[.agg #[.int .i64 scale, .string title, .slice A2 ts.length c2, .slice A3 n3 c3, .slice A4 n4 c4, .slice A5 n5 c5]] W (ValP W (.int .i64 by_))) :
  Calls Try.prog 9 #[.agg #[.int .i64 scale, .string title, .slice A2 ts.length c2, .slice A3 n3 c3, .slice A4 n4 c4, .slice A5 n5 c5]] w (ValP w (.tuple #[.int .i64 (chkM scale title ts n3 n4 n5 e1 e2 by_).1, .int .i64 (chkM scale title ts n3 n4 n5 e1 e2 by_).2])) := by
 have hu := Try.underlying27
 have hu2 := Try.underlying40
 have hu3 := Try.underlying68
 have HR := Aside0.mk hr
 have HL := Aside0.mk hr.2.1
 have HS := Aside0.mk (And.intro hs hok)
 have HC := Aside0.mk (And.intro h1 (And.intro h2 h3))
 have HV := Aside0.mk (show chkM scale title ts n3 n4 n5 e1 e2 by_ = if (inB scale 1 1000000 && namB title) = true then (if 8 < ts.length ∨ 4 < n3 ∨ 20 < n4 ∨ 6 < n5 then (2, -1) else scan pA (scan (pB ts) (scan (pC ts) (tl3 e1 e2 by_) ts 0) ts 0) ts 0) else (1, -1) from rfl)
 generalize chkM scale title ts n3 n4 n5 e1 e2 by_ = V at *
 clear hr hs hok h1 h2 h3
 go_enter Try.func9, Try.ntmps9
 go_upto_region 1 with (first | ((with_reducible refine gate_dst (N := 1) rfl ?_); refine zB 1 27 #[.int .i64 scale, .string title, .slice A2 ts.length c2, .slice A3 n3 c3, .slice A4 n4 c4, .slice A5 n5 c5] ?_; intro gb hg W0 hbox hb; have HG := Aside0.mk hg; have HM0 := Aside0.mk hbox; have HB0 := Aside0.mk hb; clear hbox hb hg))
 obtain ⟨m0, m1, m2, m3, m4, m5⟩ := mv_cells HM0.out
 go_wp2_with fail
 refine (within_n scale 1 1000000 W0).mono ?_
 rintro e w2 ⟨rfl, hb2⟩
 have HM2 := Aside0.mk (blk_below HM0.out hb2)
 have HB2 := Aside0.mk (HB0.out.trans (hb2.mono HB0.out.size))
 clear hb2 m0 m1 m2 m3 m4 m5 HM0 HB0
 obtain ⟨m0, m1, m2, m3, m4, m5⟩ := mv_cells HM2.out
 obtain ⟨b1, hb1⟩ : ∃ b : Bool, b = inB scale 1 1000000 := ⟨_, rfl⟩
 rw [← hb1]
 cases b1 with
 | false =>
  have HV2 := Aside0.mk (show V = (1, -1) by rw [HV.out, ← hb1, Bool.false_and]; rfl)
  clear HV hb1
  go_wp2_with fail
  go_ret2
  exact ⟨by rw [HV2.out]; rfl, HB2.out⟩
 | true =>
 have HT1 := Aside0.mk hb1
 clear hb1
 go_wp2_with fail
 refine (name_n title HS.out.1 w2).mono ?_
 rintro e w3 ⟨rfl, hb3⟩
 have HM3 := Aside0.mk (blk_below HM2.out hb3)
 have HB3 := Aside0.mk (HB2.out.trans (hb3.mono HB2.out.size))
 clear hb3 m0 m1 m2 m3 m4 m5 HM2 HB2
 obtain ⟨m0, m1, m2, m3, m4, m5⟩ := mv_cells HM3.out
 obtain ⟨b1, hb1⟩ : ∃ b : Bool, b = namB title := ⟨_, rfl⟩
 rw [← hb1]
 cases b1 with
 | false =>
  have HV2 := Aside0.mk (show V = (1, -1) by rw [HV.out, ← hb1, Bool.and_false]; rfl)
  clear HV hb1
  go_wp2_with fail
  go_ret2
  exact ⟨by rw [HV2.out]; rfl, HB3.out⟩
 | true =>
 have HV3 := Aside0.mk (show V = if 8 < ts.length ∨ 4 < n3 ∨ 20 < n4 ∨ 6 < n5 then (2, -1) else scan pA (scan (pB ts) (scan (pC ts) (tl3 e1 e2 by_) ts 0) ts 0) ts 0 by rw [HV.out, ← HT1.out, ← hb1]; rfl)
 clear HV hb1
 by_cases l8 : 8 < ts.length
 ·have b8 : decide ((ts.length : Int) > 8) = true := decide_eq_true (by omega)
  have HV4 := Aside0.mk (show V = (2, -1) by rw [HV3.out, if_pos (.inl l8)])
  clear HV3 l8
  go_wp2_with fail
  go_ret2
  exact ⟨by rw [HV4.out]; rfl, HB3.out⟩
 have b8 : decide ((ts.length : Int) > 8) = false := decide_eq_false (by omega)
 by_cases l3 : 4 < n3
 ·have b3 : decide ((n3 : Int) > 4) = true := decide_eq_true (by omega)
  have HV4 := Aside0.mk (show V = (2, -1) by rw [HV3.out, if_pos (.inr (.inl l3))])
  clear HV3 l8 l3
  go_wp2_with fail
  go_ret2
  exact ⟨by rw [HV4.out]; rfl, HB3.out⟩
 have b3 : decide ((n3 : Int) > 4) = false := decide_eq_false (by omega)
 by_cases l4 : 20 < n4
 ·have b4 : decide ((n4 : Int) > 20) = true := decide_eq_true (by omega)
  have HV4 := Aside0.mk (show V = (2, -1) by rw [HV3.out, if_pos (.inr (.inr (.inl l4)))])
  clear HV3 l8 l3 l4
  go_wp2_with fail
  go_ret2
  exact ⟨by rw [HV4.out]; rfl, HB3.out⟩
 have b4 : decide ((n4 : Int) > 20) = false := decide_eq_false (by omega)
 by_cases l5 : 6 < n5
 ·have b5 : decide ((n5 : Int) > 6) = true := decide_eq_true (by omega)
  have HV4 := Aside0.mk (show V = (2, -1) by rw [HV3.out, if_pos (.inr (.inr (.inr l5)))])
  clear HV3 l8 l3 l4 l5
  go_wp2_with fail
  go_ret2
  exact ⟨by rw [HV4.out]; rfl, HB3.out⟩
 have b5 : decide ((n5 : Int) > 6) = false := decide_eq_false (by omega)
 have HV4 := Aside0.mk (show V = scan pA (scan (pB ts) (scan (pC ts) (tl3 e1 e2 by_) ts 0) ts 0) (ts.drop (0 : Int).toNat) 0 by rw [HV3.out, if_neg (by omega)]; simp)
 clear HV3 l8 l3 l4 l5
 go_wp2_with fail
 clear m0 m1 m2 m3 m4 m5 b8 b3 b4 b5
 go_loopg [50] ts.length (fun kq v50 w' => ∃ i : Int, v50 = .int .i64 i ∧ Aside0 (0 ≤ i ∧ i + kq = ts.length ∧ V = scan pA (scan (pB ts) (scan (pC ts) (tl3 e1 e2 by_) ts 0) ts 0) (ts.drop i.toNat) i) ∧ Aside0 (w'.heap[gb]? = some (.cells #[.int .i64 scale, .string title, .slice A2 ts.length c2, .slice A3 n3 c3, .slice A4 n4 c4, .slice A5 n5 c5] 27 (0, 0))) ∧ Aside0 (Below w.heap.size w w'))
 case atStart => exact ⟨0, rfl, ⟨by simp, by simp, HV4.out⟩, HM3, HB3⟩
 case round =>
  clear HM3 HB3 HV4
  obtain ⟨i, rfl, hi, HM, HB⟩ := hrel
  by_cases hlt : i < (ts.length : Int)
  ·skip
   have hlb : decide (i < (ts.length : Int)) = true := decide_eq_true hlt
   have p0 := hi.out.1
   obtain ⟨ad, B4, d4, B8, d8, B9, d9, B10, d10, hA, r0, r1, r2, r3, r4, r5, r6, r7, r8, r9, r10, t4, k4, t8, k8, t9, k9, t10, k10⟩ := at_T40 (Kd.C_below HR.out HB.out) i p0 hlt
   have HD := Aside0.mk (scan_drop (p := pA) (E := (scan (pB ts) (scan (pC ts) (tl3 e1 e2 by_) ts 0) ts 0)) p0 hlt)
   have HO := Aside0.mk (rd_mem p0 hlt)
   obtain ⟨k1, rfl⟩ : ∃ m, gk = m + 1 := ⟨gk - 1, by have := hi.out; omega⟩
   have HY := Aside0.mk (And.intro (show wrap64 (i + 1) = i + 1 by have := HL.out; exact w64 (by omega) (by omega)) (show 0 ≤ i + 1 ∧ i + 1 + (k1 : Int) = ts.length by have := hi.out; omega))
   have HI := Aside0.mk hi.out.2.2
   subst hA
   generalize rd_T40 ts i = T at *
   have HX0 := Aside0.mk (fun W (hb : Below wr.heap.size wr W) => check_track_n T.f0 T.f1 T.f2 T.f3 B4 d4 T.f4 T.f5 T.f6 T.f7 B8 d8 T.f8 B9 d9 T.f9 B10 d10 T.f10 (HS.out.2 T HO.out) t4 t8 t9 t10 W (Hd.below B4 T.f4 B8 T.f8 B9 T.f9 B10 T.f10 ⟨k4, k8, k9, k10⟩ hb))
   replace p0 := eq_true p0
   replace hlt := eq_true hlt
   clear hi t4 k4 t8 k8 t9 k9 t10 k10
   go_upto_region 8 with fail
   have HM1 := Aside0.mk (blk_alloc HM.out (.cells #[.int .i64 T.f0, .int .i64 T.f1, .string T.f2, .int .i64 T.f3, .slice B4 T.f4.length d4, .string T.f5, .string T.f6, .int .i64 T.f7, .slice B8 T.f8.length d8, .slice B9 T.f9.length d9, .slice B10 T.f10.length d10] 40 (0, 0)))
   have HE1 := Aside0.mk (blk_new wr (.cells #[.int .i64 T.f0, .int .i64 T.f1, .string T.f2, .int .i64 T.f3, .slice B4 T.f4.length d4, .string T.f5, .string T.f6, .int .i64 T.f7, .slice B8 T.f8.length d8, .slice B9 T.f9.length d9, .slice B10 T.f10.length d10] 40 (0, 0)))
   have HB1 := Aside0.mk (below_alloc HB.out (.cells #[.int .i64 T.f0, .int .i64 T.f1, .string T.f2, .int .i64 T.f3, .slice B4 T.f4.length d4, .string T.f5, .string T.f6, .int .i64 T.f7, .slice B8 T.f8.length d8, .slice B9 T.f9.length d9, .slice B10 T.f10.length d10] 40 (0, 0)))
   have hbn := below_alloc (Below.refl wr.heap.size wr) (.cells #[.int .i64 T.f0, .int .i64 T.f1, .string T.f2, .int .i64 T.f3, .slice B4 T.f4.length d4, .string T.f5, .string T.f6, .int .i64 T.f7, .slice B8 T.f8.length d8, .slice B9 T.f9.length d9, .slice B10 T.f10.length d10] 40 (0, 0))
   have HX := Aside0.mk (HX0.out _ hbn)
   clear HX0
   generalize World.alloc wr _ = W1 at *
   generalize wr.heap.size = gE at *
   clear r0 r1 r2 r3 r4 r5 r6 r7 r8 r9 r10 HM HB hbn
   obtain ⟨q0, q1, q2, q3, q4, q5, q6, q7, q8, q9, qa⟩ := ten_cells HE1.out
   go_wp2_with fail
   refine (HX.out.mono ?_)
   rintro e w4 ⟨rfl, hb4⟩
   have HM4 := Aside0.mk (blk_below HM1.out hb4)
   have HB4 := Aside0.mk (HB1.out.trans (hb4.mono HB1.out.size))
   clear hb4 q0 q1 q2 q3 q4 q5 q6 q7 q8 q9 qa HE1 HM1 HB1 HX
   by_cases hz : chkR T = 0
   ·have HV2 := Aside0.mk (show V = scan pA (scan (pB ts) (scan (pC ts) (tl3 e1 e2 by_) ts 0) ts 0) (ts.drop (i + 1).toNat) (i + 1) by rw [HI.out, HD.out]; simp only [pA, if_pos hz])
    rw [show chkT T.f0 T.f1 T.f2 T.f3 T.f4 T.f5 T.f6 T.f7 T.f8 T.f9 T.f10 = 0 from hz]
    clear hz HI HD
    go_wp2_with fail
    go_roundg k1
    case measure => omega
    case rel => exact ⟨i + 1, by rw [HY.out.1], ⟨HY.out.2.1, HY.out.2.2, HV2.out⟩, HM4, HB4⟩
   ·have HV2 := Aside0.mk (show V = (chkR T, i) by rw [HI.out, HD.out]; simp only [pA, if_neg hz])
    have hz2 : ¬ chkT T.f0 T.f1 T.f2 T.f3 T.f4 T.f5 T.f6 T.f7 T.f8 T.f9 T.f10 = 0 := hz
    have HZ := Aside0.mk (show chkR T = chkT T.f0 T.f1 T.f2 T.f3 T.f4 T.f5 T.f6 T.f7 T.f8 T.f9 T.f10 from rfl)
    generalize chkT T.f0 T.f1 T.f2 T.f3 T.f4 T.f5 T.f6 T.f7 T.f8 T.f9 T.f10 = Z at *
    have hz3 : (Z != 0) = true := by simpa using hz2
    clear hz hz2 HI HD
    go_wp2_with fail
    go_ret2
    exact ⟨by rw [HV2.out, HZ.out]; rfl, HB4.out⟩
  ·have hlb : decide (i < (ts.length : Int)) = false := decide_eq_false hlt
   have HV4 := Aside0.mk (show V = scan (pB ts) (scan (pC ts) (tl3 e1 e2 by_) ts 0) (ts.drop (0 : Int).toNat) 0 by
    rw [hi.out.2.2, List.drop_of_length_le (by have := hi.out; omega)]
    rfl)
   obtain ⟨m0, m1, m2, m3, m4, m5⟩ := mv_cells HM.out
   replace hlt := eq_false hlt
   clear hi
   go_wp2_with fail
   clear m0 m1 m2 m3 m4 m5
   go_loopg [65] ts.length (fun kq v65 w' => ∃ i : Int, v65 = .int .i64 i ∧ Aside0 (0 ≤ i ∧ i + kq = ts.length ∧ V = scan (pB ts) (scan (pC ts) (tl3 e1 e2 by_) ts 0) (ts.drop i.toNat) i) ∧ Aside0 (w'.heap[gb]? = some (.cells #[.int .i64 scale, .string title, .slice A2 ts.length c2, .slice A3 n3 c3, .slice A4 n4 c4, .slice A5 n5 c5] 27 (0, 0))) ∧ Aside0 (Below w.heap.size w w'))
   case atStart => exact ⟨0, rfl, ⟨by simp, by simp, HV4.out⟩, HM, HB⟩
   case round =>
    clear HM HB HV4
    obtain ⟨i, rfl, hi, HM, HB⟩ := hrel
    by_cases hlt : i < (ts.length : Int)
    ·skip
     have hlb : decide (i < (ts.length : Int)) = true := decide_eq_true hlt
     have p0 := hi.out.1
     obtain ⟨ad, B4, d4, B8, d8, B9, d9, B10, d10, hA, r0, r1, r2, r3, r4, r5, r6, r7, r8, r9, r10, t4, k4, t8, k8, t9, k9, t10, k10⟩ := at_T40 (Kd.C_below HR.out HB.out) i p0 hlt
     have HD := Aside0.mk (scan_drop (p := (pB ts)) (E := (scan (pC ts) (tl3 e1 e2 by_) ts 0)) p0 hlt)
     obtain ⟨k1, rfl⟩ : ∃ m, gk = m + 1 := ⟨gk - 1, by have := hi.out; omega⟩
     have HY := Aside0.mk (And.intro (show wrap64 (i + 1) = i + 1 by have := HL.out; exact w64 (by omega) (by omega)) (show 0 ≤ i + 1 ∧ i + 1 + (k1 : Int) = ts.length by have := hi.out; omega))
     have HI := Aside0.mk hi.out.2.2
     subst hA
     generalize rd_T40 ts i = T at *
     replace p0 := eq_true p0
     replace hlt := eq_true hlt
     clear hi t4 k4 t8 k8 t9 k9 t10 k10
     obtain ⟨m0, m1, m2, m3, m4, m5⟩ := mv_cells HM.out
     go_upto_region 15 with fail
     clear m0 m1 m2 m3 m4 m5
     have HM1 := Aside0.mk (blk_alloc HM.out (.cells #[.int .i64 T.f0, .int .i64 T.f1, .string T.f2, .int .i64 T.f3, .slice B4 T.f4.length d4, .string T.f5, .string T.f6, .int .i64 T.f7, .slice B8 T.f8.length d8, .slice B9 T.f9.length d9, .slice B10 T.f10.length d10] 40 (0, 0)))
     have HE1 := Aside0.mk (blk_new wr (.cells #[.int .i64 T.f0, .int .i64 T.f1, .string T.f2, .int .i64 T.f3, .slice B4 T.f4.length d4, .string T.f5, .string T.f6, .int .i64 T.f7, .slice B8 T.f8.length d8, .slice B9 T.f9.length d9, .slice B10 T.f10.length d10] 40 (0, 0)))
     have HB1 := Aside0.mk (below_alloc HB.out (.cells #[.int .i64 T.f0, .int .i64 T.f1, .string T.f2, .int .i64 T.f3, .slice B4 T.f4.length d4, .string T.f5, .string T.f6, .int .i64 T.f7, .slice B8 T.f8.length d8, .slice B9 T.f9.length d9, .slice B10 T.f10.length d10] 40 (0, 0)))
     have hbn := below_alloc (Below.refl wr.heap.size wr) (.cells #[.int .i64 T.f0, .int .i64 T.f1, .string T.f2, .int .i64 T.f3, .slice B4 T.f4.length d4, .string T.f5, .string T.f6, .int .i64 T.f7, .slice B8 T.f8.length d8, .slice B9 T.f9.length d9, .slice B10 T.f10.length d10] 40 (0, 0))
     generalize World.alloc wr _ = W1 at *
     generalize wr.heap.size = gE at *
     clear r0 r1 r2 r3 r4 r5 r6 r7 r8 r9 r10 HM HB hbn
     have q0 : W1.cell? ⟨gE, 0, none⟩ = some (.int .i64 T.f0) := (blk_cell HE1.out 0).trans rfl
     obtain ⟨m0, m1, m2, m3, m4, m5⟩ := mv_cells HM1.out
     go_wp2_with fail
     refine (find_n scale title ts _ c2 _ _ _ T.f0 W1 (Kd.C_below HR.out HB1.out)).mono ?_
     rintro e w4 ⟨rfl, hb4⟩
     have HM4 := Aside0.mk (blk_below HM1.out hb4)
     have HB4 := Aside0.mk (HB1.out.trans (hb4.mono HB1.out.size))
     clear hb4 q0 m0 m1 m2 m3 m4 m5 HE1 HM1 HB1
     by_cases hz : findT ts T.f0 0 < i
     ·have hz2 : decide (findT ts T.f0 0 < i) = true := decide_eq_true hz
      have HV2 := Aside0.mk (show V = (30, i) by rw [HI.out, HD.out]; simp only [pB, if_pos hz])
      generalize findT ts T.f0 0 = Z at *
      clear hz HI HD
      go_wp2_with fail
      go_ret2
      exact ⟨by rw [HV2.out]; rfl, HB4.out⟩
     ·have hz2 : decide (findT ts T.f0 0 < i) = false := decide_eq_false hz
      have HV2 := Aside0.mk (show V = scan (pB ts) (scan (pC ts) (tl3 e1 e2 by_) ts 0) (ts.drop (i + 1).toNat) (i + 1) by rw [HI.out, HD.out]; simp only [pB, if_neg hz])
      generalize findT ts T.f0 0 = Z at *
      clear hz HI HD
      go_wp2_with fail
      go_roundg k1
      case measure => omega
      case rel => exact ⟨i + 1, by rw [HY.out.1], ⟨HY.out.2.1, HY.out.2.2, HV2.out⟩, HM4, HB4⟩
    ·have hlb : decide (i < (ts.length : Int)) = false := decide_eq_false hlt
     have HV4 := Aside0.mk (show V = scan (pC ts) (tl3 e1 e2 by_) (ts.drop (0 : Int).toNat) 0 by
      rw [hi.out.2.2, List.drop_of_length_le (by have := hi.out; omega)]
      rfl)
     obtain ⟨m0, m1, m2, m3, m4, m5⟩ := mv_cells HM.out
     replace hlt := eq_false hlt
     clear hi
     go_wp2_with fail
     clear m0 m1 m2 m3 m4 m5
     go_loopg [81] ts.length (fun kq v81 w' => ∃ i : Int, v81 = .int .i64 i ∧ Aside0 (0 ≤ i ∧ i + kq = ts.length ∧ V = scan (pC ts) (tl3 e1 e2 by_) (ts.drop i.toNat) i) ∧ Aside0 (w'.heap[gb]? = some (.cells #[.int .i64 scale, .string title, .slice A2 ts.length c2, .slice A3 n3 c3, .slice A4 n4 c4, .slice A5 n5 c5] 27 (0, 0))) ∧ Aside0 (Below w.heap.size w w'))
     case atStart => exact ⟨0, rfl, ⟨by simp, by simp, HV4.out⟩, HM, HB⟩
     case round =>
      clear HM HB HV4
      obtain ⟨i, rfl, hi, HM, HB⟩ := hrel
      by_cases hlt : i < (ts.length : Int)
      ·skip
       have hlb : decide (i < (ts.length : Int)) = true := decide_eq_true hlt
       have p0 := hi.out.1
       obtain ⟨ad, B4, d4, B8, d8, B9, d9, B10, d10, hA, r0, r1, r2, r3, r4, r5, r6, r7, r8, r9, r10, t4, k4, t8, k8, t9, k9, t10, k10⟩ := at_T40 (Kd.C_below HR.out HB.out) i p0 hlt
       have HD := Aside0.mk (scan_drop (p := (pC ts)) (E := (tl3 e1 e2 by_)) p0 hlt)
       obtain ⟨k1, rfl⟩ : ∃ m, gk = m + 1 := ⟨gk - 1, by have := hi.out; omega⟩
       have HY := Aside0.mk (And.intro (show wrap64 (i + 1) = i + 1 by have := HL.out; exact w64 (by omega) (by omega)) (show 0 ≤ i + 1 ∧ i + 1 + (k1 : Int) = ts.length by have := hi.out; omega))
       have HI := Aside0.mk hi.out.2.2
       subst hA
       generalize rd_T40 ts i = T at *
       have HK0 := Aside0.mk k9
       replace p0 := eq_true p0
       replace hlt := eq_true hlt
       clear hi t4 k4 t8 k8 t9 k9 t10 k10
       obtain ⟨m0, m1, m2, m3, m4, m5⟩ := mv_cells HM.out
       go_upto_region 21 with fail
       clear m0 m1 m2 m3 m4 m5
       have HM1 := Aside0.mk (blk_alloc HM.out (.cells #[.int .i64 T.f0, .int .i64 T.f1, .string T.f2, .int .i64 T.f3, .slice B4 T.f4.length d4, .string T.f5, .string T.f6, .int .i64 T.f7, .slice B8 T.f8.length d8, .slice B9 T.f9.length d9, .slice B10 T.f10.length d10] 40 (0, 0)))
       have HE1 := Aside0.mk (blk_new wr (.cells #[.int .i64 T.f0, .int .i64 T.f1, .string T.f2, .int .i64 T.f3, .slice B4 T.f4.length d4, .string T.f5, .string T.f6, .int .i64 T.f7, .slice B8 T.f8.length d8, .slice B9 T.f9.length d9, .slice B10 T.f10.length d10] 40 (0, 0)))
       have HB1 := Aside0.mk (below_alloc HB.out (.cells #[.int .i64 T.f0, .int .i64 T.f1, .string T.f2, .int .i64 T.f3, .slice B4 T.f4.length d4, .string T.f5, .string T.f6, .int .i64 T.f7, .slice B8 T.f8.length d8, .slice B9 T.f9.length d9, .slice B10 T.f10.length d10] 40 (0, 0)))
       have hbn := below_alloc (Below.refl wr.heap.size wr) (.cells #[.int .i64 T.f0, .int .i64 T.f1, .string T.f2, .int .i64 T.f3, .slice B4 T.f4.length d4, .string T.f5, .string T.f6, .int .i64 T.f7, .slice B8 T.f8.length d8, .slice B9 T.f9.length d9, .slice B10 T.f10.length d10] 40 (0, 0))
       have HK := Aside0.mk (Kd.C_below HK0.out hbn)
       clear HK0
       generalize World.alloc wr _ = W1 at *
       generalize wr.heap.size = gE at *
       clear r0 r1 r2 r3 r4 r5 r6 r7 r8 r9 r10 HM HB hbn
       have q9 : W1.cell? ⟨gE, 9, none⟩ = some (.slice B9 T.f9.length d9) := (blk_cell HE1.out 9).trans rfl
       go_wp2_with fail
       clear q9
       go_loopg [89] T.f9.length (fun kq v89 w' => ∃ j : Int, v89 = .int .i64 j ∧ Aside0 (0 ≤ j ∧ j + kq = T.f9.length ∧ badR ts T.f0 T.f9 = badR ts T.f0 (T.f9.drop j.toNat)) ∧ Aside0 (w'.heap[gb]? = some (.cells #[.int .i64 scale, .string title, .slice (some ad) ts.length c2, .slice A3 n3 c3, .slice A4 n4 c4, .slice A5 n5 c5] 27 (0, 0))) ∧ Aside0 (w'.heap[gE]? = some (.cells #[.int .i64 T.f0, .int .i64 T.f1, .string T.f2, .int .i64 T.f3, .slice B4 T.f4.length d4, .string T.f5, .string T.f6, .int .i64 T.f7, .slice B8 T.f8.length d8, .slice B9 T.f9.length d9, .slice B10 T.f10.length d10] 40 (0, 0))) ∧ Aside0 (k68.C w' B9 T.f9.length T.f9) ∧ Aside0 (Below w.heap.size w w'))
       case atStart => exact ⟨0, rfl, ⟨by simp, by simp, by simp⟩, HM1, HE1, HK, HB1⟩
       case round =>
        clear HM1 HE1 HK HB1
        obtain ⟨j, rfl, hj, HM, HE, HK, HB⟩ := hrel
        by_cases hlj : j < (T.f9.length : Int)
        ·have hlb2 : decide (j < (T.f9.length : Int)) = true := decide_eq_true hlj
         have g0 := hj.out.1
         obtain ⟨ad2, hA2, x0, x1⟩ := at_T68 HK.out j g0 hlj
         have HD2 := Aside0.mk (bad_drop (ts := ts) (id := T.f0) g0 hlj)
         obtain ⟨k2, rfl⟩ : ∃ m, gk = m + 1 := ⟨gk - 1, by have := hj.out; omega⟩
         have HY2 := Aside0.mk (And.intro (show wrap64 (j + 1) = j + 1 by have := HK.out.2.1; exact w64 (by omega) (by omega)) (show 0 ≤ j + 1 ∧ j + 1 + (k2 : Int) = T.f9.length by have := hj.out; omega))
         have HJ := Aside0.mk hj.out.2.2
         subst hA2
         generalize rd_T68 T.f9 j = X at *
         replace g0 := eq_true g0
         replace hlj := eq_true hlj
         clear hj
         go_upto_region 24 with fail
         have HM1 := Aside0.mk (blk_alloc HM.out (.cells #[.string X.f0, .int .i64 X.f1] 68 (0, 0)))
         have HE1 := Aside0.mk (blk_alloc HE.out (.cells #[.string X.f0, .int .i64 X.f1] 68 (0, 0)))
         have HX1 := Aside0.mk (blk_new wr (.cells #[.string X.f0, .int .i64 X.f1] 68 (0, 0)))
         have HK1 := Aside0.mk (Kd.C_below HK.out (below_alloc (Below.refl wr.heap.size wr) (.cells #[.string X.f0, .int .i64 X.f1] 68 (0, 0))))
         have HB1 := Aside0.mk (below_alloc HB.out (.cells #[.string X.f0, .int .i64 X.f1] 68 (0, 0)))
         generalize World.alloc wr _ = W1 at *
         generalize wr.heap.size = gX at *
         clear x0 x1 HM HE HK HB
         have q0 : W1.cell? ⟨gE, 0, none⟩ = some (.int .i64 T.f0) := (blk_cell HE1.out 0).trans rfl
         have x1 : W1.cell? ⟨gX, 1, none⟩ = some (.int .i64 X.f1) := (blk_cell HX1.out 1).trans rfl
         obtain ⟨m0, m1, m2, m3, m4, m5⟩ := mv_cells HM1.out
         by_cases hq : X.f1 = T.f0
         ·have hq2 : (X.f1 == T.f0) = true := by rw [hq]; exact beq_self_eq_true _
          have HV2 := Aside0.mk (show V = (30, i) by rw [HI.out, HD.out]; simp only [pC, if_pos (show badR ts T.f0 T.f9 = true by rw [HJ.out, HD2.out, decide_eq_true hq, Bool.true_or, Bool.true_or])])
          clear hq HI HD HJ HD2
          go_wp2_with fail
          go_ret2
          exact ⟨by rw [HV2.out]; rfl, HB1.out⟩
         ·have hq2 : (X.f1 == T.f0) = false := by simpa using hq
          have HQ := Aside0.mk hq
          clear hq
          go_wp2_with fail
          refine (find_n scale title ts _ c2 _ _ _ X.f1 W1 (Kd.C_below HR.out HB1.out)).mono ?_
          rintro e w4 ⟨rfl, hb4⟩
          have HM4 := Aside0.mk (blk_below HM1.out hb4)
          have HE4 := Aside0.mk (blk_below HE1.out hb4)
          have HK4 := Aside0.mk (Kd.C_below HK1.out hb4)
          have HB4 := Aside0.mk (HB1.out.trans (hb4.mono HB1.out.size))
          clear hb4 q0 x1 m0 m1 m2 m3 m4 m5 HE1 HM1 HB1 HK1 HX1
          by_cases hz : findT ts X.f1 0 < 0
          ·have hz2 : decide (findT ts X.f1 0 < 0) = true := decide_eq_true hz
           have HV2 := Aside0.mk (show V = (30, i) by rw [HI.out, HD.out]; simp only [pC, if_pos (show badR ts T.f0 T.f9 = true by rw [HJ.out, HD2.out, decide_eq_true hz, Bool.or_true, Bool.true_or])])
           generalize findT ts X.f1 0 = Z at *
           clear hz HI HD HJ HD2
           go_wp2_with fail
           go_ret2
           exact ⟨by rw [HV2.out]; rfl, HB4.out⟩
          ·have hz2 : decide (findT ts X.f1 0 < 0) = false := decide_eq_false hz
           have HJ2 := Aside0.mk (show badR ts T.f0 T.f9 = badR ts T.f0 (T.f9.drop (j + 1).toNat) by rw [HJ.out, HD2.out, decide_eq_false HQ.out, decide_eq_false hz, Bool.false_or, Bool.false_or])
           generalize findT ts X.f1 0 = Z at *
           clear hz HJ HD2
           go_wp2_with fail
           go_roundg k2
           case measure => omega
           case rel => exact ⟨j + 1, by rw [HY2.out.1], ⟨HY2.out.2.1, HY2.out.2.2, HJ2.out⟩, HM4, HE4, HK4, HB4⟩
        ·have hlb2 : decide (j < (T.f9.length : Int)) = false := decide_eq_false hlj
         have HJ := Aside0.mk (show badR ts T.f0 T.f9 = false by
          rw [hj.out.2.2, List.drop_of_length_le (by have := hj.out; omega)]
          rfl)
         have HV2 := Aside0.mk (show V = scan (pC ts) (tl3 e1 e2 by_) (ts.drop (i + 1).toNat) (i + 1) by rw [HI.out, HD.out]; simp only [pC, HJ.out, Bool.false_eq_true, if_false])
         replace hlj := eq_false hlj
         clear hj HJ HI HD
         go_wp2_with fail
         go_roundg k1
         case measure => omega
         case rel => exact ⟨i + 1, by rw [HY.out.1], ⟨HY.out.2.1, HY.out.2.2, HV2.out⟩, HM, HB⟩
      ·have hlb : decide (i < (ts.length : Int)) = false := decide_eq_false hlt
       have HV4 := Aside0.mk (show V = tl3 e1 e2 by_ by
        rw [hi.out.2.2, List.drop_of_length_le (by have := hi.out; omega)]
        rfl)
       have HX := Aside0.mk (And.intro (HC.out.1 wr HB.out) HC.out.2)
       obtain ⟨m0, m1, m2, m3, m4, m5⟩ := mv_cells HM.out
       replace hlt := eq_false hlt
       clear hi HC
       go_wp2_with fail
       refine HX.out.1.mono ?_
       rintro e w4 ⟨rfl, hb4⟩
       have HM4 := Aside0.mk (blk_below HM.out hb4)
       have HB4 := Aside0.mk (HB.out.trans (hb4.mono HB.out.size))
       have HX4 := Aside0.mk (And.intro (HX.out.2.1 w4 HB4.out) HX.out.2.2)
       clear hb4 m0 m1 m2 m3 m4 m5 HM HB HX
       obtain ⟨m0, m1, m2, m3, m4, m5⟩ := mv_cells HM4.out
       by_cases z1 : e1 = 0
       ·have z1b : (e1 != 0) = false := by rw [z1]; rfl
        have HV5 := Aside0.mk (show V = if e2 = 0 then (if 524288 < by_ then (2, -1) else (0, -1)) else (e2, -1) by rw [HV4.out, tl3, if_pos z1])
        clear z1 HV4
        go_wp2_with fail
        refine HX4.out.1.mono ?_
        rintro e w5 ⟨rfl, hb5⟩
        have HM5 := Aside0.mk (blk_below HM4.out hb5)
        have HB5 := Aside0.mk (HB4.out.trans (hb5.mono HB4.out.size))
        have HX5 := Aside0.mk (HX4.out.2 w5 HB5.out)
        clear hb5 m0 m1 m2 m3 m4 m5 HM4 HB4 HX4
        obtain ⟨m0, m1, m2, m3, m4, m5⟩ := mv_cells HM5.out
        by_cases z2 : e2 = 0
        ·have z2b : (e2 != 0) = false := by rw [z2]; rfl
         have HV6 := Aside0.mk (show V = if 524288 < by_ then (2, -1) else (0, -1) by rw [HV5.out, if_pos z2])
         clear z2 HV5
         go_wp2_with fail
         refine HX5.out.mono ?_
         rintro e w6 ⟨rfl, hb6⟩
         have HB6 := Aside0.mk (HB5.out.trans (hb6.mono HB5.out.size))
         clear hb6 m0 m1 m2 m3 m4 m5 HM5 HB5 HX5
         by_cases z3 : 524288 < by_
         ·have z3b : decide (by_ > 524288) = true := decide_eq_true (by omega)
          have HV7 := Aside0.mk (show V = (2, -1) by rw [HV6.out, if_pos z3])
          clear z3 HV6
          go_wp2_with fail
          go_ret2
          exact ⟨by rw [HV7.out]; rfl, HB6.out⟩
         ·have z3b : decide (by_ > 524288) = false := decide_eq_false (by omega)
          have HV7 := Aside0.mk (show V = (0, -1) by rw [HV6.out, if_neg z3])
          clear z3 HV6
          go_wp2_with fail
          go_ret2
          exact ⟨by rw [HV7.out]; rfl, HB6.out⟩
        ·have z2b : (e2 != 0) = true := by simpa using z2
         have HV6 := Aside0.mk (show V = (e2, -1) by rw [HV5.out, if_neg z2])
         clear z2 HV5
         go_wp2_with fail
         go_ret2
         exact ⟨by rw [HV6.out]; rfl, HB5.out⟩
       ·have z1b : (e1 != 0) = true := by simpa using z1
        have HV5 := Aside0.mk (show V = (e1, -1) by rw [HV4.out, tl3, if_neg z1])
        clear z1 HV4
        go_wp2_with fail
        go_ret2
        exact ⟨by rw [HV5.out]; rfl, HB4.out⟩
end Go.Proofs.Ytknklchmpohjfaa.Ge
namespace Go.Proofs.Ytknklchmpohjfaa.Gk
open Go.RowKit Go Go.Proofs.YtknklchmpohjfaaW.PrintWords Go.Proofs.YtknklchmpohjfaaW.PrintLast Go.Proofs.YtknklchmpohjfaaW.PrintMore Go.Proofs.Ytknklchmpohjfaa.Mn Go.Proofs.Ytknklchmpohjfaa.Nd Go.Proofs.Ytknklchmpohjfaa.Z Go.Proofs.Ytknklchmpohjfaa.E Go.Proofs.Ytknklchmpohjfaa.Tk Go.Proofs.Ytknklchmpohjfaa.Tw
set_option linter.unusedVariables false
set_option linter.unusedSimpArgs false
theorem grown_set {W W1 : World} {g : Nat} (h : W.grownBy W1 (some g)) (i : Nat) (v : Value) : W.grownBy (W1.setCell ⟨g, i, none⟩ v) (some g) :=
 ⟨h.os, h.tape, h.output, by simpa [World.setCell] using h.size, fun k hk hne => (Below.heap_setCell W1 ⟨g, i, none⟩ v k (fun e => hne (by rw [e]))).trans (h.block k hk hne)⟩
set_option maxHeartbeats 4000000 in
set_option maxRecDepth 100000 in
theorem st_track {W : World} {gb : Nat} {o0 o1 o2 o3 o4 o5 o6 o7 o8 o9 oa : Value} (h : W.heap[gb]? = some (.cells #[o0, o1, o2, o3, o4, o5, o6, o7, o8, o9, oa] 40 (0, 0))) (v0 v1 : Int) (v2 : ByteArray) (v3 : Int) (A4 : Option Addr) (n4 c4 : Nat) (v5 v6 : ByteArray) (v7 : Int) (A8 : Option Addr) (n8 c8 : Nat) (A9 : Option Addr) (n9 c9 : Nat) (A10 : Option Addr) (n10 c10 : Nat) :
  ∃ W', (∀ {a : Act} {oi : Oper} {p q : Tmp}, oi.op = .store 40 (.tmp p) (.tmp q) → a.eval (.tmp p) = .pointer (some ⟨gb, 0, none⟩) → a.eval (.tmp q) = .agg #[.int .i64 v0, .int .i64 v1, .string v2, .int .i64 v3, .slice A4 n4 c4, .string v5, .string v6, .int .i64 v7, .slice A8 n8 c8, .slice A9 n9 c9, .slice A10 n10 c10] → (execOp a.eval oi).run Try.prog W = .ok .skip W') ∧ W'.heap[gb]? = some (.cells #[.int .i64 v0, .int .i64 v1, .string v2, .int .i64 v3, .slice A4 n4 c4, .string v5, .string v6, .int .i64 v7, .slice A8 n8 c8, .slice A9 n9 c9, .slice A10 n10 c10] 40 (0, 0)) ∧ W.grownBy W' (some gb) := by
 have hu := Try.underlying40
 obtain ⟨q0, q1, q2, q3, q4, q5, q6, q7, q8, q9, qa⟩ := ten_cells h
 have z0 := blk_frozen h 0
 have z1 := blk_frozen h 1
 have z2 := blk_frozen h 2
 have z3 := blk_frozen h 3
 have z4 := blk_frozen h 4
 have z5 := blk_frozen h 5
 have z6 := blk_frozen h 6
 have z7 := blk_frozen h 7
 have z8 := blk_frozen h 8
 have z9 := blk_frozen h 9
 have za := blk_frozen h 10
 obtain ⟨W0, e0⟩ : ∃ w, w = W.setCell ⟨gb, 0, none⟩ (.int .i64 v0) := ⟨_, rfl⟩
 have b0 : W0.heap[gb]? = some (.cells #[.int .i64 v0, o1, o2, o3, o4, o5, o6, o7, o8, o9, oa] 40 (0, 0)) := by rw [e0]; exact blk_put h 0 (.int .i64 v0) rfl
 have g0 : W.grownBy W0 (some gb) := by rw [e0]; exact grown_set (World.grownBy.refl W (some gb)) 0 (.int .i64 v0)
 obtain ⟨W1, e1⟩ : ∃ w, w = W0.setCell ⟨gb, 1, none⟩ (.int .i64 v1) := ⟨_, rfl⟩
 have b1 : W1.heap[gb]? = some (.cells #[.int .i64 v0, .int .i64 v1, o2, o3, o4, o5, o6, o7, o8, o9, oa] 40 (0, 0)) := by rw [e1]; exact blk_put b0 1 (.int .i64 v1) rfl
 have g1 : W.grownBy W1 (some gb) := by rw [e1]; exact grown_set g0 1 (.int .i64 v1)
 obtain ⟨W2, e2⟩ : ∃ w, w = W1.setCell ⟨gb, 2, none⟩ (.string v2) := ⟨_, rfl⟩
 have b2 : W2.heap[gb]? = some (.cells #[.int .i64 v0, .int .i64 v1, .string v2, o3, o4, o5, o6, o7, o8, o9, oa] 40 (0, 0)) := by rw [e2]; exact blk_put b1 2 (.string v2) rfl
 have g2 : W.grownBy W2 (some gb) := by rw [e2]; exact grown_set g1 2 (.string v2)
 obtain ⟨W3, e3⟩ : ∃ w, w = W2.setCell ⟨gb, 3, none⟩ (.int .i64 v3) := ⟨_, rfl⟩
 have b3 : W3.heap[gb]? = some (.cells #[.int .i64 v0, .int .i64 v1, .string v2, .int .i64 v3, o4, o5, o6, o7, o8, o9, oa] 40 (0, 0)) := by rw [e3]; exact blk_put b2 3 (.int .i64 v3) rfl
 have g3 : W.grownBy W3 (some gb) := by rw [e3]; exact grown_set g2 3 (.int .i64 v3)
 obtain ⟨W4, e4⟩ : ∃ w, w = W3.setCell ⟨gb, 4, none⟩ (.slice A4 n4 c4) := ⟨_, rfl⟩
 have b4 : W4.heap[gb]? = some (.cells #[.int .i64 v0, .int .i64 v1, .string v2, .int .i64 v3, .slice A4 n4 c4, o5, o6, o7, o8, o9, oa] 40 (0, 0)) := by rw [e4]; exact blk_put b3 4 (.slice A4 n4 c4) rfl
 have g4 : W.grownBy W4 (some gb) := by rw [e4]; exact grown_set g3 4 (.slice A4 n4 c4)
 obtain ⟨W5, e5⟩ : ∃ w, w = W4.setCell ⟨gb, 5, none⟩ (.string v5) := ⟨_, rfl⟩
 have b5 : W5.heap[gb]? = some (.cells #[.int .i64 v0, .int .i64 v1, .string v2, .int .i64 v3, .slice A4 n4 c4, .string v5, o6, o7, o8, o9, oa] 40 (0, 0)) := by rw [e5]; exact blk_put b4 5 (.string v5) rfl
 have g5 : W.grownBy W5 (some gb) := by rw [e5]; exact grown_set g4 5 (.string v5)
 obtain ⟨W6, e6⟩ : ∃ w, w = W5.setCell ⟨gb, 6, none⟩ (.string v6) := ⟨_, rfl⟩
 have b6 : W6.heap[gb]? = some (.cells #[.int .i64 v0, .int .i64 v1, .string v2, .int .i64 v3, .slice A4 n4 c4, .string v5, .string v6, o7, o8, o9, oa] 40 (0, 0)) := by rw [e6]; exact blk_put b5 6 (.string v6) rfl
 have g6 : W.grownBy W6 (some gb) := by rw [e6]; exact grown_set g5 6 (.string v6)
 obtain ⟨W7, e7⟩ : ∃ w, w = W6.setCell ⟨gb, 7, none⟩ (.int .i64 v7) := ⟨_, rfl⟩
 have b7 : W7.heap[gb]? = some (.cells #[.int .i64 v0, .int .i64 v1, .string v2, .int .i64 v3, .slice A4 n4 c4, .string v5, .string v6, .int .i64 v7, o8, o9, oa] 40 (0, 0)) := by rw [e7]; exact blk_put b6 7 (.int .i64 v7) rfl
 have g7 : W.grownBy W7 (some gb) := by rw [e7]; exact grown_set g6 7 (.int .i64 v7)
 obtain ⟨W8, e8⟩ : ∃ w, w = W7.setCell ⟨gb, 8, none⟩ (.slice A8 n8 c8) := ⟨_, rfl⟩
 have b8 : W8.heap[gb]? = some (.cells #[.int .i64 v0, .int .i64 v1, .string v2, .int .i64 v3, .slice A4 n4 c4, .string v5, .string v6, .int .i64 v7, .slice A8 n8 c8, o9, oa] 40 (0, 0)) := by rw [e8]; exact blk_put b7 8 (.slice A8 n8 c8) rfl
 have g8 : W.grownBy W8 (some gb) := by rw [e8]; exact grown_set g7 8 (.slice A8 n8 c8)
 obtain ⟨W9, e9⟩ : ∃ w, w = W8.setCell ⟨gb, 9, none⟩ (.slice A9 n9 c9) := ⟨_, rfl⟩
 have b9 : W9.heap[gb]? = some (.cells #[.int .i64 v0, .int .i64 v1, .string v2, .int .i64 v3, .slice A4 n4 c4, .string v5, .string v6, .int .i64 v7, .slice A8 n8 c8, .slice A9 n9 c9, oa] 40 (0, 0)) := by rw [e9]; exact blk_put b8 9 (.slice A9 n9 c9) rfl
 have g9 : W.grownBy W9 (some gb) := by rw [e9]; exact grown_set g8 9 (.slice A9 n9 c9)
 obtain ⟨W10, e10⟩ : ∃ w, w = W9.setCell ⟨gb, 10, none⟩ (.slice A10 n10 c10) := ⟨_, rfl⟩
 have b10 : W10.heap[gb]? = some (.cells #[.int .i64 v0, .int .i64 v1, .string v2, .int .i64 v3, .slice A4 n4 c4, .string v5, .string v6, .int .i64 v7, .slice A8 n8 c8, .slice A9 n9 c9, .slice A10 n10 c10] 40 (0, 0)) := by rw [e10]; exact blk_put b9 10 (.slice A10 n10 c10) rfl
 have g10 : W.grownBy W10 (some gb) := by rw [e10]; exact grown_set g9 10 (.slice A10 n10 c10)
 refine ⟨W10, ?_, b10, g10⟩
 intro a oi p q hop hp hq
 clear b0 b1 b2 b3 b4 b5 b6 b7 b8 b9 b10 g0 g1 g2 g3 g4 g5 g6 g7 g8 g9 g10
 rw [e10, e9, e8, e7, e6, e5, e4, e3, e2, e1, e0]
 clear e10 e9 e8 e7 e6 e5 e4 e3 e2 e1 e0
 simp only [execOp, hop, hp, hq]
 go_simp
def awS : List Sm := [⟨0, 0, 5, true, [], []⟩, ⟨1, 10, 5, false, [0], []⟩, ⟨2, 5, 5, false, [0, 1], []⟩]
theorem at_off (g n : Nat) : (⟨g, 0, none⟩ : Addr).add n = ⟨g, n, none⟩ := by
 simp only [Addr.add, Nat.zero_add]
 split
 ·rename_i h0
  rw [h0]
 ·rfl
theorem int_C {W : World} {g : Nat} {l : List Int} {t : TypeId} (h : W.heap[g]? = some (.cells (l.map (.int .i64)).toArray t (0, 0))) (hl : l.length ≤ 9223372036854775807) : Kd.C (Kd.int .i64) W (some ⟨g, 0, none⟩) l.length l := by
 refine ⟨rfl, hl, fun _ => ⟨_, rfl, fun j p hj => ⟨[.int .i64 p], rfl, rfl, fun i u hu => ?_⟩⟩⟩
 cases i with
 | succ i => simp at hu
 | zero =>
  rw [at_off, blk_cell h]
  simp only [List.getElem?_cons_zero, Option.some.injEq] at hu
  subst hu
  show (l.map (Value.int .i64)).toArray[j * 1 + 0]? = _
  simp [hj]
structure AwB (W : World) (b : Nat) : Prop where
 d1 : W.heap[b]? = some (.cells #[.int .i64 0] 3 (0, 0))
 d2 : W.heap[b + 1]? = some (.cells #[.int .i64 0, .int .i64 1] 3 (0, 0))
 s : W.heap[b + 1 + 1]? = some (.cells #[.int .i64 0, .int .i64 0, .int .i64 5, .bool true, .slice none 0 0, .slice none 0 0, .int .i64 1, .int .i64 10, .int .i64 5, .bool false, .slice (some ⟨b, 0, none⟩) 1 1, .slice none 0 0, .int .i64 2, .int .i64 5, .int .i64 5, .bool false, .slice (some ⟨b + 1, 0, none⟩) 2 2, .slice none 0 0] 51 (0, 0))
theorem AwB.C {W : World} {b : Nat} (h : AwB W b) : Kd.C k51 W (some ⟨b + 1 + 1, 0, none⟩) awS.length awS := by
 have c1 : Kd.C (Kd.int .i64) W (some ⟨b, 0, none⟩) 1 [0] := int_C (l := [0]) h.d1 (by decide)
 have c2 : Kd.C (Kd.int .i64) W (some ⟨b + 1, 0, none⟩) 2 [0, 1] := int_C (l := [0, 1]) h.d2 (by decide)
 refine ⟨rfl, by decide, fun _ => ⟨_, rfl, fun j p hj => ?_⟩⟩
 rcases j with _ | _ | _ | j
 ·obtain rfl : (⟨0, 0, 5, true, [], []⟩ : Sm) = p := by simpa [awS] using hj
  refine ⟨_, rfl, k51_mk W (⟨0, 0, 5, true, [], []⟩ : Sm) (A4 := none) (c4 := 0) (Nat.le_refl _) (Kd.C_nil _ _) (A5 := none) (c5 := 0) (Nat.le_refl _) (Kd.C_nil _ _), fun i u hu => ?_⟩
  rw [at_off, blk_cell h.s]
  show _ = some u
  rw [← hu]
  rcases i with _ | _ | _ | _ | _ | _ | i <;> first | rfl | simp at hu
 ·obtain rfl : (⟨1, 10, 5, false, [0], []⟩ : Sm) = p := by simpa [awS] using hj
  refine ⟨_, rfl, k51_mk W (⟨1, 10, 5, false, [0], []⟩ : Sm) (A4 := some ⟨b, 0, none⟩) (c4 := 1) (Nat.le_refl _) c1 (A5 := none) (c5 := 0) (Nat.le_refl _) (Kd.C_nil _ _), fun i u hu => ?_⟩
  rw [at_off, blk_cell h.s]
  show _ = some u
  rw [← hu]
  rcases i with _ | _ | _ | _ | _ | _ | i <;> first | rfl | simp at hu
 ·obtain rfl : (⟨2, 5, 5, false, [0, 1], []⟩ : Sm) = p := by simpa [awS] using hj
  refine ⟨_, rfl, k51_mk W (⟨2, 5, 5, false, [0, 1], []⟩ : Sm) (A4 := some ⟨b + 1, 0, none⟩) (c4 := 2) (Nat.le_refl _) c2 (A5 := none) (c5 := 0) (Nat.le_refl _) (Kd.C_nil _ _), fun i u hu => ?_⟩
  rw [at_off, blk_cell h.s]
  show _ = some u
  rw [← hu]
  rcases i with _ | _ | _ | _ | _ | _ | i <;> first | rfl | simp at hu
 ·simp [awS] at hj
theorem size_al (W : World) (o : Obj) : (W.alloc o).heap.size = W.heap.size + 1 := by unfold World.alloc; exact Array.size_push _
theorem new_at (W : World) (o : Obj) (n : Nat) (h : W.heap.size = n) : (W.alloc o).heap[n]? = some o := h ▸ blk_new W o
theorem AwB.start (W : World) : AwB (((W.alloc (.cells #[.int .i64 0] 3 (0, 0))).alloc (.cells #[.int .i64 0, .int .i64 1] 3 (0, 0))).alloc (.cells #[.int .i64 0, .int .i64 0, .int .i64 5, .bool true, .slice none 0 0, .slice none 0 0, .int .i64 1, .int .i64 10, .int .i64 5, .bool false, .slice (some ⟨W.heap.size, 0, none⟩) 1 1, .slice none 0 0, .int .i64 2, .int .i64 5, .int .i64 5, .bool false, .slice (some ⟨W.heap.size + 1, 0, none⟩) 2 2, .slice none 0 0] 51 (0, 0))) W.heap.size :=
 ⟨blk_alloc (blk_alloc (blk_new _ _) _) _, blk_alloc (new_at _ _ _ (size_al _ _)) _, new_at _ _ _ (by rw [size_al, size_al])⟩
theorem AwB.grown {W W1 : World} {b g : Nat} (h : AwB W b) (hg : W.grownBy W1 (some g)) (hb : g < b) : AwB W1 b :=
 ⟨blk_grown h.d1 hg (fun e => by have := Option.some.inj e; omega), blk_grown h.d2 hg (fun e => by have := Option.some.inj e; omega), blk_grown h.s hg (fun e => by have := Option.some.inj e; omega)⟩
set_option maxHeartbeats 4000000 in
set_option maxRecDepth 100000 in
theorem track_n (w : World) : Calls Try.prog 41 #[] w (fun e w' => ∃ b, e = .returned (.agg #[.int .i64 1, .int .i64 7, .string ⟨#[100, 97, 116, 97]⟩, .int .i64 10, .slice none 0 0, .string ⟨#[117, 110, 100]⟩, .string (⟨#[]⟩ : ByteArray), .int .i64 0, .slice none 0 0, .slice none 0 0, .slice (some ⟨b + 1 + 1, 0, none⟩) 3 3]) ∧ AwB w' b ∧ Below w.heap.size w w') := by
 have hu := Try.underlying40
 have hu2 := Try.underlying51
 go_enter Try.func41, Try.ntmps41
 go_wp2_with (first | ((with_reducible refine gate_dst (N := 0) rfl ?_); refine zB 0 40 #[.int .i64 0, .int .i64 0, .string (⟨#[]⟩ : ByteArray), .int .i64 0, .slice none 0 0, .string (⟨#[]⟩ : ByteArray), .string (⟨#[]⟩ : ByteArray), .int .i64 0, .slice none 0 0, .slice none 0 0, .slice none 0 0] ?_; intro gb hg W0 hbox hb; have HG := Aside0.mk hg; have HM0 := Aside0.mk hbox; have HB0 := Aside0.mk hb; clear hbox hb hg) | ((with_reducible refine gate_store (t := 40) (p := 0) rfl ?_); obtain ⟨W4, hrun, hblk, hgr⟩ := st_track (blk_alloc (blk_alloc (blk_alloc HM0.out (.cells #[.int .i64 0] 3 (0, 0))) (.cells #[.int .i64 0, .int .i64 1] 3 (0, 0))) (.cells #[.int .i64 0, .int .i64 0, .int .i64 5, .bool true, .slice none 0 0, .slice none 0 0, .int .i64 1, .int .i64 10, .int .i64 5, .bool false, .slice (some ⟨W0.heap.size, 0, none⟩) 1 1, .slice none 0 0, .int .i64 2, .int .i64 5, .int .i64 5, .bool false, .slice (some ⟨W0.heap.size + 1, 0, none⟩) 2 2, .slice none 0 0] 51 (0, 0))) 1 7 ⟨#[100, 97, 116, 97]⟩ 10 none 0 0 ⟨#[117, 110, 100]⟩ (⟨#[]⟩ : ByteArray) 0 none 0 0 none 0 0 (some ⟨W0.heap.size + 1 + 1, 0, none⟩) 3 3; refine store_event (t := 40) (p := 0) (w1 := W4) rfl rfl rfl (hrun (p := 0) (q := 7) rfl rfl rfl) ?_; intro w' hw; subst hw; have HK := Aside0.mk hblk; have HGR := Aside0.mk hgr; clear hblk hgr hrun))
 refine bodyPost_ret (results_cell_row rfl _ _ gb 40 #[.int .i64 1, .int .i64 7, .string ⟨#[100, 97, 116, 97]⟩, .int .i64 10, .slice none 0 0, .string ⟨#[117, 110, 100]⟩, .string (⟨#[]⟩ : ByteArray), .int .i64 0, .slice none 0 0, .slice none 0 0, .slice (some ⟨W0.heap.size + 1 + 1, 0, none⟩) 3 3] (0, 0) _ rfl HK.out Try.underlying40 rfl (by kernel_rfl)) rfl ?_
 have hlt := blk_lt HM0.out
 refine ⟨W0.heap.size, rfl, (AwB.start W0).grown HGR.out hlt, ?_⟩
 have h1 := below_alloc (below_alloc (below_alloc HB0.out (.cells #[.int .i64 0] 3 (0, 0))) (.cells #[.int .i64 0, .int .i64 1] 3 (0, 0))) (.cells #[.int .i64 0, .int .i64 0, .int .i64 5, .bool true, .slice none 0 0, .slice none 0 0, .int .i64 1, .int .i64 10, .int .i64 5, .bool false, .slice (some ⟨W0.heap.size, 0, none⟩) 1 1, .slice none 0 0, .int .i64 2, .int .i64 5, .int .i64 5, .bool false, .slice (some ⟨W0.heap.size + 1, 0, none⟩) 2 2, .slice none 0 0] 51 (0, 0))
 exact h1.grown HGR.out h1.size (fun k hk => by cases hk; rw [HG.out]; exact Nat.le_refl _)
end Go.Proofs.Ytknklchmpohjfaa.Gk
namespace Go.Proofs.Ytknklchmpohjfaa.Gx
open Go.RowKit Go Go.Proofs.YtknklchmpohjfaaW.PrintWords Go.Proofs.YtknklchmpohjfaaW.PrintLast Go.Proofs.YtknklchmpohjfaaW.PrintMore Go.Proofs.Ytknklchmpohjfaa.Mn Go.Proofs.Ytknklchmpohjfaa.Nd Go.Proofs.Ytknklchmpohjfaa.Z Go.Proofs.Ytknklchmpohjfaa.Rf Go.Proofs.Ytknklchmpohjfaa.E Go.Proofs.Ytknklchmpohjfaa.Tk Go.Proofs.Ytknklchmpohjfaa.Tw Go.Proofs.Ytknklchmpohjfaa.Gt Go.Proofs.Ytknklchmpohjfaa.Gs Go.Proofs.Ytknklchmpohjfaa.Gd Go.Proofs.Ytknklchmpohjfaa.Ge Go.Proofs.Ytknklchmpohjfaa.Gk Go.Proofs.Ytknklchmpohjfaa.Gr
set_option linter.unusedVariables false
set_option linter.unusedSimpArgs false
set_option maxHeartbeats 2000000 in
theorem valid_n {a b : Int} (h0 : 1 ≤ b) (h1 : b ≤ 1152921504606846976) (h2 : -1152921504606846976 ≤ a) (h3 : a ≤ 1152921504606846976) (w : World) : Calls Try.prog 68 #[.agg #[.int .i64 a, .int .i64 b]] w (ValP w (.bool true)) := by
 have hu := Try.underlying77
 have b0 : decide (b ≥ 1) = true := decide_eq_true h0
 have b1 : decide (b ≤ 1152921504606846976) = true := decide_eq_true h1
 have b2 : decide (a ≥ -1152921504606846976) = true := decide_eq_true h2
 have b3 : decide (a ≤ 1152921504606846976) = true := decide_eq_true h3
 have HB := Aside0.mk (below_alloc (Below.refl w.heap.size w) (.cells #[.int .i64 a, .int .i64 b] 77 (0, 0)))
 clear h0 h1 h2 h3
 go_enter Try.func68, Try.ntmps68
 go_wp2_with fail
 go_ret
 exact ⟨rfl, HB.out⟩
section
variable (scaleM : Int) (title : ByteArray) (A2 : Option Addr) (n2 c2 : Nat) (A3 : Option Addr) (n3 c3 : Nat) (A5 : Option Addr) (n5 c5 : Nat) (A6 : Option Addr) (n6 c6 : Nat) (id kind : Int) (codec : ByteArray) (scale : Int) (A4 : Option Addr) (c4 : Nat) (setup : List Int) (lang name : ByteArray) (pr : Int) (A8 : Option Addr) (c8 : Nat) (A9 : Option Addr) (c9 : Nat) (refs : List Rf) (A10 : Option Addr) (c10 : Nat) (samples : List Sm)
set_option maxHeartbeats 8000000 in
set_option maxRecDepth 100000 in
theorem media0_n (gx : Nat) (q : Rat) (n : Nat) (w : World) (hx : RQ w gx q n) (hq : 0 ≤ q.num) : Calls Try.prog 69 #[.agg #[.int .i64 scaleM, .string title, .slice A2 n2 c2, .slice A3 n3 c3, .slice A5 n5 c5, .slice A6 n6 c6], .agg #[.int .i64 id, .int .i64 kind, .string codec, .int .i64 scale, .slice A4 setup.length c4, .string lang, .string name, .int .i64 pr, .slice A8 0 c8, .slice A9 refs.length c9, .slice A10 samples.length c10], .pointer (some ⟨gx, 0, none⟩)] w (fun e w' => e = .returned (.pointer (some ⟨gx, 0, none⟩)) ∧ Below w.heap.size w w') := by
 have hu := Try.underlying40
 have HX := Aside0.mk hx
 have HC := Aside0.mk (show ∃ c : Int, 0 ≤ c ∧ cmpI q.num 0 = c by
  refine ⟨_, ?_, rfl⟩
  unfold cmpI
  rw [if_neg (by omega)]
  split <;> decide)
 clear hx hq
 go_enter Try.func69, Try.ntmps69
 go_upto_region 1 with (first | ((with_reducible refine gate_dst (N := 3) rfl ?_); refine zB 3 27 #[.int .i64 scaleM, .string title, .slice A2 n2 c2, .slice A3 n3 c3, .slice A5 n5 c5, .slice A6 n6 c6] ?_; intro gm hg W0 hbox hb; have HGM := Aside0.mk hg; have HM0 := Aside0.mk hbox; have HB0 := Aside0.mk hb; clear hbox hb hg) | ((with_reducible refine gate_dst (N := 4) rfl ?_); refine zB 4 40 #[.int .i64 id, .int .i64 kind, .string codec, .int .i64 scale, .slice A4 setup.length c4, .string lang, .string name, .int .i64 pr, .slice A8 0 c8, .slice A9 refs.length c9, .slice A10 samples.length c10] ?_; intro gt hg W1 hbox hb; have HM1 := Aside0.mk (blk_below HM0.out hb); have HT1 := Aside0.mk hbox; have HB1 := Aside0.mk (HB0.out.trans (hb.mono HB0.out.size)); clear hbox hb hg))
 go_wp2_with fail
 refine (signQ_n gx q n W1 (HX.out.below HB1.out)).mono ?_
 rintro e w2 ⟨rfl, hb2⟩
 have HT2 := Aside0.mk (blk_below HT1.out hb2)
 have HB2 := Aside0.mk (HB1.out.trans (hb2.mono HB1.out.size))
 have q8 : w2.cell? ⟨gt, 8, none⟩ = some (.slice A8 0 c8) := (blk_cell HT2.out 8).trans rfl
 obtain ⟨c, hc0, ec⟩ := HC.out
 rw [ec]
 have hcd : decide (c < 0) = false := decide_eq_false (by omega)
 clear hb2 ec hc0
 go_wp2_with fail
 go_ret
 exact ⟨rfl, HB2.out⟩
set_option maxHeartbeats 8000000 in
set_option maxRecDepth 100000 in
theorem shown0_n (gx : Nat) (q : Rat) (n : Nat) (w : World) (hx : RQ w gx q n) (hq : 0 ≤ q.num) (hsc : 1 ≤ scale ∧ scale ≤ 1000000) (hr : Kd.C k51 w A10 samples.length samples) (hn : n ≤ 100) (hs : ∀ s ∈ samples, rngS s) (hl : samples.length ≤ 1000) : Calls Try.prog 58 #[.agg #[.int .i64 scaleM, .string title, .slice A2 n2 c2, .slice A3 n3 c3, .slice A5 n5 c5, .slice A6 n6 c6], .agg #[.int .i64 id, .int .i64 kind, .string codec, .int .i64 scale, .slice A4 setup.length c4, .string lang, .string name, .int .i64 pr, .slice A8 0 c8, .slice A9 refs.length c9, .slice A10 samples.length c10], .pointer (some ⟨gx, 0, none⟩)] w (ValP w (.int .i64 (shL (q * qq scale 1) samples samples 0 (-1)))) := by
 have hu := Try.underlying40
 have hu2 := Try.underlying27
 have HX := Aside0.mk (And.intro hx (And.intro hq (And.intro hsc (And.intro hr (And.intro hn (And.intro hs hl))))))
 clear hx hq hsc hr hn hs hl
 go_enter Try.func58, Try.ntmps58
 go_upto_region 1 with (first | ((with_reducible refine gate_dst (N := 3) rfl ?_); refine zB 3 27 #[.int .i64 scaleM, .string title, .slice A2 n2 c2, .slice A3 n3 c3, .slice A5 n5 c5, .slice A6 n6 c6] ?_; intro gm hg W0 hbox hb; have HGM := Aside0.mk hg; have HM0 := Aside0.mk hbox; have HB0 := Aside0.mk hb; clear hbox hb hg) | ((with_reducible refine gate_dst (N := 4) rfl ?_); refine zB 4 40 #[.int .i64 id, .int .i64 kind, .string codec, .int .i64 scale, .slice A4 setup.length c4, .string lang, .string name, .int .i64 pr, .slice A8 0 c8, .slice A9 refs.length c9, .slice A10 samples.length c10] ?_; intro gt hg W1 hbox hb; have HM1 := Aside0.mk (blk_below HM0.out hb); have HT1 := Aside0.mk hbox; have HB1 := Aside0.mk (HB0.out.trans (hb.mono HB0.out.size)); clear hbox hb hg))
 obtain ⟨m0, m1, m2, m3, m4, m5⟩ := mv_cells HM1.out
 obtain ⟨q0, q1, q2, q3, q4, q5, q6, q7, q8, q9, qa⟩ := ten_cells HT1.out
 go_wp2_with fail
 refine (media0_n scaleM title A2 n2 c2 A3 n3 c3 A5 n5 c5 A6 n6 c6 id kind codec scale A4 c4 setup lang name pr A8 c8 A9 c9 refs A10 c10 samples gx q n W1 (HX.out.1.below HB1.out) HX.out.2.1).mono ?_
 rintro e w2 ⟨rfl, hb2⟩
 have HT2 := Aside0.mk (blk_below HT1.out hb2)
 have HB2 := Aside0.mk (HB1.out.trans (hb2.mono HB1.out.size))
 clear hb2 q0 q1 q2 q3 q4 q5 q6 q7 q8 q9 qa m0 m1 m2 m3 m4 m5
 obtain ⟨q0, q1, q2, q3, q4, q5, q6, q7, q8, q9, qa⟩ := ten_cells HT2.out
 go_wp2_with fail
 refine (shownAt_n id kind codec scale A4 c4 setup lang name pr A8 c8 [] A9 c9 refs A10 c10 samples gx q n w2 HX.out.2.2.1 (Kd.C_below HX.out.2.2.2.1 HB2.out) (HX.out.1.below HB2.out) HX.out.2.2.2.2.1 HX.out.2.2.2.2.2.1 HX.out.2.2.2.2.2.2).mono ?_
 rintro e w3 ⟨rfl, hb3⟩
 have HB3 := Aside0.mk (HB2.out.trans (hb3.mono HB2.out.size))
 clear hb3
 go_wp2_with fail
 go_ret
 exact ⟨rfl, HB3.out⟩
end
section
variable (scaleM : Int) (title : ByteArray) (ts : List Tr') (A2 : Option Addr) (c2 : Nat) (A3 : Option Addr) (n3 c3 : Nat) (A5 : Option Addr) (n5 c5 : Nat) (A6 : Option Addr) (n6 c6 : Nat)
set_option maxHeartbeats 8000000 in
set_option maxRecDepth 100000 in
theorem asked_n (id a b j i : Int) (w : World) (hr : Kd.C k40 w A2 ts.length ts) (h0 : 1 ≤ b) (h1 : b ≤ 1152921504606846976) (h2 : -1152921504606846976 ≤ a) (h3 : a ≤ 1152921504606846976) (hi : findT ts id 0 = i) (i0 : 0 ≤ i) (i1 : i < (ts.length : Int))
  (hc : ∀ W, Below w.heap.size w W → Calls Try.prog 9 #[.agg #[.int .i64 scaleM, .string title, .slice A2 ts.length c2, .slice A3 n3 c3, .slice A5 n5 c5, .slice A6 n6 c6]] W (ValP W (.tuple #[.int .i64 0, .int .i64 j]))) :
  Calls Try.prog 57 #[.agg #[.int .i64 scaleM, .string title, .slice A2 ts.length c2, .slice A3 n3 c3, .slice A5 n5 c5, .slice A6 n6 c6], .int .i64 id, .agg #[.int .i64 a, .int .i64 b]] w (fun e w' => ∃ T : Tr', T = rd_T40 ts i ∧ ∃ B4 d4 B8 d8 B9 d9 B10 d10, e = .returned (.tuple #[.agg #[.int .i64 T.f0, .int .i64 T.f1, .string T.f2, .int .i64 T.f3, .slice B4 T.f4.length d4, .string T.f5, .string T.f6, .int .i64 T.f7, .slice B8 T.f8.length d8, .slice B9 T.f9.length d9, .slice B10 T.f10.length d10], .int .i64 0]) ∧ Hd B4 T.f4 B8 T.f8 B9 T.f9 B10 T.f10 w' ∧ Below w.heap.size w w') := by
 have hu := Try.underlying40
 have hu2 := Try.underlying27
 have hu3 := Try.underlying77
 have HR := Aside0.mk hr
 have HC := Aside0.mk hc
 have HV := Aside0.mk (fun W => valid_n h0 h1 h2 h3 W)
 have HI := Aside0.mk (And.intro hi (And.intro i0 i1))
 clear hr hc h0 h1 h2 h3 hi i0 i1
 go_enter Try.func57, Try.ntmps57
 go_upto_region 1 with (first | ((with_reducible refine gate_dst (N := 3) rfl ?_); refine zB 3 27 #[.int .i64 scaleM, .string title, .slice A2 ts.length c2, .slice A3 n3 c3, .slice A5 n5 c5, .slice A6 n6 c6] ?_; intro gm hg W0 hbox hb; have HGM := Aside0.mk hg; have HM0 := Aside0.mk hbox; have HB0 := Aside0.mk hb; clear hbox hb hg) | ((with_reducible refine gate_dst (N := 5) rfl ?_); refine zB 5 77 #[.int .i64 a, .int .i64 b] ?_; intro gx hg W1 hbox hb; have HM1 := Aside0.mk (blk_below HM0.out hb); have HX1 := Aside0.mk hbox; have HB1 := Aside0.mk (HB0.out.trans (hb.mono HB0.out.size)); clear hbox hb hg) | ((with_reducible refine gate_dst (N := 6) rfl ?_); refine zB 6 40 #[.int .i64 0, .int .i64 0, .string (⟨#[]⟩ : ByteArray), .int .i64 0, .slice none 0 0, .string (⟨#[]⟩ : ByteArray), .string (⟨#[]⟩ : ByteArray), .int .i64 0, .slice none 0 0, .slice none 0 0, .slice none 0 0] ?_; intro gz hg W2 hbox hb; have HM2 := Aside0.mk (blk_below HM1.out hb); have HX2 := Aside0.mk (blk_below HX1.out hb); have HZ2 := Aside0.mk hbox; have HGZ := Aside0.mk (show w.heap.size ≤ gz by rw [hg]; exact HB1.out.size); have HB2 := Aside0.mk (HB1.out.trans (hb.mono HB1.out.size)); clear hbox hb hg))
 obtain ⟨m0, m1, m2, m3, m4, m5⟩ := mv_cells HM2.out
 go_wp2_with fail
 refine (HC.out W2 HB2.out).mono ?_
 rintro e w3 ⟨rfl, hb3⟩
 have HM3 := Aside0.mk (blk_below HM2.out hb3)
 have HX3 := Aside0.mk (blk_below HX2.out hb3)
 have HZ3 := Aside0.mk (blk_below HZ2.out hb3)
 have HB3 := Aside0.mk (HB2.out.trans (hb3.mono HB2.out.size))
 clear hb3 m0 m1 m2 m3 m4 m5 HM2 HX2 HZ2 HB2 HC
 obtain ⟨x0, x1, _, _⟩ := xc2 HX3
 go_wp2_with fail
 refine (HV.out w3).mono ?_
 rintro e w4 ⟨rfl, hb4⟩
 have HM4 := Aside0.mk (blk_below HM3.out hb4)
 have HZ4 := Aside0.mk (blk_below HZ3.out hb4)
 have HB4 := Aside0.mk (HB3.out.trans (hb4.mono HB3.out.size))
 clear hb4 x0 x1 HM3 HX3 HZ3 HB3 HV
 obtain ⟨m0, m1, m2, m3, m4, m5⟩ := mv_cells HM4.out
 go_wp2_with fail
 refine (find_n scaleM title ts A2 c2 _ _ _ id w4 (Kd.C_below HR.out HB4.out)).mono ?_
 rintro e w5 ⟨rfl, hb5⟩
 rw [HI.out.1]
 have HM5 := Aside0.mk (blk_below HM4.out hb5)
 have HZ5 := Aside0.mk (blk_below HZ4.out hb5)
 have HB5 := Aside0.mk (HB4.out.trans (hb5.mono HB4.out.size))
 clear hb5 m0 m1 m2 m3 m4 m5 HM4 HZ4 HB4
 have hid : decide (i < 0) = false := decide_eq_false (by have := HI.out; omega)
 obtain ⟨ad, B4, d4, B8, d8, B9, d9, B10, d10, hA, r0, r1, r2, r3, r4, r5, r6, r7, r8, r9, r10, t4, k4, t8, k8, t9, k9, t10, k10⟩ := at_T40 HR.out i HI.out.2.1 HI.out.2.2
 subst hA
 obtain ⟨T, hT⟩ : ∃ T, T = rd_T40 ts i := ⟨_, rfl⟩
 rw [← hT] at r0 r1 r2 r3 r4 r5 r6 r7 r8 r9 r10 t4 k4 t8 k8 t9 k9 t10 k10
 have HT := Aside0.mk hT
 have HD := Aside0.mk (show Hd B4 T.f4 B8 T.f8 B9 T.f9 B10 T.f10 w from ⟨k4, k8, k9, k10⟩)
 replace r0 := pw_cell_below HB5.out r0
 replace r1 := pw_cell_below HB5.out r1
 replace r2 := pw_cell_below HB5.out r2
 replace r3 := pw_cell_below HB5.out r3
 replace r4 := pw_cell_below HB5.out r4
 replace r5 := pw_cell_below HB5.out r5
 replace r6 := pw_cell_below HB5.out r6
 replace r7 := pw_cell_below HB5.out r7
 replace r8 := pw_cell_below HB5.out r8
 replace r9 := pw_cell_below HB5.out r9
 replace r10 := pw_cell_below HB5.out r10
 have p0 := eq_true HI.out.2.1
 have p1 := eq_true HI.out.2.2
 have m2 : w5.cell? ⟨gm, 2, none⟩ = some (.slice (some ad) ts.length c2) := (blk_cell HM5.out 2).trans rfl
 clear hT t4 k4 t8 k8 t9 k9 t10 k10
 obtain ⟨W6, hrun, hblk, hgr⟩ := st_track HZ5.out T.f0 T.f1 T.f2 T.f3 B4 T.f4.length d4 T.f5 T.f6 T.f7 B8 T.f8.length d8 B9 T.f9.length d9 B10 T.f10.length d10
 have HS := Aside0.mk hblk
 have HGR := Aside0.mk hgr
 clear hblk hgr
 go_wp2_with (first | ((with_reducible refine gate_store (t := 40) (p := 6) rfl ?_); refine store_event (t := 40) (p := 6) (w1 := W6) rfl rfl rfl (hrun (p := 6) (q := 34) rfl rfl rfl) ?_; intro w' hw; subst hw))
 refine bodyPost_ret (results_ct rfl _ _ gz 40 #[.int .i64 T.f0, .int .i64 T.f1, .string T.f2, .int .i64 T.f3, .slice B4 T.f4.length d4, .string T.f5, .string T.f6, .int .i64 T.f7, .slice B8 T.f8.length d8, .slice B9 T.f9.length d9, .slice B10 T.f10.length d10] (0, 0) _ rfl HS.out Try.underlying40 rfl (by kernel_rfl)) rfl ?_
 have hz : w.heap.size ≤ gz := HGZ.out
 have hb6 := HB5.out.grown HGR.out HB5.out.size (fun k hk => by cases hk; exact hz)
 exact ⟨T, HT.out, B4, d4, B8, d8, B9, d9, B10, d10, rfl, Hd.below B4 T.f4 B8 T.f8 B9 T.f9 B10 T.f10 HD.out hb6, hb6⟩
end
end Go.Proofs.Ytknklchmpohjfaa.Gx
namespace Go.Proofs.Ytknklchmpohjfaa.Gm
open Go.Maps Go.RowKit Go Go.Proofs.YtknklchmpohjfaaW.PrintWords Go.Proofs.YtknklchmpohjfaaW.PrintLast Go.Proofs.YtknklchmpohjfaaW.PrintMore Go.Proofs.Ytknklchmpohjfaa.Mn Go.Proofs.Ytknklchmpohjfaa.E Go.Proofs.Ytknklchmpohjfaa.Mp Go.Proofs.Ytknklchmpohjfaa.Gb
set_option linter.unusedVariables false
set_option linter.unusedSimpArgs false
def thL (p : Int × Int) : Lit := .string (keyBytes [.int .i64 p.1, .int .i64 p.2])
def Wf (a : Int) : Prop := (Lit.int .i64 a).wf = true
theorem wf_of {a : Int} (h0 : -9223372036854775808 ≤ a) (h1 : a ≤ 9223372036854775807) : Wf a := WalkArith.wf_i64 (by omega)
set_option maxRecDepth 100000 in
theorem lits {a b : Int} (ha : Wf a) (hb : Wf b) : Try.prog.keyLits (Try.prog.types.size + 1) 97 [.int .i64 a, .int .i64 b] = some [.int .i64 a, .int .i64 b] := by
 obtain ⟨d, hd⟩ : ∃ d, Try.prog.types.size = d + 1 := ⟨Try.prog.types.size - 1, by kernel_rfl⟩
 rw [hd]
 have hu := Try.underlying97
 have hi := Try.underlying3
 have c1 : Try.prog.cellsOf 97 = 2 := by kernel_rfl
 have c2 : Try.prog.cellsOf 3 = 1 := by kernel_rfl
 have k1 : ∀ z, Wf z → Try.prog.keyLits (d + 1) 3 [.int .i64 z] = some [.int .i64 z] := by
  intro z hz
  simp only [Program.keyLits, hi]
  exact if_pos (by first | exact ⟨rfl, hz⟩ | exact ⟨trivial, hz⟩)
 rw [Program.keyLits.eq_def]
 simp only [hu, c1]
 simp [c2, k1 a ha, k1 b hb]
set_option maxRecDepth 100000 in
theorem key_thing {a b : Int} (ha : Wf a) (hb : Wf b) : keyOf Try.prog 97 (.agg #[.int .i64 a, .int .i64 b]) = some (thL (a, b)) := by
 have hu := Try.underlying97
 have c1 : Try.prog.cellsOf 97 = 2 := by kernel_rfl
 have kt : Try.prog.keyType 97 = true := by kernel_rfl
 have hl := lits ha hb
 unfold keyOf
 rw [hu]
 simp only [kt, Value.formed, hu, c1, Bool.true_and]
 rw [if_pos (show ((#[Value.int .i64 a, Value.int .i64 b] : Array Value).size == 2) = true from rfl)]
 show ((Try.prog.keyLits (Try.prog.types.size + 1) 97 [.int .i64 a, .int .i64 b]).map fun ls => Lit.string (keyBytes ls)) = _
 rw [hl]
 rfl
theorem lawT : Keyed Try.prog 97 := Keyed.of_law (deep_law_laid (m := 10) (by kernel_rfl) (by decide) (of_decide_eq_true (by kernel_rfl)) (by kernel_rfl) (by kernel_rfl))
end Go.Proofs.Ytknklchmpohjfaa.Gm
namespace Go.Proofs.Ytknklchmpohjfaa.Gq
open Go.Maps Go.RowKit Go Go.Proofs.YtknklchmpohjfaaW.PrintWords Go.Proofs.YtknklchmpohjfaaW.PrintLast Go.Proofs.YtknklchmpohjfaaW.PrintMore Go.Proofs.Ytknklchmpohjfaa.Mn Go.Proofs.Ytknklchmpohjfaa.Nd Go.Proofs.Ytknklchmpohjfaa.Z Go.Proofs.Ytknklchmpohjfaa.E Go.Proofs.Ytknklchmpohjfaa.Tk Go.Proofs.Ytknklchmpohjfaa.Tw Go.Proofs.Ytknklchmpohjfaa.Mp Go.Proofs.Ytknklchmpohjfaa.Gs Go.Proofs.Ytknklchmpohjfaa.Gd Go.Proofs.Ytknklchmpohjfaa.Ge Go.Proofs.Ytknklchmpohjfaa.Gb Go.Proofs.Ytknklchmpohjfaa.Gm
set_option linter.unusedVariables false
set_option linter.unusedSimpArgs false
def OwnM (W : World) (b n : Nat) : Prop := ∃ D : DataW Unit, W.ownsMap Try.prog 97 (plainElem Try.prog 4) b n D
theorem OwnM.made (W : World) : OwnM (W.alloc (.map #[] 0)) W.heap.size 0 := ⟨.map [], World.ownsMap_made W _ _ _⟩
theorem OwnM.of {W W2 : World} {b n : Nat} (h : OwnM W b n) (hb : W2.heap[b]? = W.heap[b]?) : OwnM W2 b n := by
 obtain ⟨D, ⟨es, clock, hw, F, hs, hD⟩⟩ := h
 exact ⟨D, ⟨es, clock, hb.trans hw, F, hs, hD⟩⟩
theorem OwnM.lt {W : World} {b n : Nat} (h : OwnM W b n) : b < W.heap.size := by
 obtain ⟨D, ho⟩ := h
 exact ho.lt
theorem OwnM.below {W W2 : World} {b n : Nat} (h : OwnM W b n) (hb : Below W.heap.size W W2) : OwnM W2 b n := h.of (hb.block b h.lt)
theorem OwnM.put {W : World} {b n : Nat} (h : OwnM W b n) (hn : n ≤ 1000000) {x y : Int} (hx : Wf x) (hy : Wf y) : ∃ W', (Instr.mapUpdate 98 (.map (some b)) (.agg #[.int .i64 x, .int .i64 y]) (.bool true)).run Try.prog W = .ok () W' ∧ OwnM W' b (n + 1) ∧ W.grownBy W' (some b) := by
 obtain ⟨D, ho⟩ := h
 obtain ⟨W', hrun, ho', hg⟩ := ho.update lawT Try.underlying98 (by unfold maxLen; omega) (key_thing hx hy) (plainElem_bool Try.underlying4 true)
 exact ⟨W', hrun, ⟨_, ho'⟩, hg⟩
section
variable (scale : Int) (title : ByteArray) (ts : List Tr') (A2 : Option Addr) (c2 : Nat)
set_option maxHeartbeats 4000000 in
set_option maxRecDepth 100000 in
theorem chap0_n (w : World) : Calls Try.prog 32 #[.agg #[.int .i64 scale, .string title, .slice A2 ts.length c2, .slice none 0 0, .slice none 0 0, .slice none 0 0]] w (ValP w (.int .i64 0)) := by
 have hu := Try.underlying27
 have hmm := @run_makeMap Try.prog
 go_enter Try.func32, Try.ntmps32
 go_upto_region 1 with (first | ((with_reducible refine gate_dst (N := 1) rfl ?_); refine zB 1 27 #[.int .i64 scale, .string title, .slice A2 ts.length c2, .slice none 0 0, .slice none 0 0, .slice none 0 0] ?_; intro gb hg W0 hbox hb; have HG := Aside0.mk hg; have HM0 := Aside0.mk hbox; have HB0 := Aside0.mk hb; clear hbox hb hg))
 go_upto_region 3 with fail
 have HM1 := Aside0.mk (blk_alloc (blk_alloc HM0.out (.map #[] 0)) (.map #[] 0))
 have HB1 := Aside0.mk (below_alloc (below_alloc HB0.out (.map #[] 0)) (.map #[] 0))
 generalize World.alloc (World.alloc W0 _) _ = W1 at *
 have m3 : W1.cell? ⟨gb, 3, none⟩ = some (.slice none 0 0) := (blk_cell HM1.out 3).trans rfl
 go_wp2_with fail
 refine wp_loop_rounds 1 ?_
 rw [rounds_succ]
 go_wp2_with fail
 go_ret
 exact ⟨rfl, HB1.out⟩
set_option maxHeartbeats 8000000 in
set_option maxRecDepth 100000 in
theorem rest0_n (w : World) (hr : Kd.C k40 w A2 ts.length ts) (hl : ts.length ≤ 1000) (hid : ∀ T ∈ ts, Wf T.f0) : Calls Try.prog 33 #[.agg #[.int .i64 scale, .string title, .slice A2 ts.length c2, .slice none 0 0, .slice none 0 0, .slice none 0 0]] w (ValP w (.int .i64 0)) := by
 have hu := Try.underlying27
 have hu2 := Try.underlying40
 have hu3 := Try.underlying97
 have hmm := @run_makeMap Try.prog
 have HR := Aside0.mk hr
 have HL := Aside0.mk (And.intro hl hid)
 clear hr hl hid
 go_enter Try.func33, Try.ntmps33
 go_upto_region 1 with (first | ((with_reducible refine gate_dst (N := 1) rfl ?_); refine zB 1 27 #[.int .i64 scale, .string title, .slice A2 ts.length c2, .slice none 0 0, .slice none 0 0, .slice none 0 0] ?_; intro gb hg W0 hbox hb; have HG := Aside0.mk hg; have HM0 := Aside0.mk hbox; have HB0 := Aside0.mk hb; clear hbox hb hg))
 obtain ⟨W1, hins, ho1, hg1⟩ := (OwnM.made W0).put (by decide) (x := 0) (y := 0) (wf_of (by decide) (by decide)) (wf_of (by decide) (by decide))
 have HO1 := Aside0.mk ho1
 have hgb := blk_lt HM0.out
 have HM1 := Aside0.mk (blk_grown (blk_alloc HM0.out (.map #[] 0)) hg1 (fun e => by have := Option.some.inj e; omega))
 have HB1 := Aside0.mk ((below_alloc HB0.out (.map #[] 0)).grown hg1 (below_alloc HB0.out (.map #[] 0)).size (fun k hk => by cases hk; exact HB0.out.size))
 have HW := Aside0.mk (show w.heap.size ≤ W0.heap.size ∧ gb < W0.heap.size from ⟨HB0.out.size, hgb⟩)
 clear ho1 hg1 hgb HB0 HM0
 go_upto_region 2 with fail
 clear hins
 generalize W0.heap.size = b at *
 have HO2 := Aside0.mk (HO1.out.below (below_alloc (Below.refl W1.heap.size W1) (.cells #[.map (some b)] 98 (0, 0))))
 have HM2 := Aside0.mk (blk_alloc HM1.out (.cells #[.map (some b)] 98 (0, 0)))
 have HB2 := Aside0.mk (below_alloc HB1.out (.cells #[.map (some b)] 98 (0, 0)))
 have HG2 := Aside0.mk (blk_new W1 (.cells #[.map (some b)] 98 (0, 0)))
 have HW2 := Aside0.mk (show w.heap.size ≤ b ∧ gb < b ∧ b < W1.heap.size from ⟨HW.out.1, HW.out.2, HO1.out.lt⟩)
 generalize World.alloc W1 _ = W2 at *
 generalize W1.heap.size = g3 at *
 clear HO1 HM1 HB1 HW
 obtain ⟨m0, m1, m2, m3, m4, m5⟩ := mv_cells HM2.out
 go_wp2_with fail
 refine wp_loop_rounds 1 ?_
 rw [rounds_succ]
 go_wp2_with fail
 clear m0 m1 m2 m3 m4 m5
 go_loopg [60] ts.length (fun kq v60 w' => ∃ i : Int, v60 = .int .i64 i ∧ Aside0 (0 ≤ i ∧ i + kq = ts.length) ∧ Aside0 (OwnM w' b (1 + i.toNat)) ∧ Aside0 (w'.heap[gb]? = some (.cells #[.int .i64 scale, .string title, .slice A2 ts.length c2, .slice none 0 0, .slice none 0 0, .slice none 0 0] 27 (0, 0))) ∧ Aside0 (w'.heap[g3]? = some (.cells #[.map (some b)] 98 (0, 0))) ∧ Aside0 (Below w.heap.size w w'))
 case atStart => exact ⟨0, rfl, ⟨by simp⟩, HO2, HM2, HG2, HB2⟩
 case round =>
  clear HO2 HM2 HG2 HB2
  obtain ⟨i, rfl, hi, HO, HM, HG3, HB⟩ := hrel
  by_cases hlt : i < (ts.length : Int)
  ·have hlb : decide (i < (ts.length : Int)) = true := decide_eq_true hlt
   have p0 := hi.out.1
   obtain ⟨ad, B4, d4, B8, d8, B9, d9, B10, d10, hA, r0, r1, r2, r3, r4, r5, r6, r7, r8, r9, r10, _⟩ := at_T40 (Kd.C_below HR.out HB.out) i p0 hlt
   have HT := Aside0.mk (HL.out.2 _ (rd_mem p0 hlt))
   obtain ⟨k1, rfl⟩ : ∃ m, gk = m + 1 := ⟨gk - 1, by have := hi.out; omega⟩
   have HY := Aside0.mk (And.intro (show wrap64 (i + 1) = i + 1 by have := HL.out.1; exact w64 (by omega) (by omega)) (And.intro (show 0 ≤ i + 1 ∧ i + 1 + (k1 : Int) = ts.length by have := hi.out; omega) (show 1 + i.toNat ≤ 1000000 ∧ 1 + i.toNat + 1 = 1 + (i + 1).toNat by have := HL.out.1; omega)))
   subst hA
   generalize rd_T40 ts i = T at *
   replace p0 := eq_true p0
   replace hlt := eq_true hlt
   clear hi
   go_upto_region 12 with fail
   have HM1 := Aside0.mk (blk_alloc HM.out (.cells #[.int .i64 T.f0, .int .i64 T.f1, .string T.f2, .int .i64 T.f3, .slice B4 T.f4.length d4, .string T.f5, .string T.f6, .int .i64 T.f7, .slice B8 T.f8.length d8, .slice B9 T.f9.length d9, .slice B10 T.f10.length d10] 40 (0, 0)))
   have HG1 := Aside0.mk (blk_alloc HG3.out (.cells #[.int .i64 T.f0, .int .i64 T.f1, .string T.f2, .int .i64 T.f3, .slice B4 T.f4.length d4, .string T.f5, .string T.f6, .int .i64 T.f7, .slice B8 T.f8.length d8, .slice B9 T.f9.length d9, .slice B10 T.f10.length d10] 40 (0, 0)))
   have HE1 := Aside0.mk (blk_new wr (.cells #[.int .i64 T.f0, .int .i64 T.f1, .string T.f2, .int .i64 T.f3, .slice B4 T.f4.length d4, .string T.f5, .string T.f6, .int .i64 T.f7, .slice B8 T.f8.length d8, .slice B9 T.f9.length d9, .slice B10 T.f10.length d10] 40 (0, 0)))
   have HB1 := Aside0.mk (below_alloc HB.out (.cells #[.int .i64 T.f0, .int .i64 T.f1, .string T.f2, .int .i64 T.f3, .slice B4 T.f4.length d4, .string T.f5, .string T.f6, .int .i64 T.f7, .slice B8 T.f8.length d8, .slice B9 T.f9.length d9, .slice B10 T.f10.length d10] 40 (0, 0)))
   have HO1 := Aside0.mk (HO.out.below (below_alloc (Below.refl wr.heap.size wr) (.cells #[.int .i64 T.f0, .int .i64 T.f1, .string T.f2, .int .i64 T.f3, .slice B4 T.f4.length d4, .string T.f5, .string T.f6, .int .i64 T.f7, .slice B8 T.f8.length d8, .slice B9 T.f9.length d9, .slice B10 T.f10.length d10] 40 (0, 0))))
   generalize World.alloc wr _ = W3 at *
   generalize wr.heap.size = gE at *
   clear r0 r1 r2 r3 r4 r5 r6 r7 r8 r9 r10 HM HB HO HG3
   have q0 : W3.cell? ⟨gE, 0, none⟩ = some (.int .i64 T.f0) := (blk_cell HE1.out 0).trans rfl
   have q3 : W3.cell? ⟨g3, 0, none⟩ = some (.map (some b)) := (blk_cell HG1.out 0).trans rfl
   obtain ⟨W4, hup, ho4, hg4⟩ := HO1.out.put HY.out.2.2.1 (x := 1) (y := T.f0) (wf_of (by decide) (by decide)) HT.out
   have HO4 := Aside0.mk (show OwnM W4 b (1 + (i + 1).toNat) by rw [← HY.out.2.2.2]; exact ho4)
   have HM4 := Aside0.mk (blk_grown HM1.out hg4 (fun e => by have := Option.some.inj e; have := HW2.out; omega))
   have HG4 := Aside0.mk (blk_grown HG1.out hg4 (fun e => by have := Option.some.inj e; have := HW2.out; omega))
   have HB4 := Aside0.mk (HB1.out.grown hg4 HB1.out.size (fun k hk => by cases hk; exact HW2.out.1))
   clear ho4 hg4
   go_wp2_with fail
   clear hup q0 q3
   go_roundg k1
   case measure => omega
   case rel => exact ⟨i + 1, by rw [HY.out.1], ⟨HY.out.2.1⟩, HO4, HM4, HG4, HB4⟩
  ·have hlb : decide (i < (ts.length : Int)) = false := decide_eq_false hlt
   obtain ⟨m0, m1, m2, m3, m4, m5⟩ := mv_cells HM.out
   replace hlt := eq_false hlt
   clear hi
   go_upto_region 16 with fail
   have HM1 := Aside0.mk (blk_alloc HM.out (.cells #[.func (.func 55) #[] #[.pointer (some ⟨g3, 0, none⟩), .pointer (some ⟨wr.heap.size, 0, none⟩)]] 99 (0, 0)))
   have HB1 := Aside0.mk (below_alloc HB.out (.cells #[.func (.func 55) #[] #[.pointer (some ⟨g3, 0, none⟩), .pointer (some ⟨wr.heap.size, 0, none⟩)]] 99 (0, 0)))
   clear m0 m1 m2 m3 m4 m5
   generalize World.alloc wr _ = W3 at *
   obtain ⟨m0, m1, m2, m3, m4, m5⟩ := mv_cells HM1.out
   go_wp2_with fail
   refine wp_loop_rounds 1 ?_
   rw [rounds_succ]
   go_wp2_with fail
   refine wp_loop_rounds 1 ?_
   rw [rounds_succ]
   go_wp2_with fail
   go_ret
   exact ⟨rfl, HB1.out⟩
end
def bytS : List Sm → Int → Int
 | [], s => s
 | x :: l, s => bytS l (wrap64 (s + (x.f5.length : Int)))
def bytV : List Tr' → Int → Int
 | [], s => s
 | T :: l, s => bytV l (bytS T.f10 s)
theorem byt_drop {ts : List Tr'} {i s : Int} (h0 : 0 ≤ i) (h1 : i < (ts.length : Int)) : bytV (ts.drop i.toNat) s = bytV (ts.drop (i + 1).toNat) (bytS (rd_T40 ts i).f10 s) := by
 have hn : i.toNat < ts.length := by omega
 have hi : (i + 1).toNat = i.toNat + 1 := by omega
 have hg : rd_T40 ts i = ts[i.toNat] := by
  unfold rd_T40
  rw [List.getD_eq_getElem?_getD, List.getElem?_eq_getElem hn]
  rfl
 rw [hi, hg, List.drop_eq_getElem_cons hn, bytV]
theorem bys_drop {l : List Sm} {i s : Int} (h0 : 0 ≤ i) (h1 : i < (l.length : Int)) : bytS (l.drop i.toNat) s = bytS (l.drop (i + 1).toNat) (wrap64 (s + ((rd_T51 l i).f5.length : Int))) := by
 have hn : i.toNat < l.length := by omega
 have hi : (i + 1).toNat = i.toNat + 1 := by omega
 have hg : rd_T51 l i = l[i.toNat] := by
  unfold rd_T51
  rw [List.getD_eq_getElem?_getD, List.getElem?_eq_getElem hn]
  rfl
 rw [hi, hg, List.drop_eq_getElem_cons hn, bytS]
section
variable (scale : Int) (title : ByteArray) (ts : List Tr') (A2 : Option Addr) (c2 : Nat)
set_option maxHeartbeats 8000000 in
set_option maxRecDepth 100000 in
theorem bytes0_n (w : World) (hr : Kd.C k40 w A2 ts.length ts) : Calls Try.prog 13 #[.agg #[.int .i64 scale, .string title, .slice A2 ts.length c2, .slice none 0 0, .slice none 0 0, .slice none 0 0]] w (ValP w (.int .i64 (bytV ts 0))) := by
 have hu := Try.underlying27
 have hu2 := Try.underlying40
 have hu3 := Try.underlying51
 have HR := Aside0.mk hr
 have HL := Aside0.mk hr.2.1
 have HV := Aside0.mk (show bytV ts 0 = bytV (ts.drop (0 : Int).toNat) 0 by simp)
 generalize bytV ts 0 = V at HV ⊢
 clear hr
 go_enter Try.func13, Try.ntmps13
 go_upto_region 1 with (first | ((with_reducible refine gate_dst (N := 1) rfl ?_); refine zB 1 27 #[.int .i64 scale, .string title, .slice A2 ts.length c2, .slice none 0 0, .slice none 0 0, .slice none 0 0] ?_; intro gb hg W0 hbox hb; have HG := Aside0.mk hg; have HM0 := Aside0.mk hbox; have HB0 := Aside0.mk hb; clear hbox hb hg))
 obtain ⟨m0, m1, m2, m3, m4, m5⟩ := mv_cells HM0.out
 go_wp2_with fail
 clear m0 m1 m2 m3 m4 m5
 go_loopg [3, 13] ts.length (fun kq v3 v13 w' => ∃ s i : Int, v3 = .int .i64 s ∧ v13 = .int .i64 i ∧ Aside0 (0 ≤ i ∧ i + kq = ts.length ∧ V = bytV (ts.drop i.toNat) s) ∧ Aside0 (w'.heap[gb]? = some (.cells #[.int .i64 scale, .string title, .slice A2 ts.length c2, .slice none 0 0, .slice none 0 0, .slice none 0 0] 27 (0, 0))) ∧ Aside0 (Below w.heap.size w w'))
 case atStart => exact ⟨0, 0, rfl, rfl, ⟨by simp, by simp, HV.out⟩, HM0, HB0⟩
 case round =>
  clear HM0 HB0 HV
  obtain ⟨s, i, rfl, rfl, hi, HM, HB⟩ := hrel
  by_cases hlt : i < (ts.length : Int)
  ·have hlb : decide (i < (ts.length : Int)) = true := decide_eq_true hlt
   have p0 := hi.out.1
   obtain ⟨ad, B4, d4, B8, d8, B9, d9, B10, d10, hA, r0, r1, r2, r3, r4, r5, r6, r7, r8, r9, r10, t4, k4, t8, k8, t9, k9, t10, k10⟩ := at_T40 (Kd.C_below HR.out HB.out) i p0 hlt
   have HD := Aside0.mk (byt_drop (s := s) p0 hlt)
   obtain ⟨k1, rfl⟩ : ∃ m, gk = m + 1 := ⟨gk - 1, by have := hi.out; omega⟩
   have HY := Aside0.mk (And.intro (show wrap64 (i + 1) = i + 1 by have := HL.out; exact w64 (by omega) (by omega)) (show 0 ≤ i + 1 ∧ i + 1 + (k1 : Int) = ts.length by have := hi.out; omega))
   have HI := Aside0.mk hi.out.2.2
   subst hA
   generalize rd_T40 ts i = T at *
   have HK := Aside0.mk k10
   replace p0 := eq_true p0
   replace hlt := eq_true hlt
   clear hi t4 k4 t8 k8 t9 k9 t10 k10
   go_upto_region 5 with fail
   have HM1 := Aside0.mk (blk_alloc HM.out (.cells #[.int .i64 T.f0, .int .i64 T.f1, .string T.f2, .int .i64 T.f3, .slice B4 T.f4.length d4, .string T.f5, .string T.f6, .int .i64 T.f7, .slice B8 T.f8.length d8, .slice B9 T.f9.length d9, .slice B10 T.f10.length d10] 40 (0, 0)))
   have HE1 := Aside0.mk (blk_new wr (.cells #[.int .i64 T.f0, .int .i64 T.f1, .string T.f2, .int .i64 T.f3, .slice B4 T.f4.length d4, .string T.f5, .string T.f6, .int .i64 T.f7, .slice B8 T.f8.length d8, .slice B9 T.f9.length d9, .slice B10 T.f10.length d10] 40 (0, 0)))
   have HB1 := Aside0.mk (below_alloc HB.out (.cells #[.int .i64 T.f0, .int .i64 T.f1, .string T.f2, .int .i64 T.f3, .slice B4 T.f4.length d4, .string T.f5, .string T.f6, .int .i64 T.f7, .slice B8 T.f8.length d8, .slice B9 T.f9.length d9, .slice B10 T.f10.length d10] 40 (0, 0)))
   have HK1 := Aside0.mk (Kd.C_below HK.out (below_alloc (Below.refl wr.heap.size wr) (.cells #[.int .i64 T.f0, .int .i64 T.f1, .string T.f2, .int .i64 T.f3, .slice B4 T.f4.length d4, .string T.f5, .string T.f6, .int .i64 T.f7, .slice B8 T.f8.length d8, .slice B9 T.f9.length d9, .slice B10 T.f10.length d10] 40 (0, 0))))
   generalize World.alloc wr _ = W1 at *
   generalize wr.heap.size = gE at *
   clear r0 r1 r2 r3 r4 r5 r6 r7 r8 r9 r10 HM HB HK
   have qa : W1.cell? ⟨gE, 10, none⟩ = some (.slice B10 T.f10.length d10) := (blk_cell HE1.out 10).trans rfl
   go_wp2_with fail
   clear qa
   go_loopg [3, 20] T.f10.length (fun kq v3 v20 w' => ∃ s2 j : Int, v3 = .int .i64 s2 ∧ v20 = .int .i64 j ∧ Aside0 (0 ≤ j ∧ j + kq = T.f10.length ∧ bytS T.f10 s = bytS (T.f10.drop j.toNat) s2) ∧ Aside0 (w'.heap[gb]? = some (.cells #[.int .i64 scale, .string title, .slice (some ad) ts.length c2, .slice none 0 0, .slice none 0 0, .slice none 0 0] 27 (0, 0))) ∧ Aside0 (k51.C w' B10 T.f10.length T.f10) ∧ Aside0 (Below w.heap.size w w'))
   case atStart => exact ⟨s, 0, rfl, rfl, ⟨by simp, by simp, by simp⟩, HM1, HK1, HB1⟩
   case round =>
    clear HM1 HE1 HK1 HB1
    obtain ⟨s2, j, rfl, rfl, hj, HM, HK, HB⟩ := hrel
    by_cases hlj : j < (T.f10.length : Int)
    ·have hlb2 : decide (j < (T.f10.length : Int)) = true := decide_eq_true hlj
     have g0 := hj.out.1
     obtain ⟨ad2, D4, f4, D5, f5, hA2, x0, x1, x2, x3, x4, x5, _⟩ := at_T51 HK.out j g0 hlj
     have HD2 := Aside0.mk (bys_drop (s := s2) g0 hlj)
     obtain ⟨k2, rfl⟩ : ∃ m, gk = m + 1 := ⟨gk - 1, by have := hj.out; omega⟩
     have HY2 := Aside0.mk (And.intro (show wrap64 (j + 1) = j + 1 by have := HK.out.2.1; exact w64 (by omega) (by omega)) (show 0 ≤ j + 1 ∧ j + 1 + (k2 : Int) = T.f10.length by have := hj.out; omega))
     have HJ := Aside0.mk hj.out.2.2
     subst hA2
     generalize rd_T51 T.f10 j = X at *
     replace g0 := eq_true g0
     replace hlj := eq_true hlj
     clear hj
     go_upto_region 8 with fail
     have HM1 := Aside0.mk (blk_alloc HM.out (.cells #[.int .i64 X.f0, .int .i64 X.f1, .int .i64 X.f2, .bool X.f3, .slice D4 X.f4.length f4, .slice D5 X.f5.length f5] 51 (0, 0)))
     have HX1 := Aside0.mk (blk_new wr (.cells #[.int .i64 X.f0, .int .i64 X.f1, .int .i64 X.f2, .bool X.f3, .slice D4 X.f4.length f4, .slice D5 X.f5.length f5] 51 (0, 0)))
     have HB1 := Aside0.mk (below_alloc HB.out (.cells #[.int .i64 X.f0, .int .i64 X.f1, .int .i64 X.f2, .bool X.f3, .slice D4 X.f4.length f4, .slice D5 X.f5.length f5] 51 (0, 0)))
     have HK1 := Aside0.mk (Kd.C_below HK.out (below_alloc (Below.refl wr.heap.size wr) (.cells #[.int .i64 X.f0, .int .i64 X.f1, .int .i64 X.f2, .bool X.f3, .slice D4 X.f4.length f4, .slice D5 X.f5.length f5] 51 (0, 0))))
     generalize World.alloc wr _ = W1 at *
     generalize wr.heap.size = gX at *
     clear x0 x1 x2 x3 x4 x5 HM HK HB
     have x5 : W1.cell? ⟨gX, 5, none⟩ = some (.slice D5 X.f5.length f5) := (blk_cell HX1.out 5).trans rfl
     go_wp2_with fail
     go_roundg k2
     case measure => omega
     case rel => exact ⟨_, j + 1, rfl, by rw [HY2.out.1], ⟨HY2.out.2.1, HY2.out.2.2, by rw [HJ.out, HD2.out]⟩, HM1, HK1, HB1⟩
    ·have hlb2 : decide (j < (T.f10.length : Int)) = false := decide_eq_false hlj
     have HJ := Aside0.mk (show bytS T.f10 s = s2 by
      rw [hj.out.2.2, List.drop_of_length_le (by have := hj.out; omega)]
      rfl)
     replace hlj := eq_false hlj
     clear hj
     go_wp2_with fail
     go_roundg k1
     case measure => omega
     case rel => exact ⟨s2, i + 1, rfl, by rw [HY.out.1], ⟨HY.out.2.1, HY.out.2.2, by rw [HI.out, HD.out, HJ.out]⟩, HM, HB⟩
  ·have hlb : decide (i < (ts.length : Int)) = false := decide_eq_false hlt
   have HV2 := Aside0.mk (show V = s by rw [hi.out.2.2, List.drop_of_length_le (by have := hi.out; omega)]; rfl)
   obtain ⟨m0, m1, m2, m3, m4, m5⟩ := mv_cells HM.out
   replace hlt := eq_false hlt
   clear hi
   go_wp2_with fail
   refine wp_loop_rounds 1 ?_
   rw [rounds_succ]
   go_wp2_with fail
   go_ret
   exact ⟨ret_i HV2.out.symm, HB.out⟩
end
end Go.Proofs.Ytknklchmpohjfaa.Gq
namespace Go.Proofs.Ytknklchmpohjfaa.Gw
open Go.RowKit Go Go.Proofs.YtknklchmpohjfaaW.PrintWords Go.Proofs.YtknklchmpohjfaaW.PrintLast Go.Proofs.YtknklchmpohjfaaW.PrintMore Go.Proofs.Ytknklchmpohjfaa.Mn Go.Proofs.Ytknklchmpohjfaa.Nd Go.Proofs.Ytknklchmpohjfaa.Z Go.Proofs.Ytknklchmpohjfaa.Rf Go.Proofs.Ytknklchmpohjfaa.E Go.Proofs.Ytknklchmpohjfaa.Tk Go.Proofs.Ytknklchmpohjfaa.Tw Go.Proofs.Ytknklchmpohjfaa.Gt Go.Proofs.Ytknklchmpohjfaa.Gs Go.Proofs.Ytknklchmpohjfaa.Gd Go.Proofs.Ytknklchmpohjfaa.Ge Go.Proofs.Ytknklchmpohjfaa.Gk Go.Proofs.Ytknklchmpohjfaa.Gr Go.Proofs.Ytknklchmpohjfaa.Gx Go.Proofs.Ytknklchmpohjfaa.Gm Go.Proofs.Ytknklchmpohjfaa.Gq Go.Proofs.Ytknklchmpohjfaa.Gv
set_option linter.unusedVariables false
set_option linter.unusedSimpArgs false
section
variable (scaleM : Int) (title : ByteArray) (ts : List Tr') (A2 : Option Addr) (c2 : Nat) (A3 : Option Addr) (n3 c3 : Nat) (A5 : Option Addr) (n5 c5 : Nat) (A6 : Option Addr) (n6 c6 : Nat)
set_option maxHeartbeats 16000000 in
set_option maxRecDepth 100000 in
theorem shown_n (id a b j i : Int) (T : Tr') (hT : rd_T40 ts i = T) (w : World) (hr : Kd.C k40 w A2 ts.length ts) (h0 : 1 ≤ b) (h1 : b ≤ 1152921504606846976) (h2 : 0 ≤ a) (h3 : a ≤ 1152921504606846976) (hi : findT ts id 0 = i) (i0 : 0 ≤ i) (i1 : i < (ts.length : Int))
  (h8 : T.f8.length = 0) (hsc : 1 ≤ T.f3 ∧ T.f3 ≤ 1000000) (hs : ∀ s ∈ T.f10, rngS s) (hl : T.f10.length ≤ 1000)
  (hc : ∀ W, Below w.heap.size w W → Calls Try.prog 9 #[.agg #[.int .i64 scaleM, .string title, .slice A2 ts.length c2, .slice A3 n3 c3, .slice A5 n5 c5, .slice A6 n6 c6]] W (ValP W (.tuple #[.int .i64 0, .int .i64 j]))) :
  Calls Try.prog 42 #[.agg #[.int .i64 scaleM, .string title, .slice A2 ts.length c2, .slice A3 n3 c3, .slice A5 n5 c5, .slice A6 n6 c6], .int .i64 id, .agg #[.int .i64 a, .int .i64 b]] w (ValP w (.tuple #[.int .i64 (shL (qq a b * qq T.f3 1) T.f10 T.f10 0 (-1)), .int .i64 0])) := by
 have hu := Try.underlying40
 have hu2 := Try.underlying27
 have hu3 := Try.underlying77
 have HA := Aside0.mk (fun W (hb : Below w.heap.size w W) => asked_n scaleM title ts A2 c2 A3 n3 c3 A5 n5 c5 A6 n6 c6 id a b j i W (Kd.C_below hr hb) h0 h1 (by omega) h3 hi i0 i1 (fun W2 h => hc W2 (hb.trans (h.mono hb.size))))
 have HRO := Aside0.mk (fun W => ratOf_n a b W (by omega) (by omega) (by omega) (by omega) (by omega))
 have hq0 : 0 ≤ (qq a b).num := by
  have := (rat_low (a := a) (b := b) (by omega)).1
  rw [← this]
  unfold Ra.ratN Ea.lowN
  rw [if_neg (by omega)]
  exact Int.ediv_nonneg h2 (Int.natCast_nonneg _)
 have HP := Aside0.mk (And.intro hq0 (And.intro hsc (And.intro hs hl)))
 have HT := Aside0.mk (And.intro hT h8)
 clear hr h0 h1 h2 h3 hi i0 i1 h8 hsc hs hl hc hT hq0
 go_enter Try.func42, Try.ntmps42
 go_upto_region 1 with (first | ((with_reducible refine gate_dst (N := 3) rfl ?_); refine zB 3 27 #[.int .i64 scaleM, .string title, .slice A2 ts.length c2, .slice A3 n3 c3, .slice A5 n5 c5, .slice A6 n6 c6] ?_; intro gm hg W0 hbox hb; have HGM := Aside0.mk hg; have HM0 := Aside0.mk hbox; have HB0 := Aside0.mk hb; clear hbox hb hg) | ((with_reducible refine gate_dst (N := 5) rfl ?_); refine zB 5 77 #[.int .i64 a, .int .i64 b] ?_; intro gx hg W1 hbox hb; have HM1 := Aside0.mk (blk_below HM0.out hb); have HX1 := Aside0.mk hbox; have HB1 := Aside0.mk (HB0.out.trans (hb.mono HB0.out.size)); clear hbox hb hg))
 obtain ⟨m0, m1, m2, m3, m4, m5⟩ := mv_cells HM1.out
 obtain ⟨x0, x1, _, _⟩ := xc2 HX1
 go_wp2_with fail
 refine (HA.out W1 HB1.out).mono ?_
 rintro e w3 ⟨T', hT', B4, d4, B8, d8, B9, d9, B10, d10, rfl, hd, hb3⟩
 obtain rfl : T = T' := HT.out.1.symm.trans hT'.symm
 rw [HT.out.2]
 have HM3 := Aside0.mk (blk_below HM1.out hb3)
 have HX3 := Aside0.mk (blk_below HX1.out hb3)
 have HB3 := Aside0.mk (HB1.out.trans (hb3.mono HB1.out.size))
 have HD3 := Aside0.mk hd.p
 clear hb3 hd hT' m0 m1 m2 m3 m4 m5 x0 x1 HM1 HX1 HB1 HA
 go_upto_region 4 with fail
 have HM4 := Aside0.mk (blk_alloc HM3.out (.cells #[.int .i64 T.f0, .int .i64 T.f1, .string T.f2, .int .i64 T.f3, .slice B4 T.f4.length d4, .string T.f5, .string T.f6, .int .i64 T.f7, .slice B8 0 d8, .slice B9 T.f9.length d9, .slice B10 T.f10.length d10] 40 (0, 0)))
 have HX4 := Aside0.mk (blk_alloc HX3.out (.cells #[.int .i64 T.f0, .int .i64 T.f1, .string T.f2, .int .i64 T.f3, .slice B4 T.f4.length d4, .string T.f5, .string T.f6, .int .i64 T.f7, .slice B8 0 d8, .slice B9 T.f9.length d9, .slice B10 T.f10.length d10] 40 (0, 0)))
 have HT4 := Aside0.mk (blk_new w3 (.cells #[.int .i64 T.f0, .int .i64 T.f1, .string T.f2, .int .i64 T.f3, .slice B4 T.f4.length d4, .string T.f5, .string T.f6, .int .i64 T.f7, .slice B8 0 d8, .slice B9 T.f9.length d9, .slice B10 T.f10.length d10] 40 (0, 0)))
 have HB4 := Aside0.mk (below_alloc HB3.out (.cells #[.int .i64 T.f0, .int .i64 T.f1, .string T.f2, .int .i64 T.f3, .slice B4 T.f4.length d4, .string T.f5, .string T.f6, .int .i64 T.f7, .slice B8 0 d8, .slice B9 T.f9.length d9, .slice B10 T.f10.length d10] 40 (0, 0)))
 have HD4 := Aside0.mk (Kd.C_below HD3.out (below_alloc (Below.refl w3.heap.size w3) (.cells #[.int .i64 T.f0, .int .i64 T.f1, .string T.f2, .int .i64 T.f3, .slice B4 T.f4.length d4, .string T.f5, .string T.f6, .int .i64 T.f7, .slice B8 0 d8, .slice B9 T.f9.length d9, .slice B10 T.f10.length d10] 40 (0, 0))))
 generalize World.alloc w3 _ = W4 at *
 generalize w3.heap.size = gt at *
 clear HM3 HX3 HB3 HD3
 have hb0 : Below W4.heap.size W4 W4.drew := below_drew' (Below.refl _ _)
 refine start_ (n := 7) (S := fun w' => w'.cell? ⟨gm, 0, none⟩ = some (.int .i64 scaleM) ∧ w'.cell? ⟨gm, 1, none⟩ = some (.string title) ∧ w'.cell? ⟨gm, 2, none⟩ = some (.slice A2 ts.length c2) ∧ w'.cell? ⟨gm, 3, none⟩ = some (.slice A3 n3 c3) ∧ w'.cell? ⟨gm, 4, none⟩ = some (.slice A5 n5 c5) ∧ w'.cell? ⟨gm, 5, none⟩ = some (.slice A6 n6 c6) ∧ w'.cell? ⟨gt, 0, none⟩ = some (.int .i64 T.f0) ∧ w'.cell? ⟨gt, 1, none⟩ = some (.int .i64 T.f1) ∧ w'.cell? ⟨gt, 2, none⟩ = some (.string T.f2) ∧ w'.cell? ⟨gt, 3, none⟩ = some (.int .i64 T.f3) ∧ w'.cell? ⟨gt, 4, none⟩ = some (.slice B4 T.f4.length d4) ∧ w'.cell? ⟨gt, 5, none⟩ = some (.string T.f5) ∧ w'.cell? ⟨gt, 6, none⟩ = some (.string T.f6) ∧ w'.cell? ⟨gt, 7, none⟩ = some (.int .i64 T.f7) ∧ w'.cell? ⟨gt, 8, none⟩ = some (.slice B8 0 d8) ∧ w'.cell? ⟨gt, 9, none⟩ = some (.slice B9 T.f9.length d9) ∧ w'.cell? ⟨gt, 10, none⟩ = some (.slice B10 T.f10.length d10) ∧ w'.cell? ⟨gx, 0, none⟩ = some (.int .i64 a) ∧ w'.cell? ⟨gx, 1, none⟩ = some (.int .i64 b)) (ds := [4, 5, 6]) (bs 7 0) (by kernel_rfl) rfl rfl ⟨(blk_cell (blk_below HM4.out hb0) 0).trans rfl, (blk_cell (blk_below HM4.out hb0) 1).trans rfl, (blk_cell (blk_below HM4.out hb0) 2).trans rfl, (blk_cell (blk_below HM4.out hb0) 3).trans rfl, (blk_cell (blk_below HM4.out hb0) 4).trans rfl, (blk_cell (blk_below HM4.out hb0) 5).trans rfl, (blk_cell (blk_below HT4.out hb0) 0).trans rfl, (blk_cell (blk_below HT4.out hb0) 1).trans rfl, (blk_cell (blk_below HT4.out hb0) 2).trans rfl, (blk_cell (blk_below HT4.out hb0) 3).trans rfl, (blk_cell (blk_below HT4.out hb0) 4).trans rfl, (blk_cell (blk_below HT4.out hb0) 5).trans rfl, (blk_cell (blk_below HT4.out hb0) 6).trans rfl, (blk_cell (blk_below HT4.out hb0) 7).trans rfl, (blk_cell (blk_below HT4.out hb0) 8).trans rfl, (blk_cell (blk_below HT4.out hb0) 9).trans rfl, (blk_cell (blk_below HT4.out hb0) 10).trans rfl, (blk_cell (blk_below HX4.out hb0) 0).trans rfl, (blk_cell (blk_below HX4.out hb0) 1).trans rfl⟩ (fun hHeld => ?_)
 refine zT 0 20 7 1 hHeld ?_
 refine zT 1 21 7 3 hHeld ?_
 refine zT 2 22 7 7 hHeld ?_
 refine zN 3 (some 23) 7 15 (fun K hK => ?_)
 refine zG Try.func59 #[.agg #[.int .i64 a, .int .i64 b]] ?_
 with_reducible refine (HRO.out W4.drew).mono ?_
 rintro e w5 ⟨g5, hg5, rfl, hb5, hN5⟩
 refine ⟨_, rfl, ?_⟩
 have H5 := Aside0.mk (And.intro (below_drew' hb5) hN5)
 clear hg5 hb5 hN5
 refine hK.out _ _ ⟨(blk_cell (blk_below HM4.out H5.out.1) 0).trans rfl, (blk_cell (blk_below HM4.out H5.out.1) 1).trans rfl, (blk_cell (blk_below HM4.out H5.out.1) 2).trans rfl, (blk_cell (blk_below HM4.out H5.out.1) 3).trans rfl, (blk_cell (blk_below HM4.out H5.out.1) 4).trans rfl, (blk_cell (blk_below HM4.out H5.out.1) 5).trans rfl, (blk_cell (blk_below HT4.out H5.out.1) 0).trans rfl, (blk_cell (blk_below HT4.out H5.out.1) 1).trans rfl, (blk_cell (blk_below HT4.out H5.out.1) 2).trans rfl, (blk_cell (blk_below HT4.out H5.out.1) 3).trans rfl, (blk_cell (blk_below HT4.out H5.out.1) 4).trans rfl, (blk_cell (blk_below HT4.out H5.out.1) 5).trans rfl, (blk_cell (blk_below HT4.out H5.out.1) 6).trans rfl, (blk_cell (blk_below HT4.out H5.out.1) 7).trans rfl, (blk_cell (blk_below HT4.out H5.out.1) 8).trans rfl, (blk_cell (blk_below HT4.out H5.out.1) 9).trans rfl, (blk_cell (blk_below HT4.out H5.out.1) 10).trans rfl, (blk_cell (blk_below HX4.out H5.out.1) 0).trans rfl, (blk_cell (blk_below HX4.out H5.out.1) 1).trans rfl⟩ (fun hHeld => ?_)
 clear hK K
 refine zM 23 ?_
 refine zL 4 (some 24) 7 31 (fun K hK => ?_)
 refine zG Try.func58 #[.agg #[.int .i64 scaleM, .string title, .slice A2 ts.length c2, .slice A3 n3 c3, .slice A5 n5 c5, .slice A6 n6 c6], .agg #[.int .i64 T.f0, .int .i64 T.f1, .string T.f2, .int .i64 T.f3, .slice B4 T.f4.length d4, .string T.f5, .string T.f6, .int .i64 T.f7, .slice B8 0 d8, .slice B9 T.f9.length d9, .slice B10 T.f10.length d10], .pointer (some ⟨g5, 0, none⟩)] ?_
 with_reducible refine (shown0_n scaleM title A2 ts.length c2 A3 n3 c3 A5 n5 c5 A6 n6 c6 T.f0 T.f1 T.f2 T.f3 B4 d4 T.f4 T.f5 T.f6 T.f7 B8 d8 B9 d9 T.f9 B10 d10 T.f10 g5 (qq a b) 2 w5 H5.out.2 HP.out.1 HP.out.2.1 (Kd.C_below HD4.out H5.out.1) (by decide) HP.out.2.2.1 HP.out.2.2.2).mono ?_
 rintro e w6 ⟨rfl, hb6⟩
 refine ⟨_, rfl, ?_⟩
 have H6 := Aside0.mk (HB4.out.trans ((H5.out.1.trans (hb6.mono H5.out.1.size)).mono HB4.out.size))
 clear hb6
 refine hK.out _ _ ?_
 clear hK K
 refine zM 24 ?_
 refine zP 5 6 7 63 ?_
 refine zP 6 7 7 127 ?_
 refine done_ (by kernel_rfl) ?_
 go_wp2_with fail
 go_ret2
 exact ⟨rfl, H6.out⟩
end
def awT : Tr' := ⟨1, 7, ⟨#[100, 97, 116, 97]⟩, 10, [], ⟨#[117, 110, 100]⟩, ⟨#[]⟩, 0, [], [], awS⟩
theorem AwB.below {W W1 : World} {b : Nat} (h : AwB W b) (hb : Below W.heap.size W W1) : AwB W1 b := ⟨blk_below h.d1 hb, blk_below h.d2 hb, blk_below h.s hb⟩
set_option maxRecDepth 100000 in
theorem aw_C {W : World} {b gs : Nat} (h : AwB W b) (hg : W.heap[gs]? = some (.cells #[.int .i64 1, .int .i64 7, .string ⟨#[100, 97, 116, 97]⟩, .int .i64 10, .slice none 0 0, .string ⟨#[117, 110, 100]⟩, .string (⟨#[]⟩ : ByteArray), .int .i64 0, .slice none 0 0, .slice none 0 0, .slice (some ⟨b + 1 + 1, 0, none⟩) 3 3] 40 (0, 0))) : Kd.C k40 W (some ⟨gs, 0, none⟩) 1 [awT] := by
 refine ⟨rfl, by decide, fun _ => ⟨⟨gs, 0, none⟩, rfl, fun j p hj => ?_⟩⟩
 cases j with
 | succ j => simp at hj
 | zero =>
  simp only [List.getElem?_cons_zero, Option.some.injEq] at hj
  subst hj
  refine ⟨_, rfl, k40_mk W awT (A4 := none) (c4 := 0) (Nat.le_refl _) (Kd.C_nil _ _) (A8 := none) (c8 := 0) (Nat.le_refl _) (Kd.C_nil _ _) (A9 := none) (c9 := 0) (Nat.le_refl _) (Kd.C_nil _ _) (A10 := some ⟨b + 1 + 1, 0, none⟩) (c10 := 3) (by decide) h.C, fun i u hu => ?_⟩
  rw [at_off, blk_cell hg]
  rw [← hu]
  rcases i with _ | _ | _ | _ | _ | _ | _ | _ | _ | _ | _ | i <;> first | rfl | simp at hu
set_option maxRecDepth 100000 in
theorem aw_chk : chkM 10 (⟨#[]⟩ : ByteArray) [awT] 0 0 0 0 0 (bytV [awT] 0) = (0, -1) := by decide +kernel
set_option maxRecDepth 100000 in
theorem aw_sh : shL (qq 1 2 * qq awT.f3 1) awT.f10 awT.f10 0 (-1) = 2 := by decide +kernel
set_option maxRecDepth 100000 in
theorem aw_ok : ∀ T ∈ [awT], okB T.f2 T.f5 T.f6 T.f9 = true := by decide +kernel
theorem aw_rng : ∀ s ∈ awT.f10, rngS s := by
 intro s hs
 have : s = ⟨0, 0, 5, true, [], []⟩ ∨ s = ⟨1, 10, 5, false, [0], []⟩ ∨ s = ⟨2, 5, 5, false, [0, 1], []⟩ := by simpa [awT, awS] using hs
 unfold rngS
 rcases this with rfl | rfl | rfl <;> exact ⟨by decide, by decide, by decide⟩
theorem aw_id : ∀ T ∈ [awT], Wf T.f0 := by
 intro T hT
 rw [List.mem_singleton] at hT
 subst hT
 exact wf_of (by decide) (by decide)
theorem awCheck_n (gs : Nat) (W : World) (hC : Kd.C k40 W (some ⟨gs, 0, none⟩) 1 [awT]) : Calls Try.prog 9 #[.agg #[.int .i64 10, .string (⟨#[]⟩ : ByteArray), .slice (some ⟨gs, 0, none⟩) 1 1, .slice none 0 0, .slice none 0 0, .slice none 0 0]] W (ValP W (.tuple #[.int .i64 0, .int .i64 (-1)])) := by
 have := check_n 10 (⟨#[]⟩ : ByteArray) [awT] (some ⟨gs, 0, none⟩) 1 none 0 0 none 0 0 none 0 0 0 0 (bytV [awT] 0) W hC (by unfold Bs; decide) aw_ok (fun W2 _ => chap0_n 10 (⟨#[]⟩ : ByteArray) [awT] (some ⟨gs, 0, none⟩) 1 W2) (fun W2 hb => rest0_n 10 (⟨#[]⟩ : ByteArray) [awT] (some ⟨gs, 0, none⟩) 1 W2 (Kd.C_below hC hb) (by decide) aw_id) (fun W2 hb => bytes0_n 10 (⟨#[]⟩ : ByteArray) [awT] (some ⟨gs, 0, none⟩) 1 W2 (Kd.C_below hC hb))
 rw [aw_chk] at this
 exact this
theorem awShown_n (gs : Nat) (W : World) (hC : Kd.C k40 W (some ⟨gs, 0, none⟩) 1 [awT]) : Calls Try.prog 42 #[.agg #[.int .i64 10, .string (⟨#[]⟩ : ByteArray), .slice (some ⟨gs, 0, none⟩) 1 1, .slice none 0 0, .slice none 0 0, .slice none 0 0], .int .i64 1, .agg #[.int .i64 1, .int .i64 2]] W (ValP W (.tuple #[.int .i64 2, .int .i64 0])) := by
 have := shown_n 10 (⟨#[]⟩ : ByteArray) [awT] (some ⟨gs, 0, none⟩) 1 none 0 0 none 0 0 none 0 0 1 1 2 (-1) 0 awT rfl W hC (by decide) (by decide) (by decide) (by decide) rfl (by decide) (by decide) rfl (by decide) aw_rng (by decide) (fun W2 hb => awCheck_n gs W2 (Kd.C_below hC hb))
 rw [aw_sh] at this
 exact this
set_option maxHeartbeats 8000000 in
set_option maxRecDepth 100000 in
theorem awake_n (w : World) : Calls Try.prog 15 #[] w (ValP w (.bool true)) := by
 have hu := Try.underlying40
 have hu2 := Try.underlying27
 have hu3 := Try.underlying77
 have hu4 := Try.underlying22
 go_enter Try.func15, Try.ntmps15
 go_wp2_with fail
 refine (track_n w).mono ?_
 rintro e w1 ⟨b, rfl, hAw, hb1⟩
 have HA1 := Aside0.mk hAw
 have HB1 := Aside0.mk hb1
 clear hAw hb1
 go_upto_region 2 with (first | ((with_reducible refine gate_dst (N := 7) rfl ?_); refine zS 7 40 #[.int .i64 1, .int .i64 7, .string ⟨#[100, 97, 116, 97]⟩, .int .i64 10, .slice none 0 0, .string ⟨#[117, 110, 100]⟩, .string (⟨#[]⟩ : ByteArray), .int .i64 0, .slice none 0 0, .slice none 0 0, .slice (some ⟨b + 1 + 1, 0, none⟩) 3 3] ?_; intro gs hgs w2 hsb hsl; have HS2 := Aside0.mk hsb; have HA2 := Aside0.mk (AwB.below HA1.out hsl); have HB2 := Aside0.mk (HB1.out.trans (hsl.mono HB1.out.size)); clear hsb hsl hgs))
 have HM3 := Aside0.mk (blk_new w2 (.cells #[.int .i64 10, .string (⟨#[]⟩ : ByteArray), .slice (some ⟨gs, 0, none⟩) 1 1, .slice none 0 0, .slice none 0 0, .slice none 0 0] 27 (0, 0)))
 have hb := below_alloc (Below.refl w2.heap.size w2) (.cells #[.int .i64 10, .string (⟨#[]⟩ : ByteArray), .slice (some ⟨gs, 0, none⟩) 1 1, .slice none 0 0, .slice none 0 0, .slice none 0 0] 27 (0, 0))
 have HC3 := Aside0.mk (Kd.C_below (aw_C HA2.out HS2.out) hb)
 have HB3 := Aside0.mk (HB2.out.trans (hb.mono HB2.out.size))
 generalize World.alloc w2 _ = w3 at *
 generalize w2.heap.size = gm at *
 clear hb
 obtain ⟨m0, m1, m2, m3, m4, m5⟩ := mv_cells HM3.out
 go_wp2_with fail
 refine (awCheck_n gs w3 HC3.out).mono ?_
 rintro e w4 ⟨rfl, hb4⟩
 have HM4 := Aside0.mk (blk_below HM3.out hb4)
 have HC4 := Aside0.mk (Kd.C_below HC3.out hb4)
 have HB4 := Aside0.mk (HB3.out.trans (hb4.mono HB3.out.size))
 clear hb4 m0 m1 m2 m3 m4 m5
 obtain ⟨m0, m1, m2, m3, m4, m5⟩ := mv_cells HM4.out
 go_wp2_with fail
 refine (awShown_n gs w4 HC4.out).mono ?_
 rintro e w5 ⟨rfl, hb5⟩
 have HB5 := Aside0.mk (HB4.out.trans (hb5.mono HB4.out.size))
 clear hb5
 go_wp2_with fail
 go_ret
 exact ⟨rfl, HB5.out⟩
end Go.Proofs.Ytknklchmpohjfaa.Gw
namespace Go.Proofs.Ytknklchmpohjfaa.E
open Go.RowKit Go
def dioramalaw03_awake.f : Option Bool := some true
theorem dioramalaw03_awake.calls (r : Bool) (w : World) (h : dioramalaw03_awake.f = some r) : Calls Try.prog 15 #[] w fun e w' => e = .returned (.bool r) ∧ Below w.heap.size w w' := by
 obtain rfl : true = r := Option.some.inj h
 exact Gw.awake_n w
end Go.Proofs.Ytknklchmpohjfaa.E
namespace Go.Proofs.Ytknklchmpohjfaa.E
open Go.Proofs.Ytknklchmpohjfaa.Z Go.RowKit Go.Proofs.YtknklchmpohjfaaW.PrintWords Go.Proofs.YtknklchmpohjfaaW.PrintLast Go.Proofs.YtknklchmpohjfaaW.PrintMore
attribute [local go_sem] max2_int min2_int max_two min_two max_three min_three max_four min_four
set_option linter.unusedVariables false
set_option linter.unusedSimpArgs false
end Go.Proofs.Ytknklchmpohjfaa.E

/-
  Plain laws of unions, of what two lists both have, and of what the first has alone. slices.Grow and Concat of lists of spans. exact.Union. The walker along a clean list: at. A block that holds times: opened, sorted. The shelf's sort at this program: the table of numbers, and that its bodies are the shelf's (plain words, printed by the shelf's tool). Times sorted: slices.SortFunc at exact.cmp. exact.chosen: pieces of its walk. exact.chosen, Meet, Without. Union, Meet and Without at small lists, of the code and of the reference.
-/
import Derived.Test.YtekommcfpjonmaaGreatQRExactTotalsd
import Derived.Test.YtekommcfpjonmaaGreatQRExactTotalsc
import Derived.Test.YtekommcfpjonmaaGreatQRExactTotalsa
import Derived.Outline
import Derived.Shelf.SlSortCmp.WholeK
import Derived.Test.YtekommcfpjonmaaGreatProg
namespace Go.Proofs.YtekommcfpjonmaaGreat.Up
open Go.RowKit Go Go.Proofs.YtekommcfpjonmaaGreatW.PrintWords Go.Proofs.YtekommcfpjonmaaGreatW.PrintLast Go.Proofs.YtekommcfpjonmaaGreatW.PrintMore Go.Proofs.YtekommcfpjonmaaGreat.Mn Go.Proofs.YtekommcfpjonmaaGreat.Rf Go.Proofs.YtekommcfpjonmaaGreat.E Go.Proofs.YtekommcfpjonmaaGreat.Sg Go.Proofs.YtekommcfpjonmaaGreat.Sx Go.Proofs.YtekommcfpjonmaaGreat.Sy Go.Proofs.YtekommcfpjonmaaGreat.Sz Go.Proofs.YtekommcfpjonmaaGreat.Rj Go.Proofs.YtekommcfpjonmaaGreat.Rk Go.Proofs.YtekommcfpjonmaaGreat.Rl Go.Proofs.YtekommcfpjonmaaGreat.Um
set_option linter.unusedVariables false
set_option linter.unusedSimpArgs false
theorem sgm_len (f : Rat → Bool) : ∀ R : List Rat, (sgm f R).length ≤ R.length
 | [] => by simp [sgm]
 | [x] => by simp [sgm]
 | x :: y :: r => by
  have ih := sgm_len f (y :: r)
  rw [sgm]
  split
  ·simp only [List.length_cons] at ih ⊢
   omega
  ·simp only [List.length_cons] at ih ⊢
   omega
theorem mrg_len (l : List Sq) : (mrg l).length ≤ l.length := by
 cases l with
 | nil => simp [mrg]
 | cons a r => exact jn_len r a
theorem joQ_len (how : Int) (A B : List Sq) : (joQ how A B).length ≤ 2 * (A.length + B.length) := by
 have h1 := mrg_len (sgm (fQ how A B) (endL (A ++ B)))
 have h2 := sgm_len (fQ how A B) (endL (A ++ B))
 have h3 := endR_len (endQ (A ++ B)) []
 rw [endQ_len, List.length_append] at h3
 simp only [List.length_nil] at h3
 have h4 : (endL (A ++ B)).length ≤ 0 + 2 * (A.length + B.length) := h3
 have h5 : (joQ how A B).length ≤ (sgm (fQ how A B) (endL (A ++ B))).length := h1
 omega
theorem comV_ok {how : Int} {a b : List Sn} (ha : allV a = true) (hb : allV b = true) : comV how a b = ((joQ how (a.map qS) (b.map qS)).map lS, 0) := if_pos ⟨ha, hb⟩
theorem comV_len {how : Int} {a b : List Sn} : (comV how a b).1.length ≤ 2 * (a.length + b.length) := by
 unfold comV
 split
 ·have := joQ_len how (a.map qS) (b.map qS)
  simp only [List.length_map] at this ⊢
  exact this
 ·simp
theorem totR_ok : ∀ {l : List Sn} {s t : Tm}, vT s = true → totR s l = (t, 0) → vT t = true ∧ qT t = qT s + tot (l.map qS)
 | [], s, t, hs, h => by
  rw [totR] at h
  cases h
  refine ⟨hs, ?_⟩
  show qT s = qT s + 0
  grind
 | x :: r, s, t, hs, h => by
  rw [totR] at h
  split at h
  ·rename_i h0
   split at h
   ·rename_i h1
    have k0 := tmT_v h0
    have k1 := tmT_v h1
    obtain ⟨h2, h3⟩ := totR_ok (by rw [k1.1]; exact k1.2) h
    refine ⟨h2, ?_⟩
    rw [h3, k1.1, qT_lT, k0.1, qT_lT]
    show qT s + (qT x.f1 - qT x.f0) + tot (r.map qS) = qT s + ((qT x.f1 - qT x.f0) + tot (r.map qS))
    grind
   ·rename_i h1
    exact absurd (congrArg Prod.snd h) h1
  ·rename_i h0
   exact absurd (congrArg Prod.snd h) h0
theorem totV_ok {l : List Sn} {t : Tm} (h : totV l = (t, 0)) : vT t = true ∧ qT t = tot (cnl (l.map qS)) := by
 unfold totV at h
 split at h
 ·obtain ⟨h1, h2⟩ := totR_ok (by decide) h
  refine ⟨h1, ?_⟩
  rw [h2, map_cln]
  show qq 0 1 + _ = _
  have : qq 0 1 = 0 := by decide
  rw [this]
  grind
 ·cases h
theorem tot_one {A : List Sq} {R : List Rat} (hu : Up R) (h : ∀ s ∈ A, s.1 ∈ R ∧ s.2 ∈ R) : tot (sgm (inB A) R) = tot (cnl A) := by
 have h1 := mrg_sgm (f := inB A) hu (steady_in A h) (fun q hq => by
  obtain ⟨s, hs, k1, k2⟩ := inB_iff.1 hq
  exact ⟨⟨_, (h s hs).1, k1⟩, ⟨_, (h s hs).2, k2⟩⟩)
 have h2 := cnl_of (l := A) h1.1 (fun q => (h1.2 q).trans inB_iff)
 rw [← h2, mrg_tot (sgm_ch _ _ hu)]
theorem tot_two (A B : List Sq) : tot (joQ 0 A B) + tot (joQ 1 A B) = tot (cnl A) + tot (cnl B) := by
 have hu := us_up (endR_us (endQ (A ++ B)) (R := []) trivial)
 have hm : ∀ y, y ∈ endL (A ++ B) ↔ ∃ s ∈ A ++ B, y = s.1 ∨ y = s.2 := fun y => by
  unfold endL
  rw [endR_mem, endQ_mem]
  simp
 have hA := tot_one hu (A := A) (fun s hs => ⟨(hm _).2 ⟨s, by simp [hs], .inl rfl⟩, (hm _).2 ⟨s, by simp [hs], .inr rfl⟩⟩)
 have hB := tot_one hu (A := B) (fun s hs => ⟨(hm _).2 ⟨s, by simp [hs], .inl rfl⟩, (hm _).2 ⟨s, by simp [hs], .inr rfl⟩⟩)
 have h0 : tot (joQ 0 A B) = tot (sgm (fQ 0 A B) (endL (A ++ B))) := mrg_tot (sgm_ch _ _ hu)
 have h1 : tot (joQ 1 A B) = tot (sgm (fQ 1 A B) (endL (A ++ B))) := mrg_tot (sgm_ch _ _ hu)
 rw [h0, h1, ← hA, ← hB]
 exact sgm_tot (inB A) (inB B) _
theorem totals {a b : List Sn} {tu tm ta tb : Tm} (ha : allV a = true) (hb : allV b = true) (h1 : totV (comV 0 a b).1 = (tu, 0)) (h2 : totV (comV 1 a b).1 = (tm, 0)) (h3 : totV a = (ta, 0)) (h4 : totV b = (tb, 0)) : addT tu tm = addT ta tb := by
 rw [comV_ok ha hb] at h1 h2
 obtain ⟨v1, e1⟩ := totV_ok h1
 obtain ⟨v2, e2⟩ := totV_ok h2
 obtain ⟨v3, e3⟩ := totV_ok h3
 obtain ⟨v4, e4⟩ := totV_ok h4
 simp only [map_lS] at e1 e2
 rw [← cnl_of (joQ_is 0 _ _).1 (fun q => Iff.rfl)] at e1
 rw [← cnl_of (joQ_is 1 _ _).1 (fun q => Iff.rfl)] at e2
 unfold addT
 rw [if_pos ⟨v1, v2⟩, if_pos ⟨v3, v4⟩, e1, e2, e3, e4, tot_two]
end Go.Proofs.YtekommcfpjonmaaGreat.Up
namespace Go.Proofs.YtekommcfpjonmaaGreat.Cs
open Go.RowKit Go Go.Proofs.YtekommcfpjonmaaGreatW.PrintWords Go.Proofs.YtekommcfpjonmaaGreatW.PrintLast Go.Proofs.YtekommcfpjonmaaGreatW.PrintMore Go.Proofs.YtekommcfpjonmaaGreat.Mn Go.Proofs.YtekommcfpjonmaaGreat.Nd Go.Proofs.YtekommcfpjonmaaGreat.Z Go.Proofs.YtekommcfpjonmaaGreat.E Go.Proofs.YtekommcfpjonmaaGreat.Sx
set_option linter.unusedVariables false
set_option linter.unusedSimpArgs false
def LP (w : World) (l : List Sn) (e : Ending) (w' : World) : Prop := ∃ v, e = .returned v ∧ Kd.R k53 53 w' w.heap.size (fun _ => True) v l ∧ Below w.heap.size w w'
set_option maxHeartbeats 4000000 in
set_option maxRecDepth 100000 in
theorem grow_n (n : Int) (w : World) (h0 : 0 ≤ n) (h1 : n ≤ 1000) :
  Calls Tryz.prog 101 #[.slice none 0 0, .int .i64 n] w (LP w []) := by
 have HN := Aside0.mk (And.intro h0 h1)
 have hn0 : decide (n < 0) = false := decide_eq_false (by omega)
 have hw0 : wrap64 (n - 0) = n := by rw [Int.sub_zero]; exact w64 (by omega) (by omega)
 by_cases hn : n > 0
 ·have hnb : decide (n > 0) = true := decide_eq_true hn
  go_enter Tryz.func101, Tryz.ntmps101
  go_wp2_with (first | ((with_reducible refine gate_builtin (b := .append) (xs := #[.tmp 20, .tmp 21]) rfl ?_); at_builtin; refine Kd.R_append_zeros k53 (w0 := w) w.heap.size rfl (.tmp 20) (.tmp 21) 22 3 53 (.agg #[(.int .i64 0), (.int .i64 0), (.int .i64 0), (.int .i64 0)]) 32 rfl Tryz.underlying22 Tryz.underlying3 info53 rfl (by decide) (by omega) (.slice none 0 0) [] z53 n (fun _ => True) rfl rfl (k53_mkM _ _ _ z53) (fun _ _ => trivial) (Kd.R_nil _ _ _ _ _) HN.out.1 (Below.refl _ _) (Nat.le_refl _) (by have := HN.out; simp only [List.length_nil]; omega) ?_; intro v1 w1 ho hb hg hat; obtain ⟨A1, c1, e1⟩ := Kd.R_slice ho; subst e1; have HO := Aside0.mk (And.intro ho hb); clear ho hb hg hat))
  go_ret
  refine ⟨_, rfl, ?_, HO.out.2⟩
  have := Kd.R_take (m := 0) HO.out.1 (Nat.zero_le _)
  simpa using this
 ·have hnb : decide (n > 0) = false := decide_eq_false hn
  go_enter Tryz.func101, Tryz.ntmps101
  go_wp2_with fail
  go_ret
  exact ⟨_, rfl, Kd.R_nil _ _ _ _ _, Below.refl _ _⟩
set_option maxHeartbeats 8000000 in
set_option maxRecDepth 100000 in
theorem concat_n (g : Nat) (A0 A1 : Option Addr) (c0 c1 : Nat) (l0 l1 : List Sn) (w : World) (hg : w.heap[g]? = some (.cells #[.slice A0 l0.length c0, .slice A1 l1.length c1] 22 (0, 0))) (h0 : Kd.C k53 w A0 l0.length l0) (h1 : Kd.C k53 w A1 l1.length l1) (hl0 : l0.length ≤ 400) (hl1 : l1.length ≤ 400) :
  Calls Tryz.prog 52 #[.slice (some ⟨g, 0, none⟩) 2 2] w (LP w (l0 ++ l1)) := by
 have HG := Aside0.mk (And.intro hg (And.intro h0 h1))
 have HL := Aside0.mk (And.intro hl0 hl1)
 have hwa : wrap64 (l0.length : Int) = l0.length := w64 (by omega) (by omega)
 have hwb : wrap64 ((l0.length : Int) + (l1.length : Int)) = (l0.length : Int) + l1.length := w64 (by omega) (by omega)
 have hna : decide (wrap64 (l0.length : Int) < 0) = false := decide_eq_false (by rw [hwa]; omega)
 have hnb : decide (wrap64 ((l0.length : Int) + (l1.length : Int)) < 0) = false := decide_eq_false (by rw [hwb]; omega)
 clear hg h0 h1 hl0 hl1
 go_enter Tryz.func52, Tryz.ntmps52
 go_wp2_with fail
 go_loopg [3, 11] 2 (fun kq v3 v11 w' => ∃ i s : Int, v3 = .int .i64 s ∧ v11 = .int .i64 i ∧ Aside0 (Below w.heap.size w w') ∧ Aside0 ((i = 0 ∧ s = 0 ∧ kq = 2) ∨ (i = 1 ∧ s = l0.length ∧ kq = 1) ∨ (i = 2 ∧ s = (l0.length : Int) + l1.length ∧ kq = 0)))
 case atStart => exact ⟨0, 0, rfl, rfl, ⟨Below.refl _ _⟩, ⟨.inl ⟨rfl, rfl, rfl⟩⟩⟩
 case round =>
  obtain ⟨i, s, rfl, rfl, HB, hi⟩ := hrel
  have hg1 := blk_below HG.out.1 HB.out
  rcases hi.out with ⟨rfl, rfl, rfl⟩ | ⟨rfl, rfl, rfl⟩ | ⟨rfl, rfl, rfl⟩
  ·have q0 : wr.cell? ⟨g, 0, none⟩ = some (.slice A0 l0.length c0) := (blk_cell hg1 0).trans rfl
   clear hg1 hi
   go_wp2_with fail
   go_roundg 1
   case measure => omega
   case rel => exact ⟨1, l0.length, by first | rfl | (rw [hwa]), by first | rfl | decide, ⟨HB.out⟩, ⟨.inr (.inl ⟨rfl, rfl, rfl⟩)⟩⟩
  ·have q0 : wr.cell? ⟨g, 1, none⟩ = some (.slice A1 l1.length c1) := (blk_cell hg1 1).trans rfl
   clear hg1 hi
   go_wp2_with fail
   go_roundg 0
   case measure => omega
   case rel => exact ⟨2, (l0.length : Int) + l1.length, by first | rfl | (rw [hwb]), by first | rfl | decide, ⟨HB.out⟩, ⟨.inr (.inr ⟨rfl, rfl, rfl⟩)⟩⟩
  ·clear hg1 hi
   go_wp2_with fail
   refine (grow_n ((l0.length : Int) + l1.length) wr (by omega) (by have := HL.out; omega)).mono ?_
   rintro e w2 ⟨v, rfl, hr2, hb2⟩
   have HB1 := Aside0.mk (HB.out.trans (hb2.mono HB.out.size))
   have HO1 := Aside0.mk (Kd.R_lower hr2 HB.out.size)
   clear hr2 hb2 HB
   go_wp2_with fail
   go_loopg [6, 27] 2 (fun kq v6 v27 w' => ∃ (i : Int) (x : List Sn), v27 = .int .i64 i ∧ Aside0 (Below w.heap.size w w') ∧ Aside0 (Kd.R k53 53 w' w.heap.size (fun _ => True) v6 x) ∧ Aside0 ((i = 0 ∧ x = [] ∧ kq = 2) ∨ (i = 1 ∧ x = l0 ∧ kq = 1) ∨ (i = 2 ∧ x = l0 ++ l1 ∧ kq = 0)))
   case atStart => exact ⟨0, [], rfl, ⟨HB1.out⟩, ⟨HO1.out⟩, ⟨.inl ⟨rfl, rfl, rfl⟩⟩⟩
   case round =>
    clear HB1 HO1
    obtain ⟨i, x, rfl, HB, HO, hi⟩ := hrel
    have hg1 := blk_below HG.out.1 HB.out
    rcases hi.out with ⟨rfl, rfl, rfl⟩ | ⟨rfl, rfl, rfl⟩ | ⟨rfl, rfl, rfl⟩
    ·have q0 : wr.cell? ⟨g, 0, none⟩ = some (.slice A0 l0.length c0) := (blk_cell hg1 0).trans rfl
     clear hg1 hi
     go_wp2_with (first | ((with_reducible refine gate_builtin (b := .append) (xs := #[.tmp 31, .tmp 32]) rfl ?_); at_builtin; refine Kd.R_append_rows k53 (w0 := w) w.heap.size rfl (.tmp 31) (.tmp 32) 22 53 (.agg #[(.int .i64 0), (.int .i64 0), (.int .i64 0), (.int .i64 0)]) 32 rfl Tryz.underlying22 info53 rfl (by decide) (by omega) u6 [] l0 _ _ _ (fun _ => True) (fun _ => False) rfl rfl HO.out (Kd.C_below HG.out.2.1 HB.out) (fun _ _ h => h) (fun _ h => h.elim) (fun _ _ => trivial) HB.out HB.out.size (by have := HL.out; (try simp only [List.length_nil]); omega) ?_; intro v6' w9 ho hb hg hat; have HO2 := Aside0.mk ho; have HB2 := Aside0.mk hb; clear ho hb hg hat))
     go_roundg 1
     case measure => omega
     case rel => exact ⟨1, l0, by first | rfl | decide, ⟨HB2.out⟩, ⟨HO2.out⟩, ⟨.inr (.inl ⟨rfl, rfl, rfl⟩)⟩⟩
    ·have q0 : wr.cell? ⟨g, 1, none⟩ = some (.slice A1 l1.length c1) := (blk_cell hg1 1).trans rfl
     clear hg1 hi
     go_wp2_with (first | ((with_reducible refine gate_builtin (b := .append) (xs := #[.tmp 31, .tmp 32]) rfl ?_); at_builtin; refine Kd.R_append_rows k53 (w0 := w) w.heap.size rfl (.tmp 31) (.tmp 32) 22 53 (.agg #[(.int .i64 0), (.int .i64 0), (.int .i64 0), (.int .i64 0)]) 32 rfl Tryz.underlying22 info53 rfl (by decide) (by omega) u6 x l1 _ _ _ (fun _ => True) (fun _ => False) rfl rfl HO.out (Kd.C_below HG.out.2.2 HB.out) (fun _ _ h => h) (fun _ h => h.elim) (fun _ _ => trivial) HB.out HB.out.size (by have := HL.out; (try simp only [List.length_nil]); omega) ?_; intro v6' w9 ho hb hg hat; have HO2 := Aside0.mk ho; have HB2 := Aside0.mk hb; clear ho hb hg hat))
     go_roundg 0
     case measure => omega
     case rel => exact ⟨2, x ++ l1, by first | rfl | decide, ⟨HB2.out⟩, ⟨HO2.out⟩, ⟨.inr (.inr ⟨rfl, rfl, rfl⟩)⟩⟩
    ·clear hg1 hi
     go_wp2_with fail
     go_ret
     exact ⟨_, rfl, HO.out, HB.out⟩
end Go.Proofs.YtekommcfpjonmaaGreat.Cs
namespace Go.Proofs.YtekommcfpjonmaaGreat.E
open Go.RowKit Go Go.Proofs.YtekommcfpjonmaaGreatW.PrintWords Go.Proofs.YtekommcfpjonmaaGreatW.PrintLast Go.Proofs.YtekommcfpjonmaaGreatW.PrintMore Go.Proofs.YtekommcfpjonmaaGreat.Mn Go.Proofs.YtekommcfpjonmaaGreat.Nd Go.Proofs.YtekommcfpjonmaaGreat.Z Go.Proofs.YtekommcfpjonmaaGreat.Rf Go.Proofs.YtekommcfpjonmaaGreat.Sg Go.Proofs.YtekommcfpjonmaaGreat.Sx Go.Proofs.YtekommcfpjonmaaGreat.Sy Go.Proofs.YtekommcfpjonmaaGreat.Xv Go.Proofs.YtekommcfpjonmaaGreat.Xn Go.Proofs.YtekommcfpjonmaaGreat.Xp Go.Proofs.YtekommcfpjonmaaGreat.Cs
set_option linter.unusedVariables false
set_option linter.unusedSimpArgs false
def unV (a b : List Sn) : List Sn × Int := if allV a = true ∧ allV b = true then (clnL (a ++ b), 0) else ([], 4)
theorem two_slices (w : World) (u v : Value) : (w.alloc (.cells #[u, v] 22 (0, 0))).heap[w.heap.size]? = some (.cells #[u, v] 22 (0, 0)) := blk_new w _
set_option maxHeartbeats 4000000 in
set_option maxRecDepth 100000 in
theorem union_n (A0 A1 : Option Addr) (c0 c1 : Nat) (a b : List Sn) (w : World) (ha : Kd.C k53 w A0 a.length a) (hb : Kd.C k53 w A1 b.length b) (la : a.length ≤ 400) (lb : b.length ≤ 400) :
  Calls Tryz.prog 20 #[.slice A0 a.length c0, .slice A1 b.length c1] w (fun e w' => ∃ v, e = .returned (.tuple #[v, .int .i64 (unV a b).2]) ∧ Js w w' v (unV a b).1) := by
 have HR := Aside0.mk (And.intro (And.intro ha la) (And.intro hb lb))
 have HV := Aside0.mk (show unV a b = if allV a = true ∧ allV b = true then (clnL (a ++ b), 0) else ([], 4) from rfl)
 generalize unV a b = V at *
 clear ha hb la lb
 go_enter Tryz.func20, Tryz.ntmps20
 go_wp2_with fail
 refine (validSpans_n A0 c0 a w HR.out.1.1 (by have := HR.out.1.2; omega)).mono ?_
 rintro e w3 ⟨rfl, hb3⟩
 have hB3 := Aside0.mk hb3
 clear hb3
 obtain ⟨x, hx⟩ : ∃ x : Bool, x = allV a := ⟨_, rfl⟩
 rw [← hx]
 cases x with
 | false =>
  have HV2 := Aside0.mk (show V = ([], 4) by rw [HV.out, ← hx, if_neg (fun h => by cases h.1)])
  clear hx HV
  go_wp2_with fail
  go_ret2
  exact ⟨_, by rw [HV2.out]; rfl, by rw [HV2.out]; exact Kd.R_nil _ _ _ _ _, hB3.out⟩
 | true =>
  have HA := Aside0.mk hx
  clear hx
  go_wp2_with fail
  refine (validSpans_n A1 c1 b w3 (Kd.C_below HR.out.2.1 hB3.out) (by have := HR.out.2.2; omega)).mono ?_
  rintro e w4 ⟨rfl, hb4⟩
  have hB4 := Aside0.mk (hB3.out.trans (hb4.mono hB3.out.size))
  clear hb4 hB3
  obtain ⟨x, hx⟩ : ∃ x : Bool, x = allV b := ⟨_, rfl⟩
  rw [← hx]
  cases x with
  | false =>
   have HV2 := Aside0.mk (show V = ([], 4) by rw [HV.out, ← hx, if_neg (fun h => by cases h.2)])
   clear hx HV
   go_wp2_with fail
   go_ret2
   exact ⟨_, by rw [HV2.out]; rfl, by rw [HV2.out]; exact Kd.R_nil _ _ _ _ _, hB4.out⟩
  | true =>
   have HV2 := Aside0.mk (show V = (clnL (a ++ b), 0) by rw [HV.out, if_pos ⟨HA.out.symm, hx.symm⟩])
   have HAV := Aside0.mk (show ∀ s ∈ a ++ b, vS s = true from fun s hs => by
    rcases List.mem_append.1 hs with h | h
    ·exact List.all_eq_true.1 HA.out.symm s h
    ·exact List.all_eq_true.1 hx.symm s h)
   clear hx HV HA
   have hX := Aside0.mk (And.intro (two_slices w4 (.slice A0 a.length c0) (.slice A1 b.length c1)) (show Below w4.heap.size w4 (w4.alloc (.cells #[.slice A0 a.length c0, .slice A1 b.length c1] 22 (0, 0))) from below_alloc (Below.refl _ w4) _))
   have HC := Aside0.mk (fun W g (h1 : W.heap[g]? = some (.cells #[.slice A0 a.length c0, .slice A1 b.length c1] 22 (0, 0))) (h2 : Below w4.heap.size w4 W) =>
    concat_n g A0 A1 c0 c1 a b W h1 (Kd.C_below (Kd.C_below HR.out.1.1 hB4.out) h2) (Kd.C_below (Kd.C_below HR.out.2.1 hB4.out) h2) HR.out.1.2 HR.out.2.2)
   go_wp2_with fail
   generalize World.alloc w4 _ = W5 at *
   refine (HC.out W5 w4.heap.size hX.out.1 hX.out.2).mono ?_
   rintro e w6 ⟨v6, rfl, hr6, hb6⟩
   have H6 := Aside0.mk (And.intro hr6 (hB4.out.trans ((hX.out.2.trans (hb6.mono hX.out.2.size)).mono hB4.out.size)))
   have HL := Aside0.mk (show (a ++ b).length ≤ 1000000 by have := HR.out; simp only [List.length_append]; omega)
   clear hr6 hb6 HC hX hB4
   generalize a ++ b = m at *
   obtain ⟨A6, c6, e6⟩ := Kd.R_slice H6.out.1
   subst e6
   go_wp2_with fail
   refine (clean_n A6 c6 m w6 (Kd.R_reads' H6.out.1).2.2 HL.out HAV.out).mono ?_
   rintro e w7 ⟨v7, rfl, hj⟩
   have HJ := Aside0.mk hj
   clear hj
   go_wp2_with fail
   go_ret2
   refine ⟨_, by rw [HV2.out]; rfl, ?_⟩
   rw [HV2.out]
   exact ⟨Kd.R_lower HJ.out.r H6.out.2.size, H6.out.2.trans (HJ.out.below.mono H6.out.2.size)⟩
def exact_Union.f (a b : List Sn) : Option (List Sn × Int) := if a.length ≤ 400 ∧ b.length ≤ 400 then some (unV a b) else none
theorem exact_Union.calls (A0 : Option Addr) (c0 : Nat) (l0 : List Sn) (A1 : Option Addr) (c1 : Nat) (l1 : List Sn) (r1 : List Sn) (r2 : Int) (w : World) (hr0 : Kd.C k53 w A0 l0.length l0) (hc0 : l0.length ≤ c0) (hr1 : Kd.C k53 w A1 l1.length l1) (hc1 : l1.length ≤ c1) (h : exact_Union.f l0 l1 = some (r1, r2)) :
  Calls Tryz.prog 20 #[.slice A0 l0.length c0, .slice A1 l1.length c1] w fun e w' => ∃ v, e = .returned (.tuple #[v, .int .i64 r2]) ∧ Kd.R k53 53 w' w.heap.size (fun _ => True) v r1 ∧ Below w.heap.size w w' := by
 unfold exact_Union.f at h
 by_cases hl : l0.length ≤ 400 ∧ l1.length ≤ 400
 ·rw [if_pos hl] at h
  have h1 := Option.some.inj h
  refine (union_n A0 A1 c0 c1 l0 l1 w hr0 hr1 hl.1 hl.2).mono ?_
  rw [h1]
  rintro e w' ⟨v, rfl, hj⟩
  exact ⟨v, rfl, hj.r, hj.below⟩
 ·rw [if_neg hl] at h
  cases h
end Go.Proofs.YtekommcfpjonmaaGreat.E
namespace Go.Proofs.YtekommcfpjonmaaGreat.Wa
open Go.RowKit Go Go.Proofs.YtekommcfpjonmaaGreatW.PrintWords Go.Proofs.YtekommcfpjonmaaGreatW.PrintLast Go.Proofs.YtekommcfpjonmaaGreatW.PrintMore Go.Proofs.YtekommcfpjonmaaGreat.Mn Go.Proofs.YtekommcfpjonmaaGreat.Nd Go.Proofs.YtekommcfpjonmaaGreat.Z Go.Proofs.YtekommcfpjonmaaGreat.Ea Go.Proofs.YtekommcfpjonmaaGreat.Rf Go.Proofs.YtekommcfpjonmaaGreat.E Go.Proofs.YtekommcfpjonmaaGreat.Sg Go.Proofs.YtekommcfpjonmaaGreat.Sx Go.Proofs.YtekommcfpjonmaaGreat.Sy Go.Proofs.YtekommcfpjonmaaGreat.Xv Go.Proofs.YtekommcfpjonmaaGreat.Xj
set_option linter.unusedVariables false
set_option linter.unusedSimpArgs false
structure Wk (S : Nat → Prop) (W : World) (g : Nat) (l : List Sn) : Prop where
 blk : ∃ P c, W.heap[g]? = some (.cells #[.slice P l.length c] 110 (0, 0)) ∧ l.length ≤ c ∧ ∀ W', Kept W W' S → Kd.C k53 W' P l.length l
theorem Wk.lt {S : Nat → Prop} {W : World} {g : Nat} {l : List Sn} (h : Wk S W g l) : g < W.heap.size := by
 obtain ⟨P, c, h1, _⟩ := h
 exact lt_of_some h1
theorem Wk.step {S : Nat → Prop} {W W2 : World} {g : Nat} {l : List Sn} (h : Wk S W g l) (hk : Kept W W2 S) (he : W2.heap[g]? = W.heap[g]?) : Wk S W2 g l := by
 obtain ⟨P, c, h1, h2, h3⟩ := h
 exact ⟨P, c, he.trans h1, h2, Kd.C_kept_step h3 hk⟩
theorem Wk.below {S : Nat → Prop} {W W2 : World} {g : Nat} {l : List Sn} (h : Wk S W g l) (hb : Below W.heap.size W W2) : Wk S W2 g l := h.step (Kept.of_below hb S) (hb.block g h.lt)
def dropT (q : Rat) : List Sn → List Sn
 | [] => []
 | s :: r => if qT s.f1 ≤ q then dropT q r else s :: r
def hdT (q : Rat) : List Sn → Bool
 | [] => false
 | s :: _ => decide (qT s.f0 ≤ q)
structure Wr (S : Nat → Prop) (w W : World) (g : Nat) (t : Tm) (l : List Sn) : Prop where
 k : Wk S W g l
 box : W.heap[w.heap.size]? = some (.cells #[.int .i64 t.f0, .int .i64 t.f1] 24 (0, 0))
 kept : Kept w W (fun k => k = g)
 below : ∀ B, B ≤ g → Below B w W
theorem Wr.step {S : Nat → Prop} {w W W2 : World} {g : Nat} {t : Tm} {l : List Sn} (h : Wr S w W g t l) (hb : Below W.heap.size W W2) : Wr S w W2 g t l :=
 ⟨h.k.below hb, blk_below h.box hb, h.kept.below hb, fun B hB => (h.below B hB).trans (hb.mono (by have := h.k.lt; omega))⟩
theorem Wr.start {S : Nat → Prop} {w : World} {g : Nat} {l : List Sn} (t : Tm) (h : Wk S w g l) : Wr S w (w.alloc (.cells #[.int .i64 t.f0, .int .i64 t.f1] 24 (0, 0))) g t l := by
 have hb := below_alloc (Below.refl w.heap.size w) (.cells #[.int .i64 t.f0, .int .i64 t.f1] 24 (0, 0))
 exact ⟨h.below hb, blk_new w _, Kept.of_below hb _, fun B hB => hb.mono (by have := h.lt; omega)⟩
theorem Wr.cut {S : Nat → Prop} {w W : World} {g : Nat} {t : Tm} {s : Sn} {r : List Sn} {P : Option Addr} {c : Nat} (hS : S g) (h : Wr S w W g t (s :: r)) (h1 : W.heap[g]? = some (.cells #[.slice P (r.length + 1) c] 110 (0, 0))) (h2 : (s :: r).length ≤ c) (h3 : ∀ W', Kept W W' S → Kd.C k53 W' P (s :: r).length (s :: r)) (hlt : g < w.heap.size) :
  Wr S w (W.setCell ⟨g, 0, none⟩ (.slice (if c = 1 then P else P.map (·.add 4)) r.length (c - 1))) g t r := by
 have hk : Kept W (W.setCell ⟨g, 0, none⟩ (.slice (if c = 1 then P else P.map (·.add 4)) r.length (c - 1))) (fun k => k = g) := (Kept.refl W (fun k => k = g)).setCell (p := ⟨g, 0, none⟩) (.inl rfl) _
 have hkS : Kept W (W.setCell ⟨g, 0, none⟩ (.slice (if c = 1 then P else P.map (·.add 4)) r.length (c - 1))) S := (Kept.refl W S).setCell (p := ⟨g, 0, none⟩) (.inl hS) _
 refine ⟨⟨_, _, blk_put h1 0 _ rfl, by simp only [List.length_cons] at h2; omega, fun W' hk' => ?_⟩, ?_, ?_, fun B hB => (h.below B hB).setCell hB _⟩
 ·have hC := Kd.C_drop (m := 1) (h3 W' (hkS.then_ hk' (fun _ hx => .inl hx))) (by simp) h2
  exact hC
 ·rw [Below.heap_setCell _ _ _ _ (by simp only; omega)]
  exact h.box
 ·exact h.kept.then_ hk (fun k hk => .inl hk)
theorem head_at {W : World} {ad : Addr} {s : Sn} {r : List Sn} (h : Kd.C k53 W (some ad) (s :: r).length (s :: r)) :
  W.cell? ad = some (.int .i64 s.f0.f0) ∧ W.cell? ⟨ad.block, ad.off + 1, none⟩ = some (.int .i64 s.f0.f1) ∧ W.cell? ⟨ad.block, ad.off + 2, none⟩ = some (.int .i64 s.f1.f0) ∧ W.cell? ⟨ad.block, ad.off + 3, none⟩ = some (.int .i64 s.f1.f1) := by
 obtain ⟨ad1, e1, a0, a1, a2, a3⟩ := at_T53 h 0 (by omega) (by simp)
 cases e1
 exact ⟨a0, a1, a2, a3⟩
theorem box_at {W : World} {g : Nat} {t : Tm} (h : W.heap[g]? = some (.cells #[.int .i64 t.f0, .int .i64 t.f1] 24 (0, 0))) : W.cell? ⟨g, 0, none⟩ = some (.int .i64 t.f0) ∧ W.cell? ⟨g, 1, none⟩ = some (.int .i64 t.f1) :=
 ⟨(blk_cell h 0).trans rfl, (blk_cell h 1).trans rfl⟩
theorem cmp_le {a b : Tm} (ha : vT a = true) (hb : vT b = true) : ∃ c : Int, decide (c ≤ 0) = decide (qT a ≤ qT b) ∧ ∀ W, Calls Tryz.prog 50 #[.agg #[.int .i64 a.f0, .int .i64 a.f1], .agg #[.int .i64 b.f0, .int .i64 b.f1]] W (ValP W (.int .i64 c)) := by
 refine ⟨cmpQ (qT a) (qT b), ?_, fun W => cmpT_n ha hb W⟩
 by_cases h : qT b < qT a
 ·rw [cq_gt h, decide_eq_false (Rat.not_le.2 h)]
  rfl
 ·obtain ⟨c, hc0, ec⟩ := cq_le h
  rw [ec, decide_eq_true (Rat.not_lt.1 h), decide_eq_true hc0]
set_option maxHeartbeats 4000000 in
set_option maxRecDepth 100000 in
theorem at_n (S : Nat → Prop) (g : Nat) (l : List Sn) (t : Tm) (w : World) (hS : S g) (h : Wk S w g l) (hv : ∀ s ∈ l, vS s = true) (ht : vT t = true) :
  Calls Tryz.prog 103 #[.pointer (some ⟨g, 0, none⟩), .agg #[.int .i64 t.f0, .int .i64 t.f1]] w
   (fun e w' => e = .returned (.bool (hdT (qT t) (dropT (qT t) l))) ∧ Wk S w' g (dropT (qT t) l) ∧ Kept w w' (fun k => k = g) ∧ ∀ B, B ≤ g → Below B w w') := by
 have hu := Tryz.underlying53
 have hu2 := Tryz.underlying24
 have hu3 := Tryz.underlying110
 have HS := Aside0.mk (And.intro (And.intro hS h.lt) (And.intro hv ht))
 have hB := Aside0.mk (Wr.start t h)
 obtain ⟨D, hD⟩ : ∃ D, D = dropT (qT t) l := ⟨_, rfl⟩
 rw [← hD]
 have HD := Aside0.mk hD
 clear hS h hv ht hD
 go_enter Tryz.func103, Tryz.ntmps103
 go_wp2_with fail
 generalize World.alloc w _ = W at *
 go_loopg [] l.length (fun kq w' => ∃ r : List Sn, kq = r.length ∧ Aside0 (D = dropT (qT t) r) ∧ Aside0 (Wr S w w' g t r) ∧ Aside0 (∀ s ∈ r, vS s = true))
 case atStart => exact ⟨l, rfl, HD, ⟨hB.out⟩, ⟨HS.out.2.1⟩⟩
 case round =>
  clear hB HD
  obtain ⟨r, hkq, HD, HW, HV⟩ := hrel
  obtain ⟨P, c, b1, b2, b3⟩ := HW.out.k.blk
  cases r with
  | nil =>
   have hb0 : Below wr.heap.size wr wr.drew := below_drew' (Below.refl _ _)
   have HB1 := Aside0.mk (show wr.heap[g]? = some (.cells #[.slice P 0 c] 110 (0, 0)) from b1)
   clear b1 b2 b3
   go_upto_region 1 with fail
   refine start_ (n := 18) (S := fun w' => w'.cell? ⟨g, 0, none⟩ = some (.slice P 0 c)) (ds := []) (bs 18 0) (by kernel_rfl) rfl rfl ((blk_cell (blk_below HB1.out hb0) 0).trans rfl) (fun hHeld => ?_)
   refine zP 0 5 18 1 ?_
   refine zP 1 6 18 3 ?_
   refine zP 2 7 18 7 ?_
   refine zT 3 8 18 15 hHeld ?_
   refine zP 4 9 18 31 ?_
   refine zP 5 10 18 63 ?_
   refine zP 6 11 18 127 ?_
   refine zO 7 12 18 255 ?_
   refine zO 8 13 18 511 ?_
   refine zO 9 14 18 1023 ?_
   refine zO 10 15 18 2047 ?_
   refine zO 11 16 18 4095 ?_
   refine zO 12 17 18 8191 ?_
   refine zO 13 18 18 16383 ?_
   refine zO 14 19 18 32767 ?_
   refine zO 15 20 18 65535 ?_
   refine zO 16 21 18 131071 ?_
   refine zP 17 22 18 262143 ?_
   refine done_ (by kernel_rfl) ?_
   clear hHeld hb0
   have HW1 := Aside0.mk (HW.out.step (below_drew' (Below.refl _ _)))
   have HB2 := Aside0.mk (show wr.drew.heap[g]? = some (.cells #[.slice P 0 c] 110 (0, 0)) from blk_below HB1.out (below_drew' (Below.refl _ _)))
   have hb0 : Below wr.drew.heap.size wr.drew wr.drew.drew := below_drew' (Below.refl _ _)
   clear HB1 HW
   go_upto_region 3 with fail
   refine start_ (n := 19) (S := fun w' => w'.cell? ⟨g, 0, none⟩ = some (.slice P 0 c)) (ds := []) (bs 19 0) (by kernel_rfl) rfl rfl ((blk_cell (blk_below HB2.out hb0) 0).trans rfl) (fun hHeld => ?_)
   refine zP 0 31 19 1 ?_
   refine zP 1 32 19 3 ?_
   refine zP 2 33 19 7 ?_
   refine zT 3 34 19 15 hHeld ?_
   refine zP 4 35 19 31 ?_
   refine zP 5 36 19 63 ?_
   refine zP 6 37 19 127 ?_
   refine zO 7 38 19 255 ?_
   refine zO 8 39 19 511 ?_
   refine zO 9 40 19 1023 ?_
   refine zO 10 41 19 2047 ?_
   refine zO 11 42 19 4095 ?_
   refine zO 12 43 19 8191 ?_
   refine zO 13 44 19 16383 ?_
   refine zO 14 45 19 32767 ?_
   refine zO 15 46 19 65535 ?_
   refine zO 16 47 19 131071 ?_
   refine zP 17 48 19 262143 ?_
   refine zP 18 4 19 524287 ?_
   refine done_ (by kernel_rfl) ?_
   clear hHeld hb0
   have HW2 := Aside0.mk (HW1.out.step (below_drew' (Below.refl _ _)))
   clear HW1
   go_wp2_with fail
   go_ret
   rw [HD.out]
   exact ⟨rfl, HW2.out.k, HW2.out.kept, HW2.out.below⟩
  | cons s r =>
   have hb0 : Below wr.heap.size wr wr.drew := below_drew' (Below.refl _ _)
   have HVs := Aside0.mk (vS_is (HV.out s (by simp)))
   have HVr := Aside0.mk (show ∀ x ∈ r, vS x = true from fun x hx => HV.out x (by simp [hx]))
   obtain ⟨k1, rfl⟩ : ∃ k, gk = k + 1 := ⟨gk - 1, by rw [hkq, List.length_cons]; omega⟩
   have hk1 : k1 = r.length := by rw [List.length_cons] at hkq; omega
   have HK := Aside0.mk hk1
   obtain ⟨ad, hA⟩ : ∃ ad, P = some ad := by
    obtain ⟨ad, hA, _⟩ := at_T53 (b3 wr (Kept.refl _ _)) 0 (by omega) (by simp)
    exact ⟨ad, hA⟩
   subst hA
   have HQ := Aside0.mk (fun W (hk : Kept wr W S) => head_at (b3 W hk))
   have HBc := Aside0.mk (And.intro b1 (And.intro b2 b3))
   have hn1 : ((r.length : Int) + 1 > 0) = True := eq_true (by omega)
   have hn2 : (0 < r.length + 1) = True := eq_true (by omega)
   clear hkq hk1 b1 b2 b3 HV
   by_cases hq : qT s.f1 ≤ qT t
   ·obtain ⟨cc, hcc, hcn⟩ := cmp_le HVs.out.2.1 HS.out.2.2
    rw [decide_eq_true hq] at hcc
    have HCM := Aside0.mk hcn
    have HD2 := Aside0.mk (show D = dropT (qT t) r by rw [HD.out, dropT, if_pos hq])
    clear hq hcn HD
    go_upto_region 1 with fail
    refine start_ (n := 18) (S := fun w' => w'.cell? ⟨g, 0, none⟩ = some (.slice (some ad) (r.length + 1) c) ∧ w'.cell? ⟨ad.block, ad.off + 2, none⟩ = some (.int .i64 s.f1.f0) ∧ w'.cell? ⟨ad.block, ad.off + 3, none⟩ = some (.int .i64 s.f1.f1) ∧ w'.cell? ⟨w.heap.size, 0, none⟩ = some (.int .i64 t.f0) ∧ w'.cell? ⟨w.heap.size, 1, none⟩ = some (.int .i64 t.f1)) (ds := []) (bs 18 0) (by kernel_rfl) rfl rfl ⟨((blk_cell (blk_below HBc.out.1 hb0) 0).trans rfl), (HQ.out _ (Kept.of_below hb0 S)).2.2.1, (HQ.out _ (Kept.of_below hb0 S)).2.2.2, (box_at (HW.out.step hb0).box).1, (box_at (HW.out.step hb0).box).2⟩ (fun hHeld => ?_)
    refine zP 0 5 18 1 ?_
    refine zP 1 6 18 3 ?_
    refine zP 2 7 18 7 ?_
    refine zT 3 8 18 15 hHeld ?_
    refine zP 4 9 18 31 ?_
    refine zP 5 10 18 63 ?_
    refine zP 6 11 18 127 ?_
    refine zP 7 12 18 255 ?_
    refine zP 8 13 18 511 ?_
    refine zP 9 14 18 1023 ?_
    refine zT 10 15 18 2047 hHeld ?_
    refine zP 11 16 18 4095 ?_
    refine zP 12 17 18 8191 ?_
    refine zT 13 18 18 16383 hHeld ?_
    refine zT 14 19 18 32767 hHeld ?_
    refine zN 15 (some 20) 18 65535 (fun K hK => ?_)
    refine zG Tryz.func50 #[.agg #[.int .i64 s.f1.f0, .int .i64 s.f1.f1], .agg #[.int .i64 t.f0, .int .i64 t.f1]] ?_
    with_reducible refine (HCM.out wr.drew).mono ?_
    rintro e w5 ⟨rfl, hb5⟩
    refine ⟨_, rfl, ?_⟩
    have hb5' := below_drew' hb5
    have H5 := Aside0.mk (And.intro (HW.out.step hb5') (And.intro (blk_below HBc.out.1 hb5') (Kept.of_below hb5' S)))
    clear hb5 hb5'
    refine hK.out _ _ ⟨((blk_cell H5.out.2.1 0).trans rfl), (HQ.out _ H5.out.2.2).2.2.1, (HQ.out _ H5.out.2.2).2.2.2, (box_at H5.out.1.box).1, (box_at H5.out.1.box).2⟩ (fun hHeld => ?_)
    clear hK K
    refine zM 20 ?_
    refine zP 16 21 18 131071 ?_
    refine zP 17 22 18 262143 ?_
    refine done_ (by kernel_rfl) ?_
    clear hHeld hb0 HW HCM
    have x0 : w5.cell? ⟨g, 0, none⟩ = some (.slice (some ad) (r.length + 1) c) := (blk_cell H5.out.2.1 0).trans rfl
    have HC := Aside0.mk (Wr.cut HS.out.1.1 H5.out.1 H5.out.2.1 HBc.out.2.1 (Kd.C_kept_step HBc.out.2.2 H5.out.2.2) HS.out.1.2)
    have xf : w5.frozen? ⟨g, 0, none⟩ = false := blk_frozen H5.out.2.1 0
    by_cases hc1 : c = 1
    ·have HC2 := Aside0.mk (show Wr S w (w5.setCell ⟨g, 0, none⟩ (.slice (some ad) r.length 0)) g t r by
      have := HC.out
      rw [if_pos hc1, show c - 1 = 0 by omega] at this
      exact this)
     clear HC H5
     go_wp2_with fail
     go_roundg k1
     case measure => omega
     case rel => exact ⟨r, HK.out, HD2, HC2, HVr⟩
    ·have HC2 := Aside0.mk (show Wr S w (w5.setCell ⟨g, 0, none⟩ (.slice (some ⟨ad.block, ad.off + 4, none⟩) r.length (c - 1))) g t r by
      have := HC.out
      rwa [if_neg hc1] at this)
     clear HC H5
     go_wp2_with fail
     go_roundg k1
     case measure => omega
     case rel => exact ⟨r, HK.out, HD2, HC2, HVr⟩
   ·obtain ⟨cc, hcc, hcn⟩ := cmp_le HVs.out.2.1 HS.out.2.2
    rw [decide_eq_false hq] at hcc
    have HCM := Aside0.mk hcn
    have HD2 := Aside0.mk (show D = s :: r by rw [HD.out, dropT, if_neg hq])
    clear hq hcn HD
    go_upto_region 1 with fail
    refine start_ (n := 18) (S := fun w' => w'.cell? ⟨g, 0, none⟩ = some (.slice (some ad) (r.length + 1) c) ∧ w'.cell? ⟨ad.block, ad.off + 2, none⟩ = some (.int .i64 s.f1.f0) ∧ w'.cell? ⟨ad.block, ad.off + 3, none⟩ = some (.int .i64 s.f1.f1) ∧ w'.cell? ⟨w.heap.size, 0, none⟩ = some (.int .i64 t.f0) ∧ w'.cell? ⟨w.heap.size, 1, none⟩ = some (.int .i64 t.f1)) (ds := []) (bs 18 0) (by kernel_rfl) rfl rfl ⟨((blk_cell (blk_below HBc.out.1 hb0) 0).trans rfl), (HQ.out _ (Kept.of_below hb0 S)).2.2.1, (HQ.out _ (Kept.of_below hb0 S)).2.2.2, (box_at (HW.out.step hb0).box).1, (box_at (HW.out.step hb0).box).2⟩ (fun hHeld => ?_)
    refine zP 0 5 18 1 ?_
    refine zP 1 6 18 3 ?_
    refine zP 2 7 18 7 ?_
    refine zT 3 8 18 15 hHeld ?_
    refine zP 4 9 18 31 ?_
    refine zP 5 10 18 63 ?_
    refine zP 6 11 18 127 ?_
    refine zP 7 12 18 255 ?_
    refine zP 8 13 18 511 ?_
    refine zP 9 14 18 1023 ?_
    refine zT 10 15 18 2047 hHeld ?_
    refine zP 11 16 18 4095 ?_
    refine zP 12 17 18 8191 ?_
    refine zT 13 18 18 16383 hHeld ?_
    refine zT 14 19 18 32767 hHeld ?_
    refine zN 15 (some 20) 18 65535 (fun K hK => ?_)
    refine zG Tryz.func50 #[.agg #[.int .i64 s.f1.f0, .int .i64 s.f1.f1], .agg #[.int .i64 t.f0, .int .i64 t.f1]] ?_
    with_reducible refine (HCM.out wr.drew).mono ?_
    rintro e w5 ⟨rfl, hb5⟩
    refine ⟨_, rfl, ?_⟩
    have hb5' := below_drew' hb5
    have H5 := Aside0.mk (And.intro (HW.out.step hb5') (And.intro (blk_below HBc.out.1 hb5') (Kept.of_below hb5' S)))
    clear hb5 hb5'
    refine hK.out _ _ ⟨((blk_cell H5.out.2.1 0).trans rfl), (HQ.out _ H5.out.2.2).2.2.1, (HQ.out _ H5.out.2.2).2.2.2, (box_at H5.out.1.box).1, (box_at H5.out.1.box).2⟩ (fun hHeld => ?_)
    clear hK K
    refine zM 20 ?_
    refine zP 16 21 18 131071 ?_
    refine zP 17 22 18 262143 ?_
    refine done_ (by kernel_rfl) ?_
    clear hHeld hb0 HW HCM
    have HW2 := Aside0.mk H5.out.1
    have HBd := Aside0.mk H5.out.2.1
    have HQ2 := Aside0.mk (fun W (hk : Kept w5 W S) => HQ.out W (H5.out.2.2.then_ hk (fun _ hx => .inl hx)))
    clear H5 HQ HBc hcc
    obtain ⟨c3, hc3, hcn⟩ := cmp_le HVs.out.1 HS.out.2.2
    have HCM2 := Aside0.mk hcn
    have hb0 : Below w5.heap.size w5 w5.drew := below_drew' (Below.refl _ _)
    have HE := Aside0.mk (show hdT (qT t) D = decide (c3 ≤ 0) by rw [HD2.out, hdT, hc3])
    clear hcn hc3
    go_upto_region 3 with fail
    refine start_ (n := 19) (S := fun w' => w'.cell? ⟨g, 0, none⟩ = some (.slice (some ad) (r.length + 1) c) ∧ w'.cell? ad = some (.int .i64 s.f0.f0) ∧ w'.cell? ⟨ad.block, ad.off + 1, none⟩ = some (.int .i64 s.f0.f1) ∧ w'.cell? ⟨w.heap.size, 0, none⟩ = some (.int .i64 t.f0) ∧ w'.cell? ⟨w.heap.size, 1, none⟩ = some (.int .i64 t.f1)) (ds := []) (bs 19 0) (by kernel_rfl) rfl rfl ⟨((blk_cell (blk_below HBd.out hb0) 0).trans rfl), (HQ2.out _ (Kept.of_below hb0 S)).1, (HQ2.out _ (Kept.of_below hb0 S)).2.1, (box_at (HW2.out.step hb0).box).1, (box_at (HW2.out.step hb0).box).2⟩ (fun hHeld => ?_)
    refine zP 0 31 19 1 ?_
    refine zP 1 32 19 3 ?_
    refine zP 2 33 19 7 ?_
    refine zT 3 34 19 15 hHeld ?_
    refine zP 4 35 19 31 ?_
    refine zP 5 36 19 63 ?_
    refine zP 6 37 19 127 ?_
    refine zP 7 38 19 255 ?_
    refine zP 8 39 19 511 ?_
    refine zP 9 40 19 1023 ?_
    refine zT 10 41 19 2047 hHeld ?_
    refine zP 11 42 19 4095 ?_
    refine zP 12 43 19 8191 ?_
    refine zT 13 44 19 16383 hHeld ?_
    refine zT 14 45 19 32767 hHeld ?_
    refine zN 15 (some 46) 19 65535 (fun K hK => ?_)
    refine zG Tryz.func50 #[.agg #[.int .i64 s.f0.f0, .int .i64 s.f0.f1], .agg #[.int .i64 t.f0, .int .i64 t.f1]] ?_
    with_reducible refine (HCM2.out w5.drew).mono ?_
    rintro e w6 ⟨rfl, hb6⟩
    refine ⟨_, rfl, ?_⟩
    have hb6' := below_drew' hb6
    have H6 := Aside0.mk (And.intro (HW2.out.step hb6') (And.intro (blk_below HBd.out hb6') (Kept.of_below hb6' S)))
    clear hb6 hb6'
    refine hK.out _ _ ⟨((blk_cell H6.out.2.1 0).trans rfl), (HQ2.out _ H6.out.2.2).1, (HQ2.out _ H6.out.2.2).2.1, (box_at H6.out.1.box).1, (box_at H6.out.1.box).2⟩ (fun hHeld => ?_)
    clear hK K
    refine zM 46 ?_
    refine zP 16 47 19 131071 ?_
    refine zP 17 48 19 262143 ?_
    refine zP 18 4 19 524287 ?_
    refine done_ (by kernel_rfl) ?_
    clear hHeld hb0 HW2 HCM2
    go_wp2_with fail
    go_ret
    refine ⟨by rw [HE.out]; rfl, ?_⟩
    rw [HD2.out]
    exact ⟨H6.out.1.k, H6.out.1.kept, H6.out.1.below⟩
end Go.Proofs.YtekommcfpjonmaaGreat.Wa
namespace Go.Proofs.YtekommcfpjonmaaGreat.Yk
open Go.RowKit Go Go.Proofs.YtekommcfpjonmaaGreatW.PrintWords Go.Proofs.YtekommcfpjonmaaGreatW.PrintLast Go.Proofs.YtekommcfpjonmaaGreatW.PrintMore Go.Proofs.YtekommcfpjonmaaGreat.Mn Go.Proofs.YtekommcfpjonmaaGreat.Nd Go.Proofs.YtekommcfpjonmaaGreat.Z Go.Proofs.YtekommcfpjonmaaGreat.Rf Go.Proofs.YtekommcfpjonmaaGreat.E Go.Proofs.YtekommcfpjonmaaGreat.Sg Go.Proofs.YtekommcfpjonmaaGreat.Sx Go.Proofs.YtekommcfpjonmaaGreat.Sy Go.Proofs.YtekommcfpjonmaaGreat.Xv Go.Proofs.YtekommcfpjonmaaGreat.Xj Go.Proofs.YtekommcfpjonmaaGreat.Xk
set_option linter.unusedVariables false
set_option linter.unusedSimpArgs false
def encT (x : Tm) : List Value := [.int .i64 x.f0, .int .i64 x.f1]
def encM : List Tm → List Value
 | [] => []
 | x :: t => encT x ++ encM t
theorem encM_len : ∀ l : List Tm, (encM l).length = l.length * 2
 | [] => rfl
 | x :: t => by
  simp only [encM, List.length_append, encM_len t, List.length_cons]
  show 2 + t.length * 2 = (t.length + 1) * 2
  omega
theorem encM_at : ∀ (l : List Tm) (i j : Nat) (p : Tm), l[i]? = some p → j < 2 → (encM l)[i * 2 + j]? = (encT p)[j]?
 | x :: t, 0, j, p, h, hj => by
  obtain rfl : x = p := by simpa using h
  simp only [encM]
  rw [Nat.zero_mul, Nat.zero_add, List.getElem?_append_left (show j < 2 from hj)]
 | x :: t, i + 1, j, p, h, hj => by
  simp only [encM]
  rw [List.getElem?_append_right (show 2 ≤ (i + 1) * 2 + j by omega)]
  have e : (i + 1) * 2 + j - (encT x).length = i * 2 + j := by show (i + 1) * 2 + j - 2 = i * 2 + j; omega
  rw [e]
  exact encM_at t i j p (by simpa using h) hj
theorem encM_reps {W : World} {base : Nat} {ok : Nat → Prop} : ∀ l : List Tm, Reps (fun (x : Tm) cs => Kd.M k24 W base ok x cs) 2 l (encM l)
 | [] => Reps.none _ _
 | x :: t => Reps.c2 (k24_mkM W base ok x) (encM_reps t)
theorem repsT_enc {W : World} {base : Nat} {ok : Nat → Prop} : ∀ (l : List Tm) (cs : List Value), Reps (fun (x : Tm) cs => Kd.M k24 W base ok x cs) 2 l cs → cs = encM l
 | [], cs, h => by
  have := h.1
  exact List.eq_nil_of_length_eq_zero (by simpa using this)
 | x :: t, cs, h => by
  have h0 := k24_openM (h.2 0 x rfl)
  rw [Nat.zero_mul, List.drop_zero] at h0
  have ht : Reps (fun (x : Tm) cs => Kd.M k24 W base ok x cs) 2 t (cs.drop 2) := by
   refine ⟨?_, fun j p hj => ?_⟩
   ·have := h.1
    rw [List.length_drop, this, List.length_cons]
    omega
   ·have := h.2 (j + 1) p (by simpa using hj)
    rwa [show (j + 1) * 2 = 2 + j * 2 by omega, ← List.drop_drop] at this
  have ih := repsT_enc t _ ht
  rw [encM, ← ih]
  conv => lhs; rw [← List.take_append_drop 2 cs, h0]
  rfl
def Blt (W : World) (g : Nat) (X : List Tm) (cap : Nat) : Prop := ∃ rest : List Value, W.heap[g]? = some (.cells (encM X ++ rest).toArray 24 (0, 0)) ∧ (encM X ++ rest).length = cap * 2 ∧ X.length ≤ cap ∧ cap ≤ maxLen
theorem R_blt {W : World} {base : Nat} {ok : Nat → Prop} {v : Value} {X : List Tm} (h : Kd.R k24 24 W base ok v X) : (v = .slice none 0 0 ∧ X = []) ∨ ∃ g cap, v = .slice (some ⟨g, 0, none⟩) X.length cap ∧ base ≤ g ∧ Blt W g X cap := by
 obtain ⟨h0, inner, ⟨hl, ho⟩, hr⟩ := h
 have he := repsT_enc X inner hr
 subst he
 rcases ho with ⟨rfl, hn⟩ | ⟨g, cap, cur, rfl, hb, hh, hc, hm, hs, ht⟩
 ·exact .inl ⟨rfl, List.eq_nil_of_length_eq_zero hn⟩
 ·refine .inr ⟨g, cap, rfl, hb, cur.toList.drop (X.length * 2), ?_, ?_, hc, hm⟩
  ·have ht' : cur.toList.take (X.length * 2) = encM X := ht
   rw [← ht', List.take_append_drop]
   exact hh
  ·have ht' : cur.toList.take (X.length * 2) = encM X := ht
   rw [← ht', List.take_append_drop]
   exact hs
theorem blt_R {W : World} {base : Nat} {g cap : Nat} {X : List Tm} (h : Blt W g X cap) (hb : base ≤ g) : Kd.R k24 24 W base (fun _ => True) (.slice (some ⟨g, 0, none⟩) X.length cap) X := by
 obtain ⟨rest, h1, h2, h3, h4⟩ := h
 refine ⟨fun _ _ => trivial, encM X, ⟨by rw [encM_len]; rfl, .inr ⟨g, cap, _, rfl, hb, h1, h3, h4, ?_, ?_⟩⟩, encM_reps X⟩
 ·show (encM X ++ rest).toArray.size = cap * 2
  simpa using h2
 ·show (encM X ++ rest).take (X.length * 2) = encM X
  rw [← encM_len, List.take_left]
theorem Blt.cells {W : World} {g cap : Nat} {X : List Tm} (h : Blt W g X cap) {i : Nat} {p : Tm} (hi : X[i]? = some p) : W.cell? ⟨g, i * 2, none⟩ = some (.int .i64 p.f0) ∧ W.cell? ⟨g, i * 2 + 1, none⟩ = some (.int .i64 p.f1) ∧ ∀ j, W.frozen? ⟨g, j, none⟩ = false := by
 obtain ⟨rest, h1, h2, h3, h4⟩ := h
 have hl : i < X.length := (List.getElem?_eq_some_iff.1 hi).1
 have key : ∀ j, j < 2 → W.cell? ⟨g, i * 2 + j, none⟩ = (encT p)[j]? := fun j hj => by
  rw [blk_cell h1, List.getElem?_toArray, List.getElem?_append_left (by rw [encM_len]; omega), encM_at X i j p hi hj]
 exact ⟨(key 0 (by decide)).trans rfl, (key 1 (by decide)).trans rfl, fun j => blk_frozen h1 j⟩
theorem Blt.below {W W2 : World} {g cap : Nat} {X : List Tm} (h : Blt W g X cap) (hb : Below W.heap.size W W2) : Blt W2 g X cap := by
 obtain ⟨rest, h1, h2⟩ := h
 exact ⟨rest, blk_below h1 hb, h2⟩
theorem Blt.lt {W : World} {g cap : Nat} {X : List Tm} (h : Blt W g X cap) : g < W.heap.size := by
 obtain ⟨rest, h1, h2⟩ := h
 exact lt_of_some h1
open Go.Sort in
theorem Blt.holds {W : World} {g cap : Nat} {X : List Tm} (h : Blt W g X cap) [Inhabited Tm] : HoldsK encT 2 W g 0 X.toArray := by
 intro t ht
 rw [size_flatK] at ht
 have ht' : t < X.length * 2 := by simpa using ht
 have hi : t / 2 < X.length := by omega
 obtain ⟨q0, q1, hf⟩ := h.cells (i := t / 2) (List.getElem?_eq_getElem hi)
 rw [get_flatK encT 2 X.toArray t ht, Nat.zero_add]
 have hx : (X.toArray[t / 2]! : Tm) = X[t / 2] := by
  rw [getElem!_pos X.toArray (t / 2) (by simpa using hi)]
  rfl
 refine ⟨?_, hf t⟩
 rw [hx]
 have h4 : t % 2 < 2 := Nat.mod_lt _ (by decide)
 have e : t = t / 2 * 2 + t % 2 := (Nat.div_add_mod' t 2).symm
 generalize t % 2 = j at *
 generalize t / 2 = i at *
 subst e
 match j, h4 with
 | 0, _ => exact q0
 | 1, _ => exact q1
open Go.Sort in
theorem sorted_blt {W : World} {g cap : Nat} {X : List Tm} (h : Blt W g X cap) [Inhabited Tm] (d : Array Tm) (hs : d.size = X.length) (n : Nat) (os : Array Obj) :
  Blt (sortWorldK encT 2 W g 0 n d os) g d.toList cap ∧ ∀ B, B ≤ g → Go.RowKit.Below B W (sortWorldK encT 2 W g 0 n d os) := by
 obtain ⟨rest, h1, h2, h3, h4⟩ := h
 have hg := lt_of_some h1
 have hh : (sortWorldK encT 2 W g 0 n d os).heap = (W.heap.modify g (onCells (putCells id 0 (flatK encT 2 d)))) ++ os := rfl
 have hlen : d.toList.length = X.length := by simpa using hs
 have hcells : (putCells id 0 (flatK encT 2 d) (encM X ++ rest).toArray) = (encM d.toList ++ rest).toArray := by
  apply Array.ext
  ·simp [putCells, encM_len, hs]
  ·intro k k1 k2
   have k3 : k < X.length * 2 + rest.length := by simpa [putCells, encM_len] using k1
   rw [pc_get (flatK encT 2 d) (encM X ++ rest).toArray k k1 (by simpa [encM_len] using k3)]
   simp only [size_flatK]
   by_cases hk : k < X.length * 2
   ·rw [if_pos (by rw [hs]; exact hk), get_flatK encT 2 d k (by rw [hs]; exact hk)]
    have hi : k / 2 < d.toList.length := by omega
    have hd : (d[k / 2]! : Tm) = d.toList[k / 2] := by
     rw [getElem!_pos d (k / 2) (by rw [hs]; omega)]
     rfl
    have ha := encM_at d.toList (k / 2) (k % 2) _ (List.getElem?_eq_getElem hi) (Nat.mod_lt _ (by decide))
    rw [Nat.div_add_mod' k 2] at ha
    rw [hd]
    have hb : (encM d.toList ++ rest).toArray[k]? = (encT d.toList[k / 2])[k % 2]? := by
     rw [List.getElem?_toArray, List.getElem?_append_left (by rw [encM_len]; omega), ha]
    have hc : k % 2 < (encT d.toList[k / 2]).length := Nat.mod_lt _ (by decide)
    rw [getElem!_pos (encT d.toList[k / 2]) (k % 2) hc]
    rw [Array.getElem?_eq_getElem k2, List.getElem?_eq_getElem hc] at hb
    exact (Option.some.inj hb).symm
   ·rw [if_neg (by rw [hs]; exact hk)]
    simp only [List.getElem_toArray]
    rw [List.getElem_append_right (by rw [encM_len]; omega), List.getElem_append_right (by rw [encM_len]; omega)]
    congr 1
    rw [encM_len, encM_len, hlen]
 refine ⟨⟨rest, ?_, ?_, by omega, h4⟩, fun B hB => ⟨rfl, rfl, rfl, ?_, fun k hk => ?_⟩⟩
 ·rw [hh, Array.getElem?_append_left (by simpa using hg), Array.getElem?_modify, if_pos rfl, h1]
  simp only [Option.map_some, onCells]
  rw [hcells]
 ·rw [List.length_append, encM_len, hlen, ← encM_len, ← List.length_append]
  exact h2
 ·rw [hh]
  simp
 ·rw [hh, Array.getElem?_append_left (by simp; omega), Array.getElem?_modify, if_neg (by omega)]
end Go.Proofs.YtekommcfpjonmaaGreat.Yk
namespace Go.Proofs.YtekommcfpjonmaaGreat.Yl
open Go.Proofs Go.Shelf
def lays_ren : Go.Shelf.Ren := ⟨fun | 6 => 102 | 15 => 140 | 14 => 147 | 28 => 168 | 29 => 169 | 20 => 170 | 21 => 171 | 22 => 172 | 23 => 173 | 24 => 174 | 25 => 175 | 26 => 176 | 27 => 177 | 46 => 187 | 47 => 183 | 48 => 184 | 49 => 188 | 50 => 189 | 57 => 191 | n => n, fun | 22 => 104 | 24 => 24 | 25 => 58 | 3 => 3 | 39 => 127 | 0 => 0 | 53 => 157 | 55 => 130 | 4 => 4 | 46 => 162 | 45 => 161 | 50 => 141 | 5 => 5 | 9 => 9 | 66 => 179 | 70 => 182 | 76 => 186 | 77 => 187 | n => n, fun | n => n⟩
theorem lays : Go.Proofs.SlLaysF0.n6 Tryz.prog lays_ren := {
 mixed := by kernel_rfl
 f6 := ⟨Tryz.f102.name, by decide, Tryz.func102.trans (congrArg some (by kernel_rfl))⟩
 f14 := ⟨Tryz.f147.name, by decide, Tryz.func147.trans (congrArg some (by kernel_rfl))⟩
 f15 := Tryz.func140.trans (congrArg some (by kernel_rfl))
 f20 := ⟨Tryz.f170.name, by decide, Tryz.func170.trans (congrArg some (by kernel_rfl))⟩
 f21 := ⟨Tryz.f171.name, by decide, Tryz.func171.trans (congrArg some (by kernel_rfl))⟩
 f22 := ⟨Tryz.f172.name, by decide, Tryz.func172.trans (congrArg some (by kernel_rfl))⟩
 f23 := ⟨Tryz.f173.name, by decide, Tryz.func173.trans (congrArg some (by kernel_rfl))⟩
 f24 := ⟨Tryz.f174.name, by decide, Tryz.func174.trans (congrArg some (by kernel_rfl))⟩
 f25 := ⟨Tryz.f175.name, by decide, Tryz.func175.trans (congrArg some (by kernel_rfl))⟩
 f26 := ⟨Tryz.f176.name, by decide, Tryz.func176.trans (congrArg some (by kernel_rfl))⟩
 f27 := ⟨Tryz.f177.name, by decide, Tryz.func177.trans (congrArg some (by kernel_rfl))⟩
 f28 := Tryz.func168.trans (congrArg some (by kernel_rfl))
 f29 := Tryz.func169.trans (congrArg some (by kernel_rfl))
 f46 := ⟨Tryz.f187.name, by decide, Tryz.func187.trans (congrArg some (by kernel_rfl))⟩
 f47 := Tryz.func183.trans (congrArg some (by kernel_rfl))
 f48 := Tryz.func184.trans (congrArg some (by kernel_rfl))
 f49 := ⟨Tryz.f188.name, by decide, Tryz.func188.trans (congrArg some (by kernel_rfl))⟩
 f50 := ⟨Tryz.f189.name, by decide, Tryz.func189.trans (congrArg some (by kernel_rfl))⟩
 f57 := ⟨Tryz.f191.name, by decide, Tryz.func191.trans (congrArg some (by kernel_rfl))⟩
 t0 := Tryz.underlying0
 a0 := Tryz.isAgg0
 z0 := Tryz.sizeOf0
 v0 := Tryz.zeroValue0
 t3 := Tryz.underlying3
 a3 := Tryz.isAgg3
 z3 := Tryz.sizeOf3
 v3 := Tryz.zeroValue3
 t4 := Tryz.underlying4
 a4 := Tryz.isAgg4
 z4 := Tryz.sizeOf4
 v4 := Tryz.zeroValue4
 t5 := Tryz.underlying5
 a5 := Tryz.isAgg5
 z5 := Tryz.sizeOf5
 v5 := Tryz.zeroValue5
 t9 := Tryz.underlying9
 a9 := Tryz.isAgg9
 z9 := Tryz.sizeOf9
 v9 := Tryz.zeroValue9
 t22 := Tryz.underlying104
 a22 := Tryz.isAgg104
 z22 := Tryz.sizeOf104
 v22 := Tryz.zeroValue104
 t25 := Tryz.underlying58
 a25 := Tryz.isAgg58
 z25 := Tryz.sizeOf58
 v25 := Tryz.zeroValue58
 t39 := Tryz.underlying127
 a39 := Tryz.isAgg127
 z39 := Tryz.sizeOf127
 v39 := Tryz.zeroValue127
 t45 := Tryz.underlying161
 a45 := Tryz.isAgg161
 z45 := Tryz.sizeOf161
 v45 := Tryz.zeroValue161
 t46 := Tryz.underlying162
 a46 := Tryz.isAgg162
 z46 := Tryz.sizeOf162
 v46 := Tryz.zeroValue162
 t50 := Tryz.underlying141
 a50 := Tryz.isAgg141
 z50 := Tryz.sizeOf141
 v50 := Tryz.zeroValue141
 t53 := Tryz.underlying157
 a53 := Tryz.isAgg157
 z53 := Tryz.sizeOf157
 v53 := Tryz.zeroValue157
 t55 := Tryz.underlying130
 a55 := Tryz.isAgg130
 z55 := Tryz.sizeOf130
 v55 := Tryz.zeroValue130
 t66 := Tryz.underlying179
 a66 := Tryz.isAgg179
 z66 := Tryz.sizeOf179
 v66 := Tryz.zeroValue179
 t70 := Tryz.underlying182
 a70 := Tryz.isAgg182
 z70 := Tryz.sizeOf182
 v70 := Tryz.zeroValue182
 t76 := Tryz.underlying186
 a76 := Tryz.isAgg186
 z76 := Tryz.sizeOf186
 v76 := Tryz.zeroValue186
 t77 := Tryz.underlying187
 a77 := Tryz.isAgg187
 z77 := Tryz.sizeOf187
 v77 := Tryz.zeroValue187 }
end Go.Proofs.YtekommcfpjonmaaGreat.Yl
namespace Go.Proofs.YtekommcfpjonmaaGreat.Ys
open Go.RowKit Go Go.Proofs.YtekommcfpjonmaaGreatW.PrintWords Go.Proofs.YtekommcfpjonmaaGreatW.PrintLast Go.Proofs.YtekommcfpjonmaaGreatW.PrintMore Go.Proofs.YtekommcfpjonmaaGreat.Mn Go.Proofs.YtekommcfpjonmaaGreat.Nd Go.Proofs.YtekommcfpjonmaaGreat.Z Go.Proofs.YtekommcfpjonmaaGreat.Rf Go.Proofs.YtekommcfpjonmaaGreat.E Go.Proofs.YtekommcfpjonmaaGreat.Sg Go.Proofs.YtekommcfpjonmaaGreat.Sx Go.Proofs.YtekommcfpjonmaaGreat.Sy Go.Proofs.YtekommcfpjonmaaGreat.Xv Go.Proofs.YtekommcfpjonmaaGreat.Xj Go.Proofs.YtekommcfpjonmaaGreat.Xk Go.Proofs.YtekommcfpjonmaaGreat.Yk Go.Proofs.YtekommcfpjonmaaGreat.Yl
set_option linter.unusedVariables false
set_option linter.unusedSimpArgs false
set_option maxHeartbeats 2000000 in
theorem insertion_none (p : Option Addr) (cap : Nat) (fv : Value) (w : World) :
  Calls Tryz.prog 170 #[.slice p 0 cap, .int .i64 0, .int .i64 0, fv] w (ValP w (.tuple #[])) := by
 go_enter Tryz.func170, Tryz.ntmps170
 go_wp2
 refine wp_loop_rounds 1 ?_
 rw [rounds_succ]
 go_wp2
 go_end0
 exact ⟨rfl, Below.refl _ _⟩
set_option maxHeartbeats 2000000 in
theorem pdq_none (p : Option Addr) (cap : Nat) (lim : Int) (fv : Value) (w : World) :
  Calls Tryz.prog 147 #[.slice p 0 cap, .int .i64 0, .int .i64 0, .int .i64 lim, fv] w (ValP w (.tuple #[])) := by
 have hi := fun W => insertion_none p cap fv W
 go_enter Tryz.func147, Tryz.ntmps147
 go_wp2
 refine wp_loop_rounds 1 ?_
 rw [rounds_succ]
 go_wp2_with fail
 refine (hi _).mono ?_
 rintro e w' ⟨rfl, hb⟩
 go_wp2_with fail
 (try simp only [Exit.inBlock, Exit.then]); refine bodyPost_ret (results_none rfl _ _ _) rfl ?_
 exact ⟨rfl, hb⟩
theorem len0_n (w : World) : Calls Tryz.prog 140 #[.int .u64 0] w fun e w' => e = .returned (.int .i64 (Lib.bitLen 0 : Nat)) ∧ w' = w :=
 Any.bits_Len (SlLaysF0.n15.bits (P := Tryz.prog) (ρ := lays_ren) { lays with }) 0 w (by omega) (by omega)
set_option maxHeartbeats 2000000 in
theorem sort_none (p : Option Addr) (cap : Nat) (fv : Value) (w : World) :
  Calls Tryz.prog 102 #[.slice p 0 cap, fv] w (ValP w (.tuple #[])) := by
 have hp := fun lim W => pdq_none p cap lim fv W
 go_enter Tryz.func102, Tryz.ntmps102
 go_wp2_with fail
 refine (len0_n _).mono ?_
 rintro e w' ⟨rfl, rfl⟩
 go_wp2_with fail
 refine (hp _ _).mono ?_
 rintro e w2 ⟨rfl, hb⟩
 go_wp2_with fail
 go_end0
 exact ⟨rfl, hb⟩
abbrev Vt := {s : Tm // vT s = true}
def cfT (x y : Vt) : Int := cmpQ (qT x.1) (qT y.1)
def encW (x : Vt) : List Value := encT x.1
theorem lt_cf (x y : Vt) : Go.Proofs.ltOf cfT x y = decide (qT x.1 < qT y.1) := by
 unfold Go.Proofs.ltOf cfT cmpQ
 by_cases h1 : qT x.1 < qT y.1
 ·simp [h1]
 ·by_cases h2 : qT y.1 < qT x.1 <;> simp [h1, h2]
theorem swo_cf : Go.Sort.SWO (Go.Proofs.ltOf cfT) := {
 irrefl := fun x => by rw [lt_cf]; simp
 trans := fun x y z h1 h2 => by
  rw [lt_cf] at *
  simp only [decide_eq_true_eq] at *
  grind
 ntrans := fun x y z h1 h2 => by
  rw [lt_cf] at *
  simp only [decide_eq_false_iff_not] at *
  grind }
theorem v1 : vT ⟨0, 1⟩ = true := by simp [vT, Ea.valid]
open Go.Sort in
theorem flat_val [Inhabited Vt] [Inhabited Tm] (d : Array Vt) : flatK encW 2 d = flatK encT 2 (d.map Subtype.val) := by
 unfold flatK
 rw [Array.size_map]
 refine Array.map_congr_left (fun t ht => ?_)
 have ht' : t < d.size * 2 := by simpa using ht
 have h1 : t / 2 < d.size := by omega
 rw [getElem!_pos d (t / 2) h1, getElem!_pos (d.map Subtype.val) (t / 2) (by simpa using h1), Array.getElem_map]
 rfl
set_option maxHeartbeats 1000000 in
theorem sort_n (g cap : Nat) (X : List Tm) (w : World) (h : Blt w g X cap) (hv : ∀ s ∈ X, vT s = true) (hl : X.length ≤ 1000000) :
  Calls Tryz.prog 102 #[.slice (some ⟨g, 0, none⟩) X.length cap, .func (.func 50) #[] #[]] w
   (fun e w' => e = .returned (.tuple #[]) ∧ ∃ d : List Tm, d.Perm X ∧ (∀ i j : Nat, i < j → ∀ x y, d[i]? = some x → d[j]? = some y → ¬ qT y < qT x) ∧ Blt w' g d cap ∧ ∀ B, B ≤ g → Below B w w') := by
 haveI : Inhabited Vt := ⟨⟨_, v1⟩⟩
 haveI : Inhabited Tm := ⟨⟨0, 1⟩⟩
 have hd : ∃ d : Array Vt, d.map Subtype.val = X.toArray := ⟨(X.pmap Subtype.mk hv).toArray, by simp [List.map_pmap]⟩
 obtain ⟨d, hd⟩ := hd
 have hsz : d.size = X.length := by
  have := congrArg Array.size hd
  simpa using this
 have hH : Go.Sort.HoldsK encW 2 w g 0 d := by
  unfold Go.Sort.HoldsK
  rw [flat_val, hd]
  exact h.holds
 have hC : CmpLays Tryz.prog 50 #[] encW 2 cfT g 0 d.size w := by
  intro m os dk hs x y
  exact Sr.grown_of (cmpT_n x.2 y.2 _)
 have hcon := AnyQ.slices_SortFunc lays 2 Tryz.isAgg24 Tryz.sizeOf24 encW (fun _ => rfl) (fun x v hv => by
  simp only [encW, encT, List.mem_cons, List.not_mem_nil, or_false] at hv
  rcases hv with rfl | rfl <;> rfl) cfT swo_cf 50 #[] g 0 cap d w (enters_of Tryz.func50 (by kernel_rfl) rfl) hC hH h.lt (by omega)
 rw [hsz] at hcon
 refine Calls.mono hcon ?_
 rintro e w' ⟨rfl, d', n, os, hp, hs, rfl⟩
 have hs' : d'.size = d.size := by rw [hp.1, hsz]
 have he : Go.Proofs.sortWorldK encW 2 w g 0 n d' os = Go.Proofs.sortWorldK encT 2 w g 0 n (d'.map Subtype.val) os := by
  unfold Go.Proofs.sortWorldK Go.Sort.putRowK
  rw [flat_val]
 rw [he]
 obtain ⟨k1, k2⟩ := sorted_blt h (d'.map Subtype.val) (by rw [Array.size_map, hs', hsz]) n os
 refine ⟨rfl, (d'.map Subtype.val).toList, ?_, ?_, k1, k2⟩
 ·have hp2 := hp.2.2
  rw [show (d'.extract 0 X.length) = d' by rw [← hsz, ← hs']; simp, show (d.extract 0 X.length) = d by rw [← hsz]; simp] at hp2
  have := hp2.map Subtype.val
  rw [← Array.toList_map, ← Array.toList_map, hd] at this
  exact this
 ·intro i j hij x y hx hy
  have hj : j < d'.size := by
   have := (List.getElem?_eq_some_iff.1 hy).1
   simpa using this
  have h0 := hs i j (Nat.zero_le _) hij (by omega)
  rw [lt_cf, getElem!_pos d' i (by omega), getElem!_pos d' j hj] at h0
  simp only [decide_eq_false_iff_not] at h0
  have ex : d'[i].1 = x := by simpa [List.getElem?_eq_getElem (show i < d'.size by omega)] using hx
  have ey : d'[j].1 = y := by simpa [List.getElem?_eq_getElem hj] using hy
  rw [ex, ey] at h0
  exact h0
end Go.Proofs.YtekommcfpjonmaaGreat.Ys
namespace Go.Proofs.YtekommcfpjonmaaGreat.Wb
open Go.RowKit Go Go.Proofs.YtekommcfpjonmaaGreatW.PrintWords Go.Proofs.YtekommcfpjonmaaGreatW.PrintLast Go.Proofs.YtekommcfpjonmaaGreatW.PrintMore Go.Proofs.YtekommcfpjonmaaGreat.Mn Go.Proofs.YtekommcfpjonmaaGreat.Nd Go.Proofs.YtekommcfpjonmaaGreat.Z Go.Proofs.YtekommcfpjonmaaGreat.Ea Go.Proofs.YtekommcfpjonmaaGreat.Rf Go.Proofs.YtekommcfpjonmaaGreat.E Go.Proofs.YtekommcfpjonmaaGreat.Sg Go.Proofs.YtekommcfpjonmaaGreat.Sx Go.Proofs.YtekommcfpjonmaaGreat.Sy Go.Proofs.YtekommcfpjonmaaGreat.Sz Go.Proofs.YtekommcfpjonmaaGreat.Rj Go.Proofs.YtekommcfpjonmaaGreat.Xv Go.Proofs.YtekommcfpjonmaaGreat.Xj Go.Proofs.YtekommcfpjonmaaGreat.Xk Go.Proofs.YtekommcfpjonmaaGreat.Xn Go.Proofs.YtekommcfpjonmaaGreat.Wa Go.Proofs.YtekommcfpjonmaaGreat.Yk Go.Proofs.YtekommcfpjonmaaGreat.Um
set_option linter.unusedVariables false
set_option linter.unusedSimpArgs false
section
variable {P : Program} {ops : Array Oper} {Q : Exit → Act → World → Prop}
theorem goesB_ {oi : Oper} {N : Option Tmp} {a : Act} {w : World} {K : Act → World → Prop} {f : FuncId} {fn : Func} {ar : Array Operand} {ts : Array TypeId} (t : Tmp) (p : Value) (hf : P.funcs[f]? = some fn) (hname : (fn.name == "runtime.NumGoroutine") = false) (hb : fn.body.isSome = true) (args : Array Value)
  (hw : Region.wanted oi (yielded ops a.tmps) = true) (hN : oi.dst = N) (hop : oi.op = .call { callee := .value (.tmp t), args := ar, argTypes := ts }) (ht : a.eval (.tmp t) = .func (.func f) #[p] #[]) (hargs : #[p] ++ ar.map a.eval = args)
  (h : Calls P f args w fun e w' => ∃ v, e = .returned v ∧ K (a.put N v) w') : if Region.wanted oi (yielded ops a.tmps) = true then Oper.wp P oi a w K Q else K (a.put N undef) w := by
 refine call_ f args hw hN ?_ h
 have he := enters_ hf hname hb args w
 unfold execOp
 simp [hop, resolve, Deferred.ofValue, invoke, ht, hargs, he]
end
def Two (g : Nat) (k : Nat) : Prop := k = g ∨ k = g + 1
theorem Wk.start {g : Nat} {h : Nat} {W6 W : World} {P : Option Addr} {c base : Nat} {l : List Sn} (hr : Kd.R k53 53 W6 base (fun _ => True) (.slice P l.length c) l) (hb : Below W6.heap.size W6 W) (hg : W6.heap.size ≤ g) (hh : W.heap[h]? = some (.cells #[.slice P l.length c] 110 (0, 0))) : Wk (Two g) W h l := by
 have hc := (Kd.R_reads' hr).2.1
 refine ⟨P, c, hh, hc, ?_⟩
 have h2 : Kd.R k53 53 W base (fun k => k < W6.heap.size) (.slice P l.length c) l := Kd.R_below (Kd.R_mono (Kd.R_bound hr) (fun k hk => hk.2.2.1)) hb
 exact Kd.C_kept_own h2 (fun k hk hx => by rcases hx with rfl | rfl <;> omega)
def Tri (g n : Nat) (k : Nat) : Prop := Two g k ∨ n ≤ k
theorem Wk.wide {g n h : Nat} {W : World} {l : List Sn} (k : Wk (Two g) W h l) (hn : W.heap.size ≤ n) : Wk (Tri g n) W h l := by
 obtain ⟨P, c, h1, h2, h3⟩ := k
 refine ⟨P, c, h1, h2, fun W' hk => h3 W' ⟨hk.1, fun i hi hx => hk.2 i hi (fun he => ?_)⟩⟩
 rcases he with he | he
 ·exact hx he
 ·omega
theorem sortR_n (base : Nat) (A : Option Addr) (c : Nat) (X : List Tm) (W : World) (hr : Kd.R k24 24 W base (fun _ => True) (.slice A X.length c) X) (hv : ∀ s ∈ X, vT s = true) (hl : X.length ≤ 1000000) :
  Calls Tryz.prog 102 #[.slice A X.length c, .func (.func 50) #[] #[]] W
   (fun e w' => e = .returned (.tuple #[]) ∧ ∃ d : List Tm, d.Perm X ∧ (∀ i j : Nat, i < j → ∀ x y, d[i]? = some x → d[j]? = some y → ¬ qT y < qT x) ∧ Kd.R k24 24 w' base (fun _ => True) (.slice A X.length c) d ∧ (base ≤ W.heap.size → Below base W w')) := by
 rcases R_blt hr with ⟨h1, h2⟩ | ⟨g, cap, h1, h2, h3⟩
 ·subst h2
  have e1 : A = none := by injection h1
  have e2 : c = 0 := by injection h1
  subst e1 e2
  refine (Ys.sort_none none 0 _ W).mono ?_
  rintro e w' ⟨rfl, hb⟩
  exact ⟨rfl, [], List.Perm.refl _, fun i j _ x y h => by simp at h, Kd.R_nil _ _ _ _ _, fun h => hb.mono h⟩
 ·have e1 : A = some ⟨g, 0, none⟩ := by injection h1
  have e2 : c = cap := by injection h1
  subst e1 e2
  refine (Ys.sort_n g c X W h3 hv hl).mono ?_
  rintro e w' ⟨rfl, d, p1, p2, p3, p4⟩
  refine ⟨rfl, d, p1, p2, ?_, fun _ => p4 base h2⟩
  rw [← p1.length_eq]
  exact blt_R p3 h2
def Lf (A l : List Sn) (q : Rat) : Prop := ∃ pre, A = pre ++ l ∧ ∀ s ∈ pre, qT s.f1 ≤ q
theorem Lf.mono {A l : List Sn} {p q : Rat} (h : Lf A l p) (hq : p ≤ q) : Lf A l q := by
 obtain ⟨pre, h1, h2⟩ := h
 exact ⟨pre, h1, fun s hs => by have := h2 s hs; grind⟩
theorem Lf.drop {A : List Sn} {q : Rat} : ∀ {l : List Sn}, Lf A l q → Lf A (dropT q l) q
 | [], h => h
 | s :: r, h => by
  rw [dropT]
  split
  ·rename_i hs
   obtain ⟨pre, h1, h2⟩ := h
   refine Lf.drop ⟨pre ++ [s], by simp [h1], fun x hx => ?_⟩
   rcases List.mem_append.1 hx with hx | hx
   ·exact h2 x hx
   ·rw [List.mem_singleton.1 hx]
    exact hs
  ·exact h
theorem dropT_head {q : Rat} : ∀ (l : List Sn) {s : Sn} {r : List Sn}, dropT q l = s :: r → ¬ qT s.f1 ≤ q
 | [], _, _, h => by cases h
 | x :: t, s, r, h => by
  rw [dropT] at h
  split at h
  ·exact dropT_head t h
  ·rename_i hx
   cases h
   exact hx
theorem Lf.tells {A l : List Sn} {q : Rat} (hc : Cn (A.map qS)) (h : Lf A l q) : hdT q (dropT q l) = inB (A.map qS) q := by
 obtain ⟨pre, h1, h2⟩ := h.drop
 cases hd : dropT q l with
 | nil =>
  rw [hd, List.append_nil] at h1
  symm
  refine none_in (fun x hx => ?_)
  obtain ⟨s, hs, rfl⟩ := List.mem_map.1 hx
  exact h2 s (by rw [← h1]; exact hs)
 | cons s r =>
  have hs := dropT_head l hd
  rw [hd] at h1
  symm
  refine head_in (pre := pre.map qS) (s := qS s) (r := r.map qS) hc (by rw [h1]; simp) (fun x hx => ?_) hs
  obtain ⟨y, hy, rfl⟩ := List.mem_map.1 hx
  exact h2 y hy
theorem Lf.mem {A l : List Sn} {q : Rat} (h : Lf A l q) : ∀ s ∈ l, s ∈ A := by
 obtain ⟨pre, h1, _⟩ := h
 intro s hs
 rw [h1]
 simp [hs]
theorem cln_cn (a : List Sn) : Cn ((clnL a).map qS) := by
 rw [map_cln]
 exact cnl_cn _
end Go.Proofs.YtekommcfpjonmaaGreat.Wb
namespace Go.Proofs.YtekommcfpjonmaaGreat.Xm
open Go.RowKit Go Go.Proofs.YtekommcfpjonmaaGreatW.PrintWords Go.Proofs.YtekommcfpjonmaaGreatW.PrintLast Go.Proofs.YtekommcfpjonmaaGreatW.PrintMore Go.Proofs.YtekommcfpjonmaaGreat.Mn Go.Proofs.YtekommcfpjonmaaGreat.Nd Go.Proofs.YtekommcfpjonmaaGreat.Z Go.Proofs.YtekommcfpjonmaaGreat.Ea Go.Proofs.YtekommcfpjonmaaGreat.Rf Go.Proofs.YtekommcfpjonmaaGreat.E Go.Proofs.YtekommcfpjonmaaGreat.Sg Go.Proofs.YtekommcfpjonmaaGreat.Sx Go.Proofs.YtekommcfpjonmaaGreat.Sy Go.Proofs.YtekommcfpjonmaaGreat.Sz Go.Proofs.YtekommcfpjonmaaGreat.Rj Go.Proofs.YtekommcfpjonmaaGreat.Rk Go.Proofs.YtekommcfpjonmaaGreat.Rl Go.Proofs.YtekommcfpjonmaaGreat.Xv Go.Proofs.YtekommcfpjonmaaGreat.Xj Go.Proofs.YtekommcfpjonmaaGreat.Xk Go.Proofs.YtekommcfpjonmaaGreat.Xn Go.Proofs.YtekommcfpjonmaaGreat.Xp Go.Proofs.YtekommcfpjonmaaGreat.Cs Go.Proofs.YtekommcfpjonmaaGreat.Wa Go.Proofs.YtekommcfpjonmaaGreat.Wb Go.Proofs.YtekommcfpjonmaaGreat.Yk Go.Proofs.YtekommcfpjonmaaGreat.Um
set_option linter.unusedVariables false
set_option linter.unusedSimpArgs false
structure Wt (w W : World) (g : Nat) (A B : List Sn) : Prop where
 x : Wk (Two g) W g A
 y : Wk (Two g) W (g + 1) B
 below : Below w.heap.size w W
 lo : w.heap.size ≤ g
theorem Wt.step {w W W2 : World} {g : Nat} {A B : List Sn} (h : Wt w W g A B) (hb : Below W.heap.size W W2) : Wt w W2 g A B := ⟨h.x.below hb, h.y.below hb, h.below.trans (hb.mono h.below.size), h.lo⟩
theorem Wt.lt {w W : World} {g : Nat} {A B : List Sn} (h : Wt w W g A B) : g + 1 < W.heap.size := h.y.lt
structure Wm (w w5 W : World) (g : Nat) (l m : List Sn) (v : Value) (out : List Sn) : Prop where
 x : Wk (Tri g w5.heap.size) W g l
 y : Wk (Tri g w5.heap.size) W (g + 1) m
 kept : Kept w5 W (Tri g w5.heap.size)
 below : Below w.heap.size w W
 lo : w.heap.size ≤ g
 hi : g + 1 < w5.heap.size
 r : Kd.R k53 53 W w.heap.size (fun k => w5.heap.size ≤ k) v out
theorem Wm.start {w w5 : World} {g : Nat} {A B : List Sn} (h : Wt w w5 g A B) : Wm w w5 w5 g A B (.slice none 0 0) [] :=
 ⟨Wb.Wk.wide h.x (Nat.le_refl _), Wb.Wk.wide h.y (Nat.le_refl _), Kept.refl _ _, h.below, h.lo, h.lt, Kd.R_nil _ _ _ _ _⟩
theorem Wm.step {w w5 W W2 : World} {g : Nat} {l m : List Sn} {v : Value} {out : List Sn} (h : Wm w w5 W g l m v out) (hb : Below W.heap.size W W2) : Wm w w5 W2 g l m v out :=
 ⟨h.x.below hb, h.y.below hb, h.kept.below hb, h.below.trans (hb.mono h.below.size), h.lo, h.hi, Kd.R_below h.r hb⟩
theorem Wm.first {w w5 W W2 : World} {g : Nat} {l l2 m : List Sn} {v : Value} {out : List Sn} (h : Wm w w5 W g l m v out) (k : Wk (Tri g w5.heap.size) W2 g l2) (hk : Kept W W2 (fun k => k = g)) (hb : ∀ B, B ≤ g → Below B W W2) : Wm w w5 W2 g l2 m v out :=
 ⟨k, h.y.step (hk.mono (fun _ hx => .inl (.inl hx))) (hk.2 _ h.y.lt (by omega)), h.kept.then_ hk (fun _ hx => .inl (.inl (.inl hx))), h.below.trans (hb _ h.lo), h.lo, h.hi, Kd.R_kept h.r hk (fun k hx he => by have := h.hi; omega)⟩
theorem Wm.second {w w5 W W2 : World} {g : Nat} {l m m2 : List Sn} {v : Value} {out : List Sn} (h : Wm w w5 W g l m v out) (k : Wk (Tri g w5.heap.size) W2 (g + 1) m2) (hk : Kept W W2 (fun k => k = g + 1)) (hb : ∀ B, B ≤ g + 1 → Below B W W2) : Wm w w5 W2 g l m2 v out :=
 ⟨h.x.step (hk.mono (fun _ hx => .inl (.inr hx))) (hk.2 _ h.x.lt (by omega)), k, h.kept.then_ hk (fun _ hx => .inl (.inl (.inr hx))), h.below.trans (hb _ (by have := h.lo; omega)), h.lo, h.hi, Kd.R_kept h.r hk (fun k hx he => by have := h.hi; omega)⟩
theorem Wm.more {w w5 W W2 : World} {g : Nat} {l m : List Sn} {v v2 : Value} {out out2 : List Sn} {row : Option Nat} (h : Wm w w5 W g l m v out) (ho : Kd.R k53 53 W2 w.heap.size (fun k => w5.heap.size ≤ k) v2 out2) (hb : Below w.heap.size w W2) (hgr : W.grownBy W2 row) (hr : ∀ k, row = some k → w5.heap.size ≤ k) : Wm w w5 W2 g l m v2 out2 := by
 have hk : Kept W W2 (fun k => row = some k) := ⟨hgr.size, fun i hi hn => hgr.block i hi (fun he => hn he.symm)⟩
 have e1 : W2.heap[g]? = W.heap[g]? := hk.2 _ h.x.lt (fun he => by have := hr _ he; have := h.hi; omega)
 have e2 : W2.heap[g + 1]? = W.heap[g + 1]? := hk.2 _ h.y.lt (fun he => by have := hr _ he; have := h.hi; omega)
 have hk2 : Kept W W2 (Tri g w5.heap.size) := hk.mono (fun k hx => .inr (hr k hx))
 exact ⟨h.x.step hk2 e1, h.y.step hk2 e2, h.kept.then_ hk2 (fun _ hx => .inl hx), hb, h.lo, h.hi, ho⟩
theorem cmp_is {a b : Tm} (ha : vT a = true) (hb : vT b = true) : ∃ c : Int, decide (c < 0) = decide (qT a < qT b) ∧ ∀ W, Calls Tryz.prog 50 #[.agg #[.int .i64 a.f0, .int .i64 a.f1], .agg #[.int .i64 b.f0, .int .i64 b.f1]] W (ValP W (.int .i64 c)) := by
 refine ⟨cmpQ (qT a) (qT b), ?_, fun W => cmpT_n ha hb W⟩
 by_cases h : qT a < qT b
 ·rw [cq_lt h, decide_eq_true h]
  rfl
 ·obtain ⟨c, hc0, ec⟩ := cq_ge h
  rw [ec, decide_eq_false h, decide_eq_false (by omega)]
theorem rdT_drop (d : List Tm) {i : Int} (h0 : 0 ≤ i) (h1 : i < (d.length : Int)) : d.drop i.toNat = rd_T24 d i :: d.drop (i + 1).toNat ∧ rd_T24 d i ∈ d := by
 have hn : i.toNat < d.length := by omega
 have hi2 : (i + 1).toNat = i.toNat + 1 := by omega
 have hg : rd_T24 d i = d[i.toNat] := by
  unfold rd_T24
  rw [List.getD_eq_getElem?_getD, List.getElem?_eq_getElem hn]
  rfl
 rw [hi2, hg, List.drop_eq_getElem_cons hn]
 exact ⟨rfl, List.getElem_mem hn⟩
theorem drop_le {d : List Tm} (hs : ∀ i j : Nat, i < j → ∀ x y, d[i]? = some x → d[j]? = some y → ¬ qT y < qT x) {i : Int} {X : Tm} {r : List Tm} (hd : d.drop i.toNat = X :: r) : ∀ x ∈ r, qT X ≤ qT x := by
 intro x hx
 obtain ⟨j, hj, he⟩ := List.getElem_of_mem hx
 have h0 : d[i.toNat]? = some X := by
  have : (d.drop i.toNat)[0]? = some X := by rw [hd]; rfl
  rwa [List.getElem?_drop] at this
 have h1 : d[i.toNat + (j + 1)]? = some x := by
  have : (d.drop i.toNat)[j + 1]? = some x := by rw [hd, List.getElem?_cons_succ, List.getElem?_eq_getElem hj, he]
  rwa [List.getElem?_drop] at this
 exact Rat.not_lt.1 (hs _ _ (by omega) _ _ h0 h1)
theorem two_at {W : World} {ad : Addr} {n : Nat} {d : List Tm} {i : Int} (h : Kd.C k24 W (some ad) n d) (p0 : 0 ≤ i) (hlt : i + 1 < (n : Int)) :
  W.cell? (ad.add (i.toNat * 2)) = some (.int .i64 (rd_T24 d i).f0) ∧ W.cell? ⟨(ad.add (i.toNat * 2)).block, (ad.add (i.toNat * 2)).off + 1, none⟩ = some (.int .i64 (rd_T24 d i).f1) ∧
  W.cell? (ad.add ((i + 1).toNat * 2)) = some (.int .i64 (rd_T24 d (i + 1)).f0) ∧ W.cell? ⟨(ad.add ((i + 1).toNat * 2)).block, (ad.add ((i + 1).toNat * 2)).off + 1, none⟩ = some (.int .i64 (rd_T24 d (i + 1)).f1) := by
 obtain ⟨ad1, e1, a0, a1⟩ := at_T24 h i p0 (by omega)
 obtain ⟨ad2, e2, b0, b1⟩ := at_T24 h (i + 1) (by omega) hlt
 cases e1
 cases e2
 exact ⟨a0, a1, b0, b1⟩
theorem two_walkers (w : World) (u v : Value) :
  (((w.alloc (.cells #[u] 110 (0, 0))).alloc (.cells #[v] 110 (0, 0))).heap[w.heap.size]? = some (.cells #[u] 110 (0, 0))) ∧
  (((w.alloc (.cells #[u] 110 (0, 0))).alloc (.cells #[v] 110 (0, 0))).heap[w.heap.size + 1]? = some (.cells #[v] 110 (0, 0))) ∧
  Below w.heap.size w ((w.alloc (.cells #[u] 110 (0, 0))).alloc (.cells #[v] 110 (0, 0))) := by
 have e1 : (w.alloc (.cells #[u] 110 (0, 0))).heap.size = w.heap.size + 1 := by simp
 have k2 := blk_new (w.alloc (.cells #[u] 110 (0, 0))) (.cells #[v] 110 (0, 0))
 rw [e1] at k2
 exact ⟨blk_alloc (blk_new w _) _, k2, below_alloc (below_alloc (Below.refl w.heap.size w) _) _⟩
theorem two_times (w : World) (a b : Tm) : Kd.C k24 (w.alloc (.cells #[.int .i64 a.f0, .int .i64 a.f1, .int .i64 b.f0, .int .i64 b.f1] 24 (0, 0))) (some ⟨w.heap.size, 0, none⟩) [a, b].length [a, b] := by
 have h : Blt (w.alloc (.cells #[.int .i64 a.f0, .int .i64 a.f1, .int .i64 b.f0, .int .i64 b.f1] 24 (0, 0))) w.heap.size [a, b] 2 := ⟨[], blk_new w _, rfl, Nat.le_refl 2, by decide⟩
 exact (Kd.R_reads' (blt_R h (Nat.zero_le _))).2.2
set_option maxHeartbeats 16000000 in
set_option maxRecDepth 100000 in
theorem chosen_n (how : Int) (kf : FuncId) (fn : Func) (hkf : Tryz.prog.funcs[kf]? = some fn) (hname : (fn.name == "runtime.NumGoroutine") = false) (hbody : fn.body.isSome = true) (hk : ∀ x y W, Calls Tryz.prog kf #[.bool x, .bool y] W (ValP W (.bool (kp how x y))))
  (A0 A1 : Option Addr) (c0 c1 : Nat) (a b : List Sn) (w : World) (ha : Kd.C k53 w A0 a.length a) (hb : Kd.C k53 w A1 b.length b) (la : a.length ≤ 400) (lb : b.length ≤ 400) :
  Calls Tryz.prog 53 #[.slice A0 a.length c0, .slice A1 b.length c1, .func (.func kf) #[] #[]] w (fun e w' => ∃ v, e = .returned (.tuple #[v, .int .i64 (comV how a b).2]) ∧ Js w w' v (comV how a b).1) := by
 have hu := Tryz.underlying53
 have hu2 := Tryz.underlying24
 have hu3 := Tryz.underlying110
 have HR := Aside0.mk (And.intro (And.intro ha la) (And.intro hb lb))
 have HK := Aside0.mk (And.intro (And.intro hkf hname) (And.intro hbody hk))
 have HV := Aside0.mk (show comV how a b = if allV a = true ∧ allV b = true then ((joQ how (a.map qS) (b.map qS)).map lS, 0) else ([], 4) from rfl)
 have HP := Aside0.mk (fun (d : List Tm) hp ho => chosen_is how a b (d := d) hp ho)
 have HN := Aside0.mk (And.intro (clnL_len a) (clnL_len b))
 have HC := Aside0.mk (And.intro (cln_cn a) (cln_cn b))
 have HCV := Aside0.mk (And.intro (fun h => clnL_v (l := a) (of_allV h)) (fun h => clnL_v (l := b) (of_allV h)))
 generalize comV how a b = V at *
 generalize (joQ how (a.map qS) (b.map qS)).map lS = J at *
 clear ha hb la lb hkf hname hbody hk
 go_enter Tryz.func53, Tryz.ntmps53
 go_wp2_with fail
 refine (validSpans_n A0 c0 a w HR.out.1.1 (by have := HR.out.1.2; omega)).mono ?_
 rintro e w3 ⟨rfl, hb3⟩
 have hB3 := Aside0.mk hb3
 clear hb3
 obtain ⟨x, hx⟩ : ∃ x : Bool, x = allV a := ⟨_, rfl⟩
 rw [← hx]
 cases x with
 | false =>
  have HV2 := Aside0.mk (show V = ([], 4) by rw [HV.out, ← hx, if_neg (fun h => by cases h.1)])
  clear hx HV
  go_wp2_with fail
  go_ret2
  exact ⟨_, by rw [HV2.out]; rfl, by rw [HV2.out]; exact Kd.R_nil _ _ _ _ _, hB3.out⟩
 | true =>
  have HA := Aside0.mk hx
  clear hx
  go_wp2_with fail
  refine (validSpans_n A1 c1 b w3 (Kd.C_below HR.out.2.1 hB3.out) (by have := HR.out.2.2; omega)).mono ?_
  rintro e w4 ⟨rfl, hb4⟩
  have hB4 := Aside0.mk (hB3.out.trans (hb4.mono hB3.out.size))
  clear hb4 hB3
  obtain ⟨x, hx⟩ : ∃ x : Bool, x = allV b := ⟨_, rfl⟩
  rw [← hx]
  cases x with
  | false =>
   have HV2 := Aside0.mk (show V = ([], 4) by rw [HV.out, ← hx, if_neg (fun h => by cases h.2)])
   clear hx HV
   go_wp2_with fail
   go_ret2
   exact ⟨_, by rw [HV2.out]; rfl, by rw [HV2.out]; exact Kd.R_nil _ _ _ _ _, hB4.out⟩
  | true =>
   have HV2 := Aside0.mk (show V = (J, 0) by rw [HV.out, if_pos ⟨HA.out.symm, hx.symm⟩])
   have HVA := Aside0.mk (And.intro (of_allV HA.out.symm) (of_allV hx.symm))
   have HVC := Aside0.mk (And.intro (HCV.out.1 HA.out.symm) (HCV.out.2 hx.symm))
   clear hx HV HA HCV
   go_wp2_with fail
   refine (clean_n A0 c0 a w4 (Kd.C_below HR.out.1.1 hB4.out) (by have := HR.out.1.2; omega) HVA.out.1).mono ?_
   rintro e w5 ⟨v5, rfl, hj⟩
   have HJ5 := Aside0.mk (show Kd.R k53 53 w5 w.heap.size (fun _ => True) v5 (clnL a) ∧ Below w.heap.size w w5 from ⟨Kd.R_lower hj.r hB4.out.size, hB4.out.trans (hj.below.mono hB4.out.size)⟩)
   clear hj hB4
   generalize clnL a = A at *
   obtain ⟨P5, c5, e5⟩ := Kd.R_slice HJ5.out.1
   subst e5
   go_wp2_with fail
   refine (clean_n A1 c1 b w5 (Kd.C_below HR.out.2.1 HJ5.out.2) (by have := HR.out.2.2; omega) HVA.out.2).mono ?_
   rintro e w6 ⟨v6, rfl, hj⟩
   have HJ6 := Aside0.mk (show Kd.R k53 53 w6 w.heap.size (fun _ => True) v6 (clnL b) ∧ Kd.R k53 53 w6 w.heap.size (fun _ => True) (.slice P5 A.length c5) A ∧ Below w.heap.size w w6 from ⟨Kd.R_lower hj.r HJ5.out.2.size, Kd.R_below HJ5.out.1 hj.below, HJ5.out.2.trans (hj.below.mono HJ5.out.2.size)⟩)
   clear hj HJ5
   generalize clnL b = B at *
   obtain ⟨P6, c6, e6⟩ := Kd.R_slice HJ6.out.1
   subst e6
   have HLA := Aside0.mk (show A.length ≤ 400 ∧ B.length ≤ 400 by have := HR.out; have := HN.out; omega)
   clear HN HR HVA
   have hX := Aside0.mk (two_walkers w6 (.slice P5 A.length c5) (.slice P6 B.length c6))
   go_upto_region 4 with fail
   generalize World.alloc (World.alloc w6 _) _ = WW at *
   have HX := Aside0.mk hX.out
   clear hX
   generalize hgx : w6.heap.size = gx at *
   have HW := Aside0.mk (show Wt w WW gx A B from ⟨Wk.start HJ6.out.2.1 (by rw [hgx]; exact HX.out.2.2) (by omega) HX.out.1, Wk.start HJ6.out.1 (by rw [hgx]; exact HX.out.2.2) (by omega) HX.out.2.1, HJ6.out.2.2.trans (HX.out.2.2.mono (by rw [← hgx]; exact HJ6.out.2.2.size)), by rw [← hgx]; exact HJ6.out.2.2.size⟩)
   have HRR := Aside0.mk (show Kd.C k53 WW P5 A.length A ∧ Kd.C k53 WW P6 B.length B from ⟨(Kd.R_reads' (Kd.R_below HJ6.out.2.1 (by rw [hgx]; exact HX.out.2.2))).2.2, (Kd.R_reads' (Kd.R_below HJ6.out.1 (by rw [hgx]; exact HX.out.2.2))).2.2⟩)
   have x0 : WW.cell? ⟨gx, 0, none⟩ = some (.slice P5 A.length c5) := (blk_cell HX.out.1 0).trans rfl
   have y0 : WW.cell? ⟨gx + 1, 0, none⟩ = some (.slice P6 B.length c6) := (blk_cell HX.out.2.1 0).trans rfl
   have hX := Aside0.mk (And.intro (two_slices WW (.slice P5 A.length c5) (.slice P6 B.length c6)) (show Below WW.heap.size WW (WW.alloc (.cells #[.slice P5 A.length c5, .slice P6 B.length c6] 22 (0, 0))) from below_alloc (Below.refl _ WW) _))
   have HCC := Aside0.mk (fun W g (h1 : W.heap[g]? = some (.cells #[.slice P5 A.length c5, .slice P6 B.length c6] 22 (0, 0))) (h2 : Below WW.heap.size WW W) =>
    concat_n g P5 P6 c5 c6 A B W h1 (Kd.C_below HRR.out.1 h2) (Kd.C_below HRR.out.2 h2) HLA.out.1 HLA.out.2)
   clear HJ6 HX hgx
   go_wp2_with fail
   generalize World.alloc WW _ = W7 at *
   refine (HCC.out W7 WW.heap.size hX.out.1 hX.out.2).mono ?_
   rintro e w8 ⟨v8, rfl, hr8, hb8⟩
   have H8 := Aside0.mk (And.intro hr8 ((HW.out.step hX.out.2).step hb8))
   clear hr8 hb8 HCC hX HW HRR x0 y0
   have HL := Aside0.mk (show (A ++ B).length ≤ 800 ∧ ∀ s ∈ A ++ B, vS s = true from ⟨by have := HLA.out; simp only [List.length_append]; omega, fun s hs => by
    rcases List.mem_append.1 hs with h | h
    ·exact HVC.out.1 s h
    ·exact HVC.out.2 s h⟩)
   generalize A ++ B = L at *
   obtain ⟨P8, c8, e8⟩ := Kd.R_slice H8.out.1
   subst e8
   go_wp2_with fail
   go_loopg [10, 39] L.length (fun kq v10 v39 w' => ∃ (out : List Tm) (i : Int), v39 = .int .i64 i ∧ Aside0 (0 ≤ i ∧ i + kq = L.length ∧ out.length = 2 * i.toNat) ∧ Aside0 (Kd.R k24 24 w' w8.heap.size (fun _ => True) v10 out ∧ Below w8.heap.size w8 w') ∧ Aside0 (endT L = out ++ endT (L.drop i.toNat)))
   case atStart => exact ⟨[], 0, rfl, ⟨by simp, by simp, by simp⟩, ⟨Kd.R_nil _ _ _ _ _, Below.refl _ _⟩, ⟨by simp⟩⟩
   case round =>
    obtain ⟨out, i, rfl, hi, hM, hL⟩ := hrel
    by_cases hlt : i < (L.length : Int)
    ·have p0 := hi.out.1
     have HD := Aside0.mk (any_drop (fun _ => true) L p0 hlt).2
     have HE := Aside0.mk (rd_at L p0 hlt).1
     obtain ⟨ad, hA, q0, q1, q2, q3⟩ := at_T53 (Kd.C_below (Kd.R_reads' H8.out.1).2.2 hM.out.2) i p0 hlt
     obtain ⟨k1, rfl⟩ : ∃ k, gk = k + 1 := ⟨gk - 1, by have := hi.out.2; omega⟩
     have hwi : wrap64 (i + 1) = i + 1 := by
      have := HL.out.1
      exact w64 (by omega) (by omega)
     generalize rd_T53 L i = X at *
     replace p0 := eq_true p0
     replace hlt := eq_true hlt
     subst hA
     go_upto_region 8 with fail
     have hB := Aside0.mk (show Below wr.heap.size wr (wr.alloc (snO X)) from below_alloc (Below.refl _ wr) _)
     have hX := Aside0.mk (show (wr.alloc (snO X)).heap[wr.heap.size]? = some (snO X) from blk_new wr _)
     unfold snO at hB hX
     generalize hW1 : World.alloc wr _ = W1 at hB hX
     have HX1 := Aside0.mk (show W1.heap[wr.heap.size]? = some (snO X) from hX.out)
     have HJ := Aside0.mk (show Kd.R k24 24 W1 w8.heap.size (fun _ => True) u10 out ∧ Below w8.heap.size w8 W1 from ⟨Kd.R_below hM.out.1 hB.out, hM.out.2.trans (hB.out.mono hM.out.2.size)⟩)
     clear hX hB hM hW1 q0 q1 q2 q3
     generalize wr.heap.size = G at *
     obtain ⟨q0, q1, q2, q3⟩ := sn_at HX1.out
     have HT := Aside0.mk (two_times W1 X.f0 X.f1)
     have HB := Aside0.mk (show Below W1.heap.size W1 (W1.alloc (.cells #[.int .i64 X.f0.f0, .int .i64 X.f0.f1, .int .i64 X.f1.f0, .int .i64 X.f1.f1] 24 (0, 0))) from below_alloc (Below.refl _ W1) _)
     have HO := Aside0.mk (And.intro (Kd.R_below HJ.out.1 HB.out) (HJ.out.2.trans (HB.out.mono HJ.out.2.size)))
     go_wp2_with (first | ((with_reducible refine gate_builtin (b := .append) (xs := #[.tmp 43, .tmp 48]) rfl ?_); at_builtin; refine Kd.R_append_rows k24 (w0 := w8) w8.heap.size rfl (.tmp 43) (.tmp 48) 104 24 (.agg #[(.int .i64 0), (.int .i64 0)]) 16 rfl Tryz.underlying104 info24 rfl (by decide) (by omega) u10 out [X.f0, X.f1] _ _ _ (fun _ => True) (fun _ => False) rfl rfl HO.out.1 HT.out (fun _ _ h => h) (fun _ h => h.elim) (fun _ _ => trivial) HO.out.2 HO.out.2.size (by have := HL.out.1; have := hi.out; (try simp only [List.length_cons, List.length_nil]); omega) ?_; intro v9 w9' ho hb hg hat; have HS6 := Aside0.mk (And.intro ho hb); clear ho hb hg hat))
     go_roundg k1
     case measure => omega
     case rel => exact ⟨out ++ [X.f0, X.f1], i + 1, by rw [hwi], ⟨by have := hi.out; omega, by have := hi.out; omega, by have := hi.out; simp only [List.length_append, List.length_cons, List.length_nil] at this ⊢; omega⟩, ⟨HS6.out⟩, ⟨by rw [hL.out, HE.out, endT, List.append_assoc]; rfl⟩⟩
    ·have hlb : decide (i < (L.length : Int)) = false := decide_eq_false hlt
     have HE := Aside0.mk (show endT L = out by
      have hd : L.drop i.toNat = [] := List.drop_of_length_le (by have := hi.out; omega)
      rw [hL.out, hd]
      simp [endT])
     rw [HE.out] at HP
     have HOV := Aside0.mk (show (∀ x ∈ out, vT x = true) ∧ out.length ≤ 1600 from ⟨fun x hx => by
      rw [← HE.out] at hx
      obtain ⟨s, hs, he⟩ := endT_mem.1 hx
      have := vS_is (HL.out.2 s hs)
      rcases he with rfl | rfl
      ·exact this.1
      ·exact this.2.1, by
      rw [← HE.out, endT_len]
      have := HL.out.1
      omega⟩)
     have HJ := Aside0.mk hM.out
     replace hlt := eq_false hlt
     obtain ⟨P9, c9, e9⟩ := Kd.R_slice HJ.out.1
     subst e9
     have HW := Aside0.mk H8.out.2
     clear hL hM hi HE H8 HL
     go_wp2_with fail
     refine (sortR_n w8.heap.size P9 c9 out wr HJ.out.1 HOV.out.1 (by have := HOV.out.2; omega)).mono ?_
     rintro e w9 ⟨rfl, d, hp, hs, hr9, hb9⟩
     have hlen : out.length = d.length := hp.length_eq.symm
     rw [hlen] at hr9 HOV ⊢
     have HB9 := Aside0.mk (HJ.out.2.trans (hb9 HJ.out.2.size))
     have HWm := Aside0.mk (Wm.start (HW.out.step HB9.out))
     have HDV := Aside0.mk (show ∀ x ∈ d, vT x = true from fun x hx => HOV.out.1 x (hp.mem_iff.1 hx))
     have HDS := Aside0.mk (And.intro hs HOV.out.2)
     have HDC := Aside0.mk (show ∀ W', Kept w9 W' (Tri gx w9.heap.size) → Kd.C k24 W' P9 d.length d from
      Kd.C_kept_own (Kd.R_mono (Kd.R_bound hr9) (fun k hk => And.intro hk.2.1 hk.2.2.1) : Kd.R k24 24 w9 w8.heap.size (fun k => w8.heap.size ≤ k ∧ k < w9.heap.size) (.slice P9 d.length c9) d) (fun k hk hx => by
       have := HW.out.lt
       rcases hx with (rfl | rfl) | hx <;> omega))
     have HPJ := Aside0.mk (HP.out d hp hs)
     clear hp hs hr9 hb9 hlen HP HB9 HW HJ HOV
     obtain ⟨F, hF⟩ : ∃ F : Tm → Bool, F = fun t => kp how (inB (A.map qS) (qT t)) (inB (B.map qS) (qT t)) := ⟨_, rfl⟩
     rw [← hF] at HPJ
     have HF := Aside0.mk hF
     clear hF
     go_wp2_with fail
     go_loopg [16, 17] d.length (fun kq v16 v17 w' => ∃ (out l m : List Sn) (i : Int), v17 = .int .i64 i ∧ Aside0 (0 ≤ i ∧ i + kq = d.length ∧ out.length ≤ i.toNat) ∧ Aside0 (Wm w w9 w' gx l m v16 out) ∧ Aside0 (segL F d = out ++ segL F (d.drop i.toNat)) ∧ Aside0 ((∀ x ∈ d.drop i.toNat, Lf A l (qT x)) ∧ ∀ x ∈ d.drop i.toNat, Lf B m (qT x)))
     case atStart => exact ⟨[], A, B, 0, rfl, ⟨by simp, by simp, by simp⟩, ⟨HWm.out⟩, ⟨by simp⟩, ⟨fun x _ => ⟨[], rfl, by simp⟩, fun x _ => ⟨[], rfl, by simp⟩⟩⟩
     case round =>
      clear HWm
      obtain ⟨out, l, m, i, rfl, hi, hM, hL, hLf⟩ := hrel
      have hwi : wrap64 (i + 1) = i + 1 := by
       have := HDS.out.2
       have := hi.out
       exact w64 (by omega) (by omega)
      by_cases hlt : i + 1 < (d.length : Int)
      ·have p0 := hi.out.1
       have hlt0 : i < (d.length : Int) := by omega
       have p1 : 0 ≤ i + 1 := by omega
       have HE := Aside0.mk (And.intro (rdT_drop d p0 hlt0) (rdT_drop d p1 hlt))
       obtain ⟨ad, hA, q0, q1⟩ := at_T24 (HDC.out wr hM.out.kept) i p0 hlt0
       subst hA
       have HQ := Aside0.mk (fun W (hk : Kept w9 W (Tri gx w9.heap.size)) => two_at (HDC.out W hk) p0 hlt)
       obtain ⟨k1, rfl⟩ : ∃ k, gk = k + 1 := ⟨gk - 1, by have := hi.out.2; omega⟩
       have HXY := Aside0.mk (And.intro (HDV.out _ HE.out.1.2) (HDV.out _ HE.out.2.2))
       have HSG := Aside0.mk (show segL F (d.drop i.toNat) = if qT (rd_T24 d i) < qT (rd_T24 d (i + 1)) ∧ F (rd_T24 d i) = true then ⟨rd_T24 d i, rd_T24 d (i + 1)⟩ :: segL F (d.drop (i + 1).toNat) else segL F (d.drop (i + 1).toNat) by
        rw [HE.out.1.1, HE.out.2.1, segL])
       have HUP := Aside0.mk (drop_le HDS.out.1 HE.out.1.1)
       have HLX := Aside0.mk (And.intro (hLf.out.1 _ (by rw [HE.out.1.1]; exact List.mem_cons_self)) (hLf.out.2 _ (by rw [HE.out.1.1]; exact List.mem_cons_self)))
       have HLr := Aside0.mk (show (∀ x ∈ d.drop (i + 1).toNat, Lf A l (qT x)) ∧ ∀ x ∈ d.drop (i + 1).toNat, Lf B m (qT x) from ⟨fun x hx => hLf.out.1 x (by rw [HE.out.1.1]; exact List.mem_cons_of_mem _ hx), fun x hx => hLf.out.2 x (by rw [HE.out.1.1]; exact List.mem_cons_of_mem _ hx)⟩)
       generalize rd_T24 d i = X at *
       generalize rd_T24 d (i + 1) = Y at *
       replace p0 := eq_true p0
       replace p1 := eq_true p1
       replace hlt := eq_true hlt
       replace hlt0 := eq_true hlt0
       clear q0 q1 HE hLf
       obtain ⟨c, hcc, hcn⟩ := cmp_is HXY.out.1 HXY.out.2
       have HCM := Aside0.mk hcn
       clear hcn
       have hb0 : Below wr.heap.size wr wr.drew := below_drew' (Below.refl _ _)
       by_cases hxy : qT X < qT Y
       ·have hcd : decide (c < 0) = true := by rw [hcc]; exact decide_eq_true hxy
        obtain ⟨bx, hbx⟩ : ∃ b, b = hdT (qT X) (dropT (qT X) l) := ⟨_, rfl⟩
        obtain ⟨bz, hbz⟩ : ∃ b, b = hdT (qT X) (dropT (qT X) m) := ⟨_, rfl⟩
        obtain ⟨kb, hkb⟩ : ∃ b, b = kp how bx bz := ⟨_, rfl⟩
        have HAX := Aside0.mk (fun W (h : Wk (Tri gx w9.heap.size) W gx l) => at_n (Tri gx w9.heap.size) gx l X W (.inl (.inl rfl)) h (fun s hs => HVC.out.1 s (HLX.out.1.mem s hs)) HXY.out.1)
        have HAZ := Aside0.mk (fun W (h : Wk (Tri gx w9.heap.size) W (gx + 1) m) => at_n (Tri gx w9.heap.size) (gx + 1) m X W (.inl (.inr rfl)) h (fun s hs => HVC.out.2 s (HLX.out.2.mem s hs)) HXY.out.1)
        have HKN := Aside0.mk (fun W => HK.out.2.2 bx bz W)
        rw [← hbx] at HAX
        rw [← hbz] at HAZ
        rw [← hkb] at HKN
        have HKB := Aside0.mk (show kb = F X by
         rw [hkb, hbx, hbz, HLX.out.1.tells HC.out.1, HLX.out.2.tells HC.out.2, HF.out])
        have HHX := Aside0.mk hxy
        have HLn := Aside0.mk (show (∀ x ∈ d.drop (i + 1).toNat, Lf A (dropT (qT X) l) (qT x)) ∧ ∀ x ∈ d.drop (i + 1).toNat, Lf B (dropT (qT X) m) (qT x) from ⟨fun x hx => HLX.out.1.drop.mono (HUP.out x hx), fun x hx => HLX.out.2.drop.mono (HUP.out x hx)⟩)
        clear hxy hcc hbx hbz hkb HLr HLX
        go_upto_region 17 with fail
        refine start_ (n := 27) (S := fun w' => w'.cell? (ad.add (i.toNat * 2)) = some (.int .i64 X.f0) ∧ w'.cell? ⟨(ad.add (i.toNat * 2)).block, (ad.add (i.toNat * 2)).off + 1, none⟩ = some (.int .i64 X.f1) ∧ w'.cell? (ad.add ((i + 1).toNat * 2)) = some (.int .i64 Y.f0) ∧ w'.cell? ⟨(ad.add ((i + 1).toNat * 2)).block, (ad.add ((i + 1).toNat * 2)).off + 1, none⟩ = some (.int .i64 Y.f1)) (ds := []) (bs 27 0) (by kernel_rfl) rfl rfl ⟨(HQ.out _ (hM.out.step hb0).kept).1, (HQ.out _ (hM.out.step hb0).kept).2.1, (HQ.out _ (hM.out.step hb0).kept).2.2.1, (HQ.out _ (hM.out.step hb0).kept).2.2.2⟩ (fun hHeld => ?_)
        refine zP 0 63 27 1 ?_
        refine zP 1 64 27 3 ?_
        refine zP 2 65 27 7 ?_
        refine zP 4 67 27 23 ?_
        refine zP 5 68 27 55 ?_
        refine zP 6 69 27 119 ?_
        refine zP 7 70 27 247 ?_
        refine zT 3 66 27 255 hHeld ?_
        refine zT 8 71 27 511 hHeld ?_
        refine zN 9 (some 72) 27 1023 (fun K hK => ?_)
        refine zG Tryz.func50 #[.agg #[.int .i64 X.f0, .int .i64 X.f1], .agg #[.int .i64 Y.f0, .int .i64 Y.f1]] ?_
        with_reducible refine (HCM.out wr.drew).mono ?_
        rintro e w11 ⟨rfl, hb11⟩
        refine ⟨_, rfl, ?_⟩
        have hb11' := below_drew' hb11
        have H11 := Aside0.mk (hM.out.step hb11')
        clear hb11 hb11'
        refine hK.out _ _ ⟨(HQ.out _ H11.out.kept).1, (HQ.out _ H11.out.kept).2.1, (HQ.out _ H11.out.kept).2.2.1, (HQ.out _ H11.out.kept).2.2.2⟩ (fun hHeld => ?_)
        clear hK K
        refine zM 72 ?_
        refine zP 10 73 27 2047 ?_
        refine zP 11 74 27 4095 ?_
        refine zP 12 75 27 8191 ?_
        refine zP 13 76 27 16383 ?_
        refine zP 14 77 27 32767 ?_
        refine zP 15 78 27 65535 ?_
        refine zP 16 79 27 131071 ?_
        refine zP 19 82 27 655359 ?_
        refine zP 20 83 27 1703935 ?_
        refine zP 21 84 27 3801087 ?_
        refine zP 22 85 27 7995391 ?_
        refine zT 17 80 27 8126463 hHeld ?_
        refine zT 23 86 27 16515071 hHeld ?_
        refine zN 18 (some 81) 27 16777215 (fun K hK => ?_)
        refine goesB_ 76 (.pointer (some ⟨gx, 0, none⟩)) Tryz.func103 (by kernel_rfl) rfl #[.pointer (some ⟨gx, 0, none⟩), .agg #[.int .i64 X.f0, .int .i64 X.f1]] (by rfl) rfl rfl (by rfl) (by simp only [List.map_toArray, List.map_cons, List.map_nil]; rfl) ?_
        with_reducible refine (HAX.out w11 H11.out.x).mono ?_
        rintro e w12 ⟨rfl, hk12, hkp12, hbl12⟩
        refine ⟨_, rfl, ?_⟩
        have H12 := Aside0.mk (H11.out.first hk12 hkp12 hbl12)
        clear hk12 hkp12 hbl12
        refine hK.out _ _ ⟨(HQ.out _ H12.out.kept).1, (HQ.out _ H12.out.kept).2.1, (HQ.out _ H12.out.kept).2.2.1, (HQ.out _ H12.out.kept).2.2.2⟩ (fun hHeld => ?_)
        clear hK K
        refine zM 81 ?_
        refine zN 24 (some 87) 27 33554431 (fun K hK => ?_)
        refine goesB_ 82 (.pointer (some ⟨gx + 1, 0, none⟩)) Tryz.func103 (by kernel_rfl) rfl #[.pointer (some ⟨gx + 1, 0, none⟩), .agg #[.int .i64 X.f0, .int .i64 X.f1]] (by rfl) rfl rfl (by rfl) (by simp only [List.map_toArray, List.map_cons, List.map_nil]; rfl) ?_
        with_reducible refine (HAZ.out w12 H12.out.y).mono ?_
        rintro e w13 ⟨rfl, hk13, hkp13, hbl13⟩
        refine ⟨_, rfl, ?_⟩
        have H13 := Aside0.mk (H12.out.second hk13 hkp13 hbl13)
        clear hk13 hkp13 hbl13
        refine hK.out _ _ ⟨(HQ.out _ H13.out.kept).1, (HQ.out _ H13.out.kept).2.1, (HQ.out _ H13.out.kept).2.2.1, (HQ.out _ H13.out.kept).2.2.2⟩ (fun hHeld => ?_)
        clear hK K
        refine zM 87 ?_
        refine zN 25 (some 88) 27 67108863 (fun K hK => ?_)
        refine goesV_ 75 HK.out.1.1 HK.out.1.2 HK.out.2.1 #[.bool bx, .bool bz] (by rfl) rfl rfl (by rfl) (by simp only [List.map_toArray, List.map_cons, List.map_nil]; rfl) ?_
        with_reducible refine (HKN.out w13).mono ?_
        rintro e w14 ⟨rfl, hb14⟩
        refine ⟨_, rfl, ?_⟩
        have H14 := Aside0.mk (H13.out.step hb14)
        clear hb14
        refine hK.out _ _ ⟨(HQ.out _ H14.out.kept).1, (HQ.out _ H14.out.kept).2.1, (HQ.out _ H14.out.kept).2.2.1, (HQ.out _ H14.out.kept).2.2.2⟩ (fun hHeld => ?_)
        clear hK K
        refine zM 88 ?_
        refine zP 26 89 27 134217727 ?_
        refine done_ (by kernel_rfl) ?_
        clear hHeld hb0 hM H11 H12 H13 HAX HAZ HKN HCM
        have hb0 : Below w14.heap.size w14 w14.drew := below_drew' (Below.refl _ _)
        cases kb with
        | true =>
         have HS2 := Aside0.mk (show segL F d = (out ++ [(⟨X, Y⟩ : Sn)]) ++ segL F (d.drop (i + 1).toNat) by
          rw [hL.out, HSG.out, if_pos ⟨HHX.out, HKB.out.symm⟩, List.append_assoc]
          rfl)
         clear hL HSG HKB
         go_upto_region 18 with fail
         refine start_ (n := 14) (S := fun w' => w'.cell? (ad.add (i.toNat * 2)) = some (.int .i64 X.f0) ∧ w'.cell? ⟨(ad.add (i.toNat * 2)).block, (ad.add (i.toNat * 2)).off + 1, none⟩ = some (.int .i64 X.f1) ∧ w'.cell? (ad.add ((i + 1).toNat * 2)) = some (.int .i64 Y.f0) ∧ w'.cell? ⟨(ad.add ((i + 1).toNat * 2)).block, (ad.add ((i + 1).toNat * 2)).off + 1, none⟩ = some (.int .i64 Y.f1)) (ds := [11, 12]) (bs 14 0) (by kernel_rfl) rfl rfl ⟨(HQ.out _ (H14.out.step hb0).kept).1, (HQ.out _ (H14.out.step hb0).kept).2.1, (HQ.out _ (H14.out.step hb0).kept).2.2.1, (HQ.out _ (H14.out.step hb0).kept).2.2.2⟩ (fun hHeld => ?_)
         refine zP 0 90 14 1 ?_
         refine zP 1 91 14 3 ?_
         refine zP 2 92 14 7 ?_
         refine zP 3 93 14 15 ?_
         refine zP 5 95 14 47 ?_
         refine zP 6 96 14 111 ?_
         refine zP 7 97 14 239 ?_
         refine zP 8 98 14 495 ?_
         refine zT 4 94 14 511 hHeld ?_
         refine zT 9 99 14 1023 hHeld ?_
         refine zP 10 100 14 2047 ?_
         refine zL 11 (some 101) 14 4095 (fun K hK => ?_)
         refine value_ (v := .slice (some ⟨w14.drew.heap.size, 0, none⟩) 1 1) (w1 := w14.drew.alloc (.cells #[.int .i64 X.f0, .int .i64 X.f1, .int .i64 Y.f0, .int .i64 Y.f1] 53)) (by rfl) rfl ?_ ?_
         ·go_simp
         refine hK.out _ _ ?_
         clear hK K
         refine zM 101 ?_
         refine zL 12 (some 102) 14 8191 (fun K hK => ?_)
         refine Kd.R_append_step k53 (w0 := w) w.heap.size (by rfl) (.tmp 90) (.tmp 101) 22 53 (.agg #[(.int .i64 0), (.int .i64 0), (.int .i64 0), (.int .i64 0)]) 32 rfl Tryz.underlying22 info53 rfl (by decide) (by omega) u16 out (⟨X, Y⟩ : Sn) [.int .i64 X.f0, .int .i64 X.f1, .int .i64 Y.f0, .int .i64 Y.f1] (fun k => w9.heap.size ≤ k) (fun _ => False) rfl (by rfl) (k53_mkM _ _ _ (⟨X, Y⟩ : Sn)) (fun _ hk => hk.elim) (fun k hk => Nat.le_trans (H14.out.step hb0).kept.1 hk) (H14.out.step hb0).r (H14.out.step hb0).below (H14.out.step hb0).below.size (by have := hi.out; have := HDS.out.2; omega) ?_
         intro v15 w15 ho hb hg hat
         have HS6 := Aside0.mk ((H14.out.step hb0).more ho hb hg (fun k hk => (H14.out.step hb0).r.1 k hk))
         clear ho hb hg hat
         refine hK.out _ _ ?_
         clear hK K
         refine zM 102 ?_
         refine zP 13 16 14 16383 ?_
         refine done_ (by kernel_rfl) ?_
         clear H14 hb0
         go_wp2_with fail
         go_roundg k1
         case measure => omega
         case rel => exact ⟨out ++ [(⟨X, Y⟩ : Sn)], dropT (qT X) l, dropT (qT X) m, i + 1, by rw [hwi], ⟨by have := hi.out; omega, by have := hi.out; omega, by have := hi.out; simp only [List.length_append, List.length_cons, List.length_nil] at this ⊢; omega⟩, HS6, HS2, HLn⟩
        | false =>
         have HS2 := Aside0.mk (show segL F d = out ++ segL F (d.drop (i + 1).toNat) by
          rw [hL.out, HSG.out, if_neg (fun h => by have h1 := h.2; rw [← HKB.out] at h1; cases h1)])
         clear hL HSG HKB hb0
         go_wp2_with fail
         go_roundg k1
         case measure => omega
         case rel => exact ⟨out, dropT (qT X) l, dropT (qT X) m, i + 1, by rw [hwi], ⟨by have := hi.out; omega, by have := hi.out; omega, by have := hi.out; omega⟩, H14, HS2, HLn⟩
       ·have hcd : decide (c < 0) = false := by rw [hcc]; exact decide_eq_false hxy
        have HS2 := Aside0.mk (show segL F d = out ++ segL F (d.drop (i + 1).toNat) by
         rw [hL.out, HSG.out, if_neg (fun h => hxy h.1)])
        clear hxy hcc hL HSG HLX HUP
        go_upto_region 17 with fail
        refine start_ (n := 27) (S := fun w' => w'.cell? (ad.add (i.toNat * 2)) = some (.int .i64 X.f0) ∧ w'.cell? ⟨(ad.add (i.toNat * 2)).block, (ad.add (i.toNat * 2)).off + 1, none⟩ = some (.int .i64 X.f1) ∧ w'.cell? (ad.add ((i + 1).toNat * 2)) = some (.int .i64 Y.f0) ∧ w'.cell? ⟨(ad.add ((i + 1).toNat * 2)).block, (ad.add ((i + 1).toNat * 2)).off + 1, none⟩ = some (.int .i64 Y.f1)) (ds := []) (bs 27 0) (by kernel_rfl) rfl rfl ⟨(HQ.out _ (hM.out.step hb0).kept).1, (HQ.out _ (hM.out.step hb0).kept).2.1, (HQ.out _ (hM.out.step hb0).kept).2.2.1, (HQ.out _ (hM.out.step hb0).kept).2.2.2⟩ (fun hHeld => ?_)
        refine zP 0 63 27 1 ?_
        refine zP 1 64 27 3 ?_
        refine zP 2 65 27 7 ?_
        refine zP 4 67 27 23 ?_
        refine zP 5 68 27 55 ?_
        refine zP 6 69 27 119 ?_
        refine zP 7 70 27 247 ?_
        refine zT 3 66 27 255 hHeld ?_
        refine zT 8 71 27 511 hHeld ?_
        refine zN 9 (some 72) 27 1023 (fun K hK => ?_)
        refine zG Tryz.func50 #[.agg #[.int .i64 X.f0, .int .i64 X.f1], .agg #[.int .i64 Y.f0, .int .i64 Y.f1]] ?_
        with_reducible refine (HCM.out wr.drew).mono ?_
        rintro e w11 ⟨rfl, hb11⟩
        refine ⟨_, rfl, ?_⟩
        have hb11' := below_drew' hb11
        have H11 := Aside0.mk (hM.out.step hb11')
        clear hb11 hb11'
        refine hK.out _ _ ⟨(HQ.out _ H11.out.kept).1, (HQ.out _ H11.out.kept).2.1, (HQ.out _ H11.out.kept).2.2.1, (HQ.out _ H11.out.kept).2.2.2⟩ (fun hHeld => ?_)
        clear hK K
        refine zM 72 ?_
        refine zP 10 73 27 2047 ?_
        refine zP 11 74 27 4095 ?_
        refine zO 12 75 27 8191 ?_
        refine zO 13 76 27 16383 ?_
        refine zO 14 77 27 32767 ?_
        refine zO 15 78 27 65535 ?_
        refine zO 16 79 27 131071 ?_
        refine zO 17 80 27 262143 ?_
        refine zO 18 81 27 524287 ?_
        refine zO 19 82 27 1048575 ?_
        refine zO 20 83 27 2097151 ?_
        refine zO 21 84 27 4194303 ?_
        refine zO 22 85 27 8388607 ?_
        refine zO 23 86 27 16777215 ?_
        refine zO 24 87 27 33554431 ?_
        refine zO 25 88 27 67108863 ?_
        refine zP 26 89 27 134217727 ?_
        refine done_ (by kernel_rfl) ?_
        clear hHeld hb0 hM HCM
        go_wp2_with fail
        go_roundg k1
        case measure => omega
        case rel => exact ⟨out, l, m, i + 1, by rw [hwi], ⟨by have := hi.out; omega, by have := hi.out; omega, by have := hi.out; omega⟩, H11, HS2, HLr⟩
      ·have HE := Aside0.mk (show segL F d = out by
        rw [hL.out]
        have h1 : (d.drop i.toNat).length ≤ 1 := by
         rw [List.length_drop]
         have := hi.out
         omega
        rcases hd : d.drop i.toNat with _ | ⟨x, _ | ⟨y, r⟩⟩
        ·simp [segL]
        ·simp [segL]
        ·rw [hd] at h1
         simp at h1)
       have HO := Aside0.mk (show (∀ s ∈ out, vS s = true) ∧ out.length ≤ 1600 by
        have h1 := segL_v F d HDV.out
        have h2 := segL_len F d
        rw [HE.out] at h1 h2
        have := HDS.out.2
        exact ⟨h1, by omega⟩)
       have HPO := Aside0.mk (show mrgS out = J by rw [← HE.out]; exact HPJ.out)
       obtain ⟨P16, c16, e16⟩ := Kd.R_slice hM.out.r
       subst e16
       replace hlt := eq_false hlt
       clear hL hLf hi HE HPJ
       go_wp2_with fail
       refine (join_n P16 c16 out wr (Kd.R_reads' hM.out.r).2.2 (by have := HO.out.2; omega) HO.out.1).mono ?_
       rintro e w17 ⟨v17, rfl, hj⟩
       have HJ := Aside0.mk hj
       clear hj
       go_wp2_with fail
       go_ret2
       refine ⟨_, by rw [HV2.out]; rfl, ?_⟩
       rw [HV2.out]
       rw [HPO.out] at HJ
       exact ⟨Kd.R_lower HJ.out.r hM.out.below.size, hM.out.below.trans (HJ.out.below.mono hM.out.below.size)⟩
end Go.Proofs.YtekommcfpjonmaaGreat.Xm
namespace Go.Proofs.YtekommcfpjonmaaGreat.E
open Go.RowKit Go Go.Proofs.YtekommcfpjonmaaGreatW.PrintWords Go.Proofs.YtekommcfpjonmaaGreatW.PrintLast Go.Proofs.YtekommcfpjonmaaGreatW.PrintMore Go.Proofs.YtekommcfpjonmaaGreat.Mn Go.Proofs.YtekommcfpjonmaaGreat.Nd Go.Proofs.YtekommcfpjonmaaGreat.Z Go.Proofs.YtekommcfpjonmaaGreat.Sx Go.Proofs.YtekommcfpjonmaaGreat.Sy Go.Proofs.YtekommcfpjonmaaGreat.Rk Go.Proofs.YtekommcfpjonmaaGreat.Rl Go.Proofs.YtekommcfpjonmaaGreat.Xn Go.Proofs.YtekommcfpjonmaaGreat.Xm
set_option linter.unusedVariables false
set_option linter.unusedSimpArgs false
theorem meet1_n (x y : Bool) (w : World) : Calls Tryz.prog 54 #[.bool x, .bool y] w (ValP w (.bool (kp 1 x y))) := by
 cases x <;> cases y <;>
 ·go_enter Tryz.func54, Tryz.ntmps54
  go_wp2_with fail
  go_ret
  exact ⟨rfl, Below.refl _ _⟩
set_option maxHeartbeats 2000000 in
theorem meet_n (A0 A1 : Option Addr) (c0 c1 : Nat) (a b : List Sn) (w : World) (ha : Kd.C k53 w A0 a.length a) (hb : Kd.C k53 w A1 b.length b) (la : a.length ≤ 400) (lb : b.length ≤ 400) :
  Calls Tryz.prog 22 #[.slice A0 a.length c0, .slice A1 b.length c1] w (fun e w' => ∃ v, e = .returned (.tuple #[v, .int .i64 (comV 1 a b).2]) ∧ Js w w' v (comV 1 a b).1) := by
 have HC := Aside0.mk (fun W (hb' : Below w.heap.size w W) => chosen_n 1 54 _ Tryz.func54 (by kernel_rfl) rfl meet1_n A0 A1 c0 c1 a b W (Kd.C_below ha hb') (Kd.C_below hb hb') la lb)
 generalize comV 1 a b = V at *
 clear ha hb la lb
 go_enter Tryz.func22, Tryz.ntmps22
 go_wp2_with fail
 refine (HC.out w (Below.refl _ _)).mono ?_
 rintro e w2 ⟨v, rfl, hj⟩
 have HJ := Aside0.mk hj
 clear hj
 go_wp2_with fail
 go_ret2
 exact ⟨_, rfl, HJ.out⟩
def exact_Meet.f (a b : List Sn) : Option (List Sn × Int) := if a.length ≤ 400 ∧ b.length ≤ 400 then some (comV 1 a b) else none
theorem exact_Meet.calls (A0 : Option Addr) (c0 : Nat) (l0 : List Sn) (A1 : Option Addr) (c1 : Nat) (l1 : List Sn) (r1 : List Sn) (r2 : Int) (w : World) (hr0 : Kd.C k53 w A0 l0.length l0) (hc0 : l0.length ≤ c0) (hr1 : Kd.C k53 w A1 l1.length l1) (hc1 : l1.length ≤ c1) (h : exact_Meet.f l0 l1 = some (r1, r2)) :
  Calls Tryz.prog 22 #[.slice A0 l0.length c0, .slice A1 l1.length c1] w fun e w' => ∃ v, e = .returned (.tuple #[v, .int .i64 r2]) ∧ Kd.R k53 53 w' w.heap.size (fun _ => True) v r1 ∧ Below w.heap.size w w' := by
 unfold exact_Meet.f at h
 by_cases hl : l0.length ≤ 400 ∧ l1.length ≤ 400
 ·rw [if_pos hl] at h
  have h1 := Option.some.inj h
  refine (meet_n A0 A1 c0 c1 l0 l1 w hr0 hr1 hl.1 hl.2).mono ?_
  rw [h1]
  rintro e w' ⟨v, rfl, hj⟩
  exact ⟨v, rfl, hj.r, hj.below⟩
 ·rw [if_neg hl] at h
  cases h
end Go.Proofs.YtekommcfpjonmaaGreat.E
namespace Go.Proofs.YtekommcfpjonmaaGreat.Uc
open Go.RowKit Go Go.Proofs.YtekommcfpjonmaaGreatW.PrintWords Go.Proofs.YtekommcfpjonmaaGreatW.PrintLast Go.Proofs.YtekommcfpjonmaaGreatW.PrintMore Go.Proofs.YtekommcfpjonmaaGreat.Mn Go.Proofs.YtekommcfpjonmaaGreat.Rf Go.Proofs.YtekommcfpjonmaaGreat.E Go.Proofs.YtekommcfpjonmaaGreat.Sg Go.Proofs.YtekommcfpjonmaaGreat.Sx Go.Proofs.YtekommcfpjonmaaGreat.Sy Go.Proofs.YtekommcfpjonmaaGreat.Sz Go.Proofs.YtekommcfpjonmaaGreat.Rj Go.Proofs.YtekommcfpjonmaaGreat.Rk Go.Proofs.YtekommcfpjonmaaGreat.Rl Go.Proofs.YtekommcfpjonmaaGreat.Um Go.Proofs.YtekommcfpjonmaaGreat.Up Go.Proofs.YtekommcfpjonmaaGreat.Os
set_option linter.unusedVariables false
set_option linter.unusedSimpArgs false
theorem union_c {a b : List Sn} (la : a.length ≤ 400) (lb : b.length ≤ 400) : exact_Union.f a b = some (comV 0 a b) := by
 unfold exact_Union.f
 rw [if_pos ⟨la, lb⟩]
 unfold unV comV clnL
 rw [joQ_or, List.map_append]
theorem meet_c {a b : List Sn} (la : a.length ≤ 400) (lb : b.length ≤ 400) : exact_Meet.f a b = some (comV 1 a b) := if_pos ⟨la, lb⟩
theorem total_c {l : List Sn} (hl : l.length ≤ 1000000) : exact_Total.f l = some ((totV l).1.f0, (totV l).1.f1, (totV l).2) := if_pos hl
end Go.Proofs.YtekommcfpjonmaaGreat.Uc

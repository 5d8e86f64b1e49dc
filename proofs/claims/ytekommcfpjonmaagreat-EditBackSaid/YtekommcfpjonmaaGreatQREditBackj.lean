/-
  The reference's Back: the walk. The reference's times. exact.Add as a sum of rational numbers; the law's awake. exact.Shift: spans moved. exact.Has: whether a time is in spans. Plain laws of clean lists and of moved ones. The reference's spans: which are spans, which times are in them, their ends, and what is joined. The reference's ends and what it joins. The reference's functions of spans: what they tell.
-/
import Derived.Test.YtekommcfpjonmaaGreatQREditBacki
import Derived.Test.YtekommcfpjonmaaGreatQREditBackc
import Derived.Test.YtekommcfpjonmaaGreatQREditBackh
import Derived.Test.YtekommcfpjonmaaGreatQREditBackg
set_option linter.unusedVariables false
set_option linter.unusedSimpArgs false
set_option maxHeartbeats 16000000
set_option maxRecDepth 100000
namespace Go.Proofs.YtekommcfpjonmaaGreat.Rn
open RowKit Go YtekommcfpjonmaaGreatW.PrintWords YtekommcfpjonmaaGreatW.PrintLast YtekommcfpjonmaaGreatW.PrintMore Mn Nd Z Rf Er Ek Et E Pe Pf Qr Qn Qp Qw Qt Qm Rm Bk Xn
theorem timesM (u v : Value) (p q : Rat) (n m : Nat) (w : World) (h1 : RM w u p n) (h2 : RM w v q m) (hl : n + m ≤ 1000000) :
  Calls Tryz.prog 74 #[u, v] w (RP w (p * q) (n + m)) := by
 obtain ⟨b1, A1, c1, l1, A2, c2, l2, rfl, k1, k2, g1⟩ := h1
 obtain ⟨b3, A3, c3, l3, A4, c4, l4, rfl, k3, k4, g2⟩ := h2
 obtain ⟨b, x, y, he, hv⟩ := timesR_f g1 g2 hl
 obtain ⟨k, hk⟩ := he.rounds
 obtain ⟨-, e1, r1⟩ := Kd.V_reads' k1
 obtain ⟨-, e2, r2⟩ := Kd.V_reads' k2
 obtain ⟨-, e3, r3⟩ := Kd.V_reads' k3
 obtain ⟨-, e4, r4⟩ := Kd.V_reads' k4
 refine (dioramaref10_times.calls k b1 A1 c1 l1 A2 c2 l2 b3 A3 c3 l3 A4 c4 l4 b x y w r1 e1 r2 e2 r3 e3 r4 e4 hk).mono ?_
 rintro e w' ⟨v1, v2, rfl, h1, h2, hb⟩
 exact ⟨_, rfl, hb, RM.of h1 h2 hv⟩
theorem RP.parts {w w' : World} {q : Rat} {n : Nat} {e : Ending} (h : RP w q n e w') : ∃ (b : Bool) (A1 : Option Addr) (k1 c1 : Nat) (A2 : Option Addr) (k2 c2 : Nat), e = .returned (.agg #[.bool b, .slice A1 k1 c1, .slice A2 k2 c2]) ∧ Below w.heap.size w w' ∧ RM w' (.agg #[.bool b, .slice A1 k1 c1, .slice A2 k2 c2]) q n := by
 obtain ⟨v, rfl, hb, hm⟩ := h
 obtain ⟨b, A1, k1, c1, A2, k2, c2, rfl⟩ := RM.form hm
 exact ⟨b, A1, k1, c1, A2, k2, c2, rfl, hb, hm⟩
theorem time_isM (q : Rat) (n : Nat) (hn : n ≤ 1000) : ∃ T1 T2 T3 : Int, (T1 = (tmV q).1.1 ∧ T2 = (tmV q).1.2 ∧ T3 = (tmV q).2) ∧ ∀ W v, RM W v q n → Calls Tryz.prog 96 #[v] W (fun e w' => e = .returned (.tuple #[.agg #[.int .i64 T1, .int .i64 T2], .int .i64 T3]) ∧ Below W.heap.size W w') :=
 ⟨_, _, _, ⟨rfl, rfl, rfl⟩, fun W v h => timeM v q n W h hn⟩
def addV (out : List Spn) (p q : Rat) (e : Int) : List Spn × Int := if e = 0 ∧ (tmV p).2 = 0 ∧ (tmV q).2 = 0 then (out ++ [spn p q], 0) else ([], 2)
structure Ab (W0 w W : World) (b1 b2 : Bool) (u1 x1 u2 x2 u : Value) (out : List Spn) : Prop where
 a : W.heap[w.heap.size]? = some (ratO b1 u1 x1)
 b : W.heap[w.heap.size + 1]? = some (ratO b2 u2 x2)
 j : Js W0 W u out
theorem Js.step {w W W2 : World} {v : Value} {out : List Spn} (h : Js w W v out) (hb : Below W.heap.size W W2) : Js w W2 v out := ⟨Kd.R_below h.r hb, h.below.trans (hb.mono h.below.size)⟩
theorem Ab.step {W0 w W W2 : World} {b1 b2 : Bool} {u1 x1 u2 x2 u : Value} {out : List Spn} (h : Ab W0 w W b1 b2 u1 x1 u2 x2 u out) (hb : Below W.heap.size W W2) : Ab W0 w W2 b1 b2 u1 x1 u2 x2 u out := ⟨blk_below h.a hb, blk_below h.b hb, Rn.Js.step h.j hb⟩
theorem two_rats (w : World) (b1 b2 : Bool) (u1 x1 u2 x2 : Value) : ((w.alloc (ratO b1 u1 x1)).alloc (ratO b2 u2 x2)).heap[w.heap.size]? = some (ratO b1 u1 x1) ∧ ((w.alloc (ratO b1 u1 x1)).alloc (ratO b2 u2 x2)).heap[w.heap.size + 1]? = some (ratO b2 u2 x2) ∧ Below w.heap.size w ((w.alloc (ratO b1 u1 x1)).alloc (ratO b2 u2 x2)) := by
 have e1 : (w.alloc (ratO b1 u1 x1)).heap.size = w.heap.size + 1 := by simp
 have k2 := blk_new (w.alloc (ratO b1 u1 x1)) (ratO b2 u2 x2)
 rw [e1] at k2
 exact ⟨blk_alloc (blk_new w _) _, k2, below_alloc (below_alloc (Below.refl w.heap.size w) _) _⟩
theorem equalM (u v : Value) (p q : Rat) (n m : Nat) (w : World) (h1 : RM w u p n) (h2 : RM w v q m) (hl : n + m + 2 ≤ 1000000) :
  Calls Tryz.prog 71 #[u, v] w (ValP w (.bool (decide (p = q)))) := by
 have hu := Tryz.underlying79
 obtain ⟨b1, P1, k1, c1, P2, k2, c2, rfl⟩ := RM.form h1
 obtain ⟨b2, P3, k3, c3, P4, k4, c4, rfl⟩ := RM.form h2
 have HX := aS (two_rats w b1 b2 (.slice P1 k1 c1) (.slice P2 k2 c2) (.slice P3 k3 c3) (.slice P4 k4 c4))
 have HR := aS (And.intro h1 (And.intro h2 hl))
 obtain ⟨V, hV⟩ : ∃ V, V = decide (p = q) := ⟨_, rfl⟩
 rw [← hV]
 have HV := aS hV
 clear h1 h2 hl hV
 go_enter Tryz.func71, Tryz.ntmps71
 go_upto_region 1 with fail
 generalize hW : World.alloc (World.alloc _ _) _ = W
 have HA := aS (show W.heap[w.heap.size]? = some (ratO b1 (.slice P1 k1 c1) (.slice P2 k2 c2)) ∧ W.heap[w.heap.size + 1]? = some (ratO b2 (.slice P3 k3 c3) (.slice P4 k4 c4)) ∧ RM W (.agg #[.bool b1, .slice P1 k1 c1, .slice P2 k2 c2]) p n ∧ RM W (.agg #[.bool b2, .slice P3 k3 c3, .slice P4 k4 c4]) q m ∧ Below w.heap.size w W by
  rw [← hW]
  exact ⟨HX.out.1, HX.out.2.1, HR.out.1.below HX.out.2.2, HR.out.2.1.below HX.out.2.2, HX.out.2.2⟩)
 clear hW HX
 obtain ⟨p0, p1, p2, _, _, _⟩ := rat_cells HA.out.1
 obtain ⟨q0, q1, q2, _, _, _⟩ := rat_cells HA.out.2.1
 by_cases h : p < q
 ·have HL := aS (lessM_t _ _ p q n m W HA.out.2.2.1 HA.out.2.2.2.1 HR.out.2.2 h)
  have HV2 := aS (show V = false by rw [HV.out]; exact decide_eq_false (fun he => by rw [he] at h; exact Rat.lt_irrefl h))
  clear HV h
  go_wp2_with fail
  refine HL.out.mono ?_
  rintro e w2 ⟨rfl, hb2⟩
  have HB := aS (HA.out.2.2.2.2.trans (hb2.mono HA.out.2.2.2.2.size))
  clear hb2 HA HL p0 p1 p2 q0 q1 q2
  go_wp2_with fail
  go_ret
  exact ⟨ret_b HV2.out.symm, HB.out⟩
 have HL := aS (lessM_f _ _ p q n m W HA.out.2.2.1 HA.out.2.2.2.1 HR.out.2.2 h)
 have HV2 := aS (show V = !decide (q < p) by
  rw [HV.out]
  by_cases h2 : q < p
  ·rw [decide_eq_true h2]
   exact decide_eq_false (fun he => by rw [he] at h2; exact Rat.lt_irrefl h2)
  rw [decide_eq_false h2]
  exact decide_eq_true (Rat.le_antisymm (Rat.not_lt.1 h2) (Rat.not_lt.1 h)))
 clear HV h
 go_wp2_with fail
 refine HL.out.mono ?_
 rintro e w2 ⟨rfl, hb2⟩
 have HB := aS (And.intro (blk_below HA.out.1 hb2) (And.intro (blk_below HA.out.2.1 hb2) (And.intro (HA.out.2.2.1.below hb2) (And.intro (HA.out.2.2.2.1.below hb2) (HA.out.2.2.2.2.trans (hb2.mono HA.out.2.2.2.2.size))))))
 clear hb2 HA HL p0 p1 p2 q0 q1 q2
 obtain ⟨p0, p1, p2, _, _, _⟩ := rat_cells HB.out.1
 obtain ⟨q0, q1, q2, _, _, _⟩ := rat_cells HB.out.2.1
 have HL := aS (lessM _ _ q p m n w2 HB.out.2.2.2.1 HB.out.2.2.1 (by have := HR.out.2.2; omega))
 generalize decide (q < p) = x at *
 go_wp2_with fail
 refine HL.out.mono ?_
 rintro e w3 ⟨rfl, hb3⟩
 have HC := aS (HB.out.2.2.2.2.trans (hb3.mono HB.out.2.2.2.2.size))
 clear hb3 HB HL p0 p1 p2 q0 q1 q2
 go_wp2_with fail
 go_ret
 exact ⟨ret_b HV2.out.symm, HC.out⟩
theorem addedM (W0 w : World) (u v1 v2 : Value) (out : List Spn) (p q : Rat) (n m : Nat) (e : Int) (hJ : Js W0 w u out) (h1 : RM w v1 p n) (h2 : RM w v2 q m) (hn : n ≤ 1000) (hm : m ≤ 1000) (hl : out.length ≤ 100) :
  Calls Tryz.prog 72 #[u, v1, v2, .int .i64 e] w (fun en w' => ∃ v, en = .returned (.tuple #[v, .int .i64 (addV out p q e).2]) ∧ Js W0 w' v (addV out p q e).1) := by
 have hu := Tryz.underlying79
 have hu2 := Tryz.underlying24
 have hu3 := Tryz.underlying53
 obtain ⟨b1, P1, k1, c1, P2, k2, c2, rfl⟩ := RM.form h1
 obtain ⟨b2, P3, k3, c3, P4, k4, c4, rfl⟩ := RM.form h2
 obtain ⟨T1, T2, T3, hT, hTn⟩ := time_isM p n hn
 obtain ⟨U1, U2, U3, hU, hUn⟩ := time_isM q m hm
 have HTn := aS hTn
 have HUn := aS hUn
 have HV := aS (show addV out p q e = if e = 0 ∧ T3 = 0 ∧ U3 = 0 then (out ++ [(⟨⟨T1, T2⟩, ⟨U1, U2⟩⟩ : Spn)], 0) else ([], 2) by
  rw [hT.1, hT.2.1, hT.2.2, hU.1, hU.2.1, hU.2.2]
  rfl)
 generalize addV out p q e = V at *
 have HX := aS (two_rats w b1 b2 (.slice P1 k1 c1) (.slice P2 k2 c2) (.slice P3 k3 c3) (.slice P4 k4 c4))
 have HR := aS (And.intro hJ (And.intro h1 (And.intro h2 hl)))
 clear hT hTn hU hUn hJ h1 h2 hn hm hl
 go_enter Tryz.func72, Tryz.ntmps72
 go_upto_region 1 with fail
 generalize hW : World.alloc (World.alloc _ _) _ = W
 have HA := aS (show Ab W0 w W b1 b2 (.slice P1 k1 c1) (.slice P2 k2 c2) (.slice P3 k3 c3) (.slice P4 k4 c4) u out ∧ RM W (.agg #[.bool b1, .slice P1 k1 c1, .slice P2 k2 c2]) p n ∧ RM W (.agg #[.bool b2, .slice P3 k3 c3, .slice P4 k4 c4]) q m by
  rw [← hW]
  exact ⟨⟨HX.out.1, HX.out.2.1, Rn.Js.step HR.out.1 HX.out.2.2⟩, HR.out.2.1.below HX.out.2.2, HR.out.2.2.1.below HX.out.2.2⟩)
 have HL := aS HR.out.2.2.2
 clear hW HX HR
 obtain ⟨p0, p1, p2, _, _, _⟩ := rat_cells HA.out.1.a
 go_wp2_with fail
 refine (HTn.out W _ HA.out.2.1).mono ?_
 rintro e w2 ⟨rfl, hb2⟩
 have hx2 := aS (And.intro (blk_new w2 (.cells #[.int .i64 T1, .int .i64 T2] 24 (0, 0))) (below_alloc (Below.refl w2.heap.size w2) (.cells #[.int .i64 T1, .int .i64 T2] 24 (0, 0))))
 have HA2 := aS (And.intro (HA.out.1.step hb2) (HA.out.2.2.below hb2))
 clear hb2 HA HTn p0 p1 p2
 go_upto_region 2 with fail
 generalize hW2 : World.alloc w2 _ = W2
 have HA3 := aS (show W2.heap[w2.heap.size]? = some (timeObj T1 T2) ∧ Ab W0 w W2 b1 b2 (.slice P1 k1 c1) (.slice P2 k2 c2) (.slice P3 k3 c3) (.slice P4 k4 c4) u out ∧ RM W2 (.agg #[.bool b2, .slice P3 k3 c3, .slice P4 k4 c4]) q m by
  rw [← hW2]
  exact ⟨hx2.out.1, HA2.out.1.step hx2.out.2, HA2.out.2.below hx2.out.2⟩)
 clear hW2 hx2 HA2
 generalize w2.heap.size = g2 at *
 obtain ⟨p0, p1, p2, _, _, _⟩ := rat_cells HA3.out.2.1.b
 go_wp2_with fail
 refine (HUn.out W2 _ HA3.out.2.2).mono ?_
 rintro e w3 ⟨rfl, hb3⟩
 have hx3 := aS (And.intro (blk_new w3 (.cells #[.int .i64 U1, .int .i64 U2] 24 (0, 0))) (below_alloc (Below.refl w3.heap.size w3) (.cells #[.int .i64 U1, .int .i64 U2] 24 (0, 0))))
 have HA4 := aS (And.intro (blk_below HA3.out.1 hb3) (Rn.Js.step HA3.out.2.1.j hb3))
 clear hb3 HA3 HUn p0 p1 p2
 go_upto_region 3 with fail
 generalize hW3 : World.alloc w3 _ = W3
 have HA5 := aS (show W3.heap[w3.heap.size]? = some (timeObj U1 U2) ∧ W3.heap[g2]? = some (timeObj T1 T2) ∧ Js W0 W3 u out by
  rw [← hW3]
  exact ⟨hx3.out.1, blk_below HA4.out.1 hx3.out.2, Rn.Js.step HA4.out.2 hx3.out.2⟩)
 clear hW3 hx3 HA4
 generalize w3.heap.size = g3 at *
 by_cases h0 : e = 0
 case neg =>
  have HV4 := aS (show V = ([], 2) by rw [HV.out, if_neg (fun h => h0 h.1)])
  have h0b : (e != 0) = true := bne_iff_ne.mpr h0
  clear HV h0
  go_wp2_with fail
  go_ret2
  rw [HV4.out]
  exact ⟨_, rfl, Kd.R_nil _ _ _ _ _, HA5.out.2.2.below⟩
 have h0b : (e != 0) = false := by simpa using h0
 by_cases t3 : T3 = 0
 case neg =>
  have HV4 := aS (show V = ([], 2) by rw [HV.out, if_neg (fun h => t3 h.2.1)])
  have t3b : (T3 != 0) = true := bne_iff_ne.mpr t3
  clear HV t3 h0
  go_wp2_with fail
  go_ret2
  rw [HV4.out]
  exact ⟨_, rfl, Kd.R_nil _ _ _ _ _, HA5.out.2.2.below⟩
 have t3b : (T3 != 0) = false := by simpa using t3
 by_cases u3 : U3 = 0
 case neg =>
  have HV4 := aS (show V = ([], 2) by rw [HV.out, if_neg (fun h => u3 h.2.2)])
  have u3b : (U3 != 0) = true := bne_iff_ne.mpr u3
  clear HV t3 h0 u3
  go_wp2_with fail
  go_ret2
  rw [HV4.out]
  exact ⟨_, rfl, Kd.R_nil _ _ _ _ _, HA5.out.2.2.below⟩
 have u3b : (U3 != 0) = false := by simpa using u3
 have HV4 := aS (show V = (out ++ [(⟨⟨T1, T2⟩, ⟨U1, U2⟩⟩ : Spn)], 0) by rw [HV.out, if_pos ⟨h0, t3, u3⟩])
 clear HV t3 u3 h0
 obtain ⟨ka0, ka1, _, _⟩ := time_cells HA5.out.2.1
 obtain ⟨kb0, kb1, _, _⟩ := time_cells HA5.out.1
 go_wp2_with (first
  | ((with_reducible refine gate_builtin (b := .append) (xs := #[.tmp 34, .tmp 38]) rfl ?_); at_builtin; refine Kd.R_append k53 (w0 := W0) W0.heap.size rfl (.tmp 34) (.tmp 38) 22 53 (.agg #[(.int .i64 0), (.int .i64 0), (.int .i64 0), (.int .i64 0)]) 32 rfl Tryz.underlying22 info53 rfl (by decide) (by omega) u out (⟨⟨T1, T2⟩, ⟨U1, U2⟩⟩ : Spn) [.int .i64 T1, .int .i64 T2, .int .i64 U1, .int .i64 U2] (fun _ => True) (fun _ => False) rfl (by first | (go_simp; done) | (go_simp; rfl)) (k53_mkM _ _ _ (⟨⟨T1, T2⟩, ⟨U1, U2⟩⟩ : Spn)) (fun _ hk => hk.elim) (fun k hk => trivial) HA5.out.2.2.r HA5.out.2.2.below HA5.out.2.2.below.size (by have := HL.out; omega) ?_; intro v9 w9' ho hb hg hat; have HS6 := aS (show Js W0 w9' v9 (out ++ [(⟨⟨T1, T2⟩, ⟨U1, U2⟩⟩ : Spn)]) from ⟨ho, hb⟩); clear ho hb hg hat))
 go_ret2
 rw [HV4.out]
 exact ⟨_, rfl, HS6.out⟩
def bakL (ms ts : Int) (p : Rat) : List Spn × Int → Int → List Ed → List Spn × Int
 | r, _, [] => if r.2 = 0 then (r.1, 0) else ([], r.2)
 | r, b, x :: t =>
  if x.f1 < 0 then bakL ms ts p r (b + x.f0) t
  else if x.f2 = 0 then (if p = qq x.f1 ts then bakL ms ts p (addV r.1 (qq b ms) (qq (b + x.f0) ms) r.2) (b + x.f0) t else bakL ms ts p r (b + x.f0) t)
  else if ¬ qq b ms + (p + -qq x.f1 ts) * qq x.f3 x.f2 < qq b ms ∧ qq b ms + (p + -qq x.f1 ts) * qq x.f3 x.f2 < qq (b + x.f0) ms then bakL ms ts p (addV r.1 (qq b ms + (p + -qq x.f1 ts) * qq x.f3 x.f2) (qq b ms + (p + -qq x.f1 ts) * qq x.f3 x.f2) r.2) (b + x.f0) t
  else bakL ms ts p r (b + x.f0) t
theorem bakL_cons (ms ts : Int) (p : Rat) (r : List Spn × Int) (b : Int) (x : Ed) (t : List Ed) : bakL ms ts p r b (x :: t) =
  if x.f1 < 0 then bakL ms ts p r (b + x.f0) t
  else if x.f2 = 0 then (if p = qq x.f1 ts then bakL ms ts p (addV r.1 (qq b ms) (qq (b + x.f0) ms) r.2) (b + x.f0) t else bakL ms ts p r (b + x.f0) t)
  else if ¬ qq b ms + (p + -qq x.f1 ts) * qq x.f3 x.f2 < qq b ms ∧ qq b ms + (p + -qq x.f1 ts) * qq x.f3 x.f2 < qq (b + x.f0) ms then bakL ms ts p (addV r.1 (qq b ms + (p + -qq x.f1 ts) * qq x.f3 x.f2) (qq b ms + (p + -qq x.f1 ts) * qq x.f3 x.f2) r.2) (b + x.f0) t
  else bakL ms ts p r (b + x.f0) t := rfl
theorem bakL_err {ms ts : Int} {p : Rat} : ∀ {t : List Ed} {r : List Spn × Int} {b : Int}, r.2 = 2 → bakL ms ts p r b t = ([], 2)
 | [], r, b, h => by rw [bakL, if_neg (by rw [h]; decide), h]
 | x :: t, r, b, h => by
  have hA : ∀ u v, (addV r.1 u v r.2).2 = 2 := fun u v => by
   unfold addV
   rw [if_neg (fun hc => by rw [h] at hc; exact absurd hc.1 (by decide))]
  rw [bakL_cons]
  split
  ·exact bakL_err h
  split
  ·split
   ·exact bakL_err (hA _ _)
   exact bakL_err h
  split
  ·exact bakL_err (hA _ _)
  exact bakL_err h
theorem bak_bck {ms ts : Int} {p : Rat} : ∀ {t : List Ed} {out : List Spn} {b : Int}, (∀ x ∈ t, Vd x) → bakL ms ts p (out, 0) b t = bckL ms ts p out b t
 | [], out, b, _ => rfl
 | x :: t, out, b, h => by
  have ih := fun out b => bak_bck (ms := ms) (ts := ts) (p := p) (t := t) (out := out) (b := b) (fun y hy => h y (by simp [hy]))
  have hx := h x (by simp)
  have key : ∀ u v : Rat, bakL ms ts p (addV out u v 0) (b + x.f0) t = if (tmV u).2 = 0 ∧ (tmV v).2 = 0 then bckL ms ts p (out ++ [spn u v]) (b + x.f0) t else ([], 2) := fun u v => by
   unfold addV
   by_cases hc : (tmV u).2 = 0 ∧ (tmV v).2 = 0
   ·rw [if_pos ⟨rfl, hc⟩, if_pos hc, ih]
   rw [if_neg (fun hh => hc hh.2), if_neg hc, bakL_err rfl]
  rw [bakL_cons, bckL_cons]
  by_cases h1 : x.f1 < 0
  ·rw [if_pos h1, if_pos h1, ih]
  rw [if_neg h1, if_neg h1]
  by_cases h2 : x.f2 = 0
  ·rw [if_pos h2, if_pos h2]
   by_cases h3 : p = qq x.f1 ts
   ·rw [if_pos h3, if_pos (show p - qq x.f1 ts = 0 by rw [h3]; grind), key]
   rw [if_neg h3, if_neg (show ¬ p - qq x.f1 ts = 0 from fun hh => h3 (by grind)), ih]
  rw [if_neg h2, if_neg h2, ← Rat.sub_eq_add_neg]
  have hpos : 0 < qq x.f3 x.f2 := by
   have := hx.e0
   have := hx.n0
   have hz : qq 0 1 = 0 := by unfold qq; simp
   rw [← hz, qq_lt (by decide) (by omega)]
   omega
  have hiff : qq b ms + (p - qq x.f1 ts) * qq x.f3 x.f2 < qq b ms ↔ p - qq x.f1 ts < 0 := by
   generalize qq b ms = a at *
   generalize p - qq x.f1 ts = d at *
   generalize qq x.f3 x.f2 = z at *
   constructor
   ·intro hlt
    refine Rat.not_le.1 (fun hd => ?_)
    have := Rat.mul_nonneg hd (Rat.le_of_lt hpos)
    grind
   intro hd
   have := Rat.mul_pos (show 0 < -d by grind) hpos
   grind
  by_cases h3 : p - qq x.f1 ts < 0 ∨ ¬ qq b ms + (p - qq x.f1 ts) * qq x.f3 x.f2 < qq (b + x.f0) ms
  ·rw [if_pos h3, if_neg (fun hh => h3.elim (fun k => hh.1 (hiff.2 k)) (fun k => k hh.2)), ih]
  rw [if_neg h3, if_pos ⟨fun k => h3 (.inl (hiff.1 k)), Decidable.not_not.1 (fun k => h3 (.inr k))⟩, key]
  simp only [and_self]
def IntB (W : World) (k : Nat) : Prop := ∃ cs, W.heap[k]? = some (.cells cs 3 (0, 0))
def RT (w : World) (v : Value) (q : Rat) (n : Nat) : Prop := ∃ (b : Bool) (A1 : Option Addr) (c1 : Nat) (l1 : List Int) (A2 : Option Addr) (c2 : Nat) (l2 : List Int), v = .agg #[.bool b, .slice A1 l1.length c1, .slice A2 l2.length c2] ∧ Kd.V (Kd.int .i64) 3 w 0 (IntB w) (.slice A1 l1.length c1) l1 ∧ Kd.V (Kd.int .i64) 3 w 0 (IntB w) (.slice A2 l2.length c2) l2 ∧ RV b l1 l2 q n
theorem RT.rm {w : World} {v : Value} {q : Rat} {n : Nat} (h : RT w v q n) : RM w v q n := by
 obtain ⟨b, A1, c1, l1, A2, c2, l2, rfl, h1, h2, hv⟩ := h
 exact ⟨b, A1, c1, l1, A2, c2, l2, rfl, Kd.V_mono h1 (fun _ _ => trivial), Kd.V_mono h2 (fun _ _ => trivial), hv⟩
theorem RT.below {w w' : World} {v : Value} {q : Rat} {n : Nat} (h : RT w v q n) (hb : Below w.heap.size w w') : RT w' v q n := by
 obtain ⟨b, A1, c1, l1, A2, c2, l2, rfl, h1, h2, hv⟩ := h
 have hk : ∀ k, IntB w k → IntB w' k := fun k ⟨cs, h⟩ => ⟨cs, blk_below h hb⟩
 exact ⟨b, A1, c1, l1, A2, c2, l2, rfl, Kd.V_mono (Kd.V_below h1 hb) hk, Kd.V_mono (Kd.V_below h2 hb) hk, hv⟩
theorem RT.put {w : World} {v : Value} {q : Rat} {n g : Nat} {b : Bool} {u x : Value} (h : RT w v q n) (hg : w.heap[g]? = some (ratO b u x)) (j : Nat) (y : Value) : RT (w.setCell ⟨g, j, none⟩ y) v q n := by
 obtain ⟨b, A1, c1, l1, A2, c2, l2, rfl, h1, h2, hv⟩ := h
 have hne : ∀ k, IntB w k → k ≠ g := fun k ⟨cs, h⟩ he => by
  rw [he, hg] at h
  simp [ratO] at h
 have hk : ∀ k, IntB w k → IntB (w.setCell ⟨g, j, none⟩ y) k := fun k hkk => by
  obtain ⟨cs, h⟩ := hkk
  exact ⟨cs, by rw [Below.heap_setCell _ _ _ _ (hne k ⟨cs, h⟩)]; exact h⟩
 exact ⟨b, A1, c1, l1, A2, c2, l2, rfl, Kd.V_mono (Kd.V_far h1 (p := ⟨g, j, none⟩) hne y) hk, Kd.V_mono (Kd.V_far h2 (p := ⟨g, j, none⟩) hne y) hk, hv⟩
theorem RT.three {w : World} {v : Value} {q : Rat} {n g : Nat} {b : Bool} {u x : Value} (h : RT w v q n) (hg : w.heap[g]? = some (ratO b u x)) (b' : Bool) (u' x' : Value) : RT (((w.setCell ⟨g, 0, none⟩ (.bool b')).setCell ⟨g, 1, none⟩ u').setCell ⟨g, 2, none⟩ x') v q n := by
 have k1 : (w.setCell ⟨g, 0, none⟩ (.bool b')).heap[g]? = some (ratO b' u x) := blk_put (cs := #[.bool b, u, x]) hg 0 (.bool b') rfl
 have k2 : ((w.setCell ⟨g, 0, none⟩ (.bool b')).setCell ⟨g, 1, none⟩ u').heap[g]? = some (ratO b' u' x) := blk_put (cs := #[.bool b', u, x]) k1 1 u' rfl
 exact ((h.put hg 0 _).put k1 1 _).put k2 2 _
theorem RT.of {w : World} {B : Nat} {o1 o2 : Nat → Prop} {b : Bool} {v1 v2 : Value} {x y : List Int} {q : Rat} {n : Nat} (h1 : Kd.R (Kd.int .i64) 3 w B o1 v1 x) (h2 : Kd.R (Kd.int .i64) 3 w B o2 v2 y) (hv : RV b x y q n) : RT w (.agg #[.bool b, v1, v2]) q n := by
 have hk : ∀ (o : Nat → Prop) k, (o k ∧ B ≤ k ∧ k < w.heap.size ∧ ∃ q, q ∈ 3 :: (Kd.int .i64).E ∧ ∃ cells, w.heap[k]? = some (.cells cells q (0, 0))) → IntB w k := fun o k h => by
  obtain ⟨_, _, _, q, hq, cs, hc⟩ := h
  have : q = 3 := by
   rcases List.mem_cons.1 hq with h | h
   ·exact h
   cases h
  subst this
  exact ⟨cs, hc⟩
 obtain ⟨A1, c1, rfl⟩ := Kd.R_slice h1
 obtain ⟨A2, c2, rfl⟩ := Kd.R_slice h2
 have k1 := Kd.R_mono (Kd.R_bound h1) (hk o1)
 have k2 := Kd.R_mono (Kd.R_bound h2) (hk o2)
 exact ⟨b, A1, c1, x, A2, c2, y, rfl, Kd.R_V k1, Kd.R_V k2, hv⟩
def RP3 (w : World) (q : Rat) (n : Nat) (e : Ending) (w' : World) : Prop := ∃ v, e = .returned v ∧ Below w.heap.size w w' ∧ RT w' v q n
theorem ratioM3 (n d : Int) (w : World) (hn : -9223372036854775807 ≤ n) (hn1 : n ≤ 9223372036854775807) (hd : 0 < d) (hd1 : d ≤ 9223372036854775807) :
  Calls Tryz.prog 69 #[.int .i64 n, .int .i64 d] w (RP3 w (qq n d) 3) := by
 obtain ⟨b, x, y, he, hv⟩ := ratio_f n d hn hn1 hd hd1
 obtain ⟨k, hk⟩ := he.rounds
 refine (dioramaref10_ratio.calls k n d b x y w hk).mono ?_
 rintro e w' ⟨v1, v2, rfl, h1, h2, hb⟩
 exact ⟨_, rfl, hb, RT.of h1 h2 hv⟩
theorem plusM3 (u v : Value) (p q : Rat) (n m : Nat) (w : World) (h1 : RM w u p n) (h2 : RM w v q m) (hl : n + m + 2 ≤ 1000000) :
  Calls Tryz.prog 73 #[u, v] w (RP3 w (p + q) (n + m + 1)) := by
 obtain ⟨b1, A1, c1, l1, A2, c2, l2, rfl, k1, k2, g1⟩ := h1
 obtain ⟨b3, A3, c3, l3, A4, c4, l4, rfl, k3, k4, g2⟩ := h2
 obtain ⟨b, x, y, he, hv⟩ := plusR_f g1 g2 hl
 obtain ⟨k, hk⟩ := he.rounds
 obtain ⟨-, e1, r1⟩ := Kd.V_reads' k1
 obtain ⟨-, e2, r2⟩ := Kd.V_reads' k2
 obtain ⟨-, e3, r3⟩ := Kd.V_reads' k3
 obtain ⟨-, e4, r4⟩ := Kd.V_reads' k4
 refine (dioramaref10_plus.calls k b1 A1 c1 l1 A2 c2 l2 b3 A3 c3 l3 A4 c4 l4 b x y w r1 e1 r2 e2 r3 e3 r4 e4 hk).mono ?_
 rintro e w' ⟨v1, v2, rfl, h1, h2, hb⟩
 exact ⟨_, rfl, hb, RT.of h1 h2 hv⟩
theorem addV_len (out : List Spn) (p q : Rat) (e : Int) : (addV out p q e).1.length ≤ out.length + 1 := by
 unfold addV
 split <;> simp
theorem four_at {W : World} {ad : Addr} {n : Nat} {l : List Ed} {i : Int} (h : Kd.C k67 W (some ad) n l) (p0 : 0 ≤ i) (hlt : i < (n : Int)) :
  W.cell? (ad.add (i.toNat * 4)) = some (.int .i64 (rd_T67 l i).f0) ∧ W.cell? ⟨(ad.add (i.toNat * 4)).block, (ad.add (i.toNat * 4)).off + 1, none⟩ = some (.int .i64 (rd_T67 l i).f1) ∧
  W.cell? ⟨(ad.add (i.toNat * 4)).block, (ad.add (i.toNat * 4)).off + 2, none⟩ = some (.int .i64 (rd_T67 l i).f2) ∧ W.cell? ⟨(ad.add (i.toNat * 4)).block, (ad.add (i.toNat * 4)).off + 3, none⟩ = some (.int .i64 (rd_T67 l i).f3) := by
 obtain ⟨ad1, e1, a0, a1, a2, a3⟩ := at_T67 h i p0 hlt
 cases e1
 exact ⟨a0, a1, a2, a3⟩
def bakV (l : List Ed) (ms ts n d : Int) : List Spn × Int :=
 if chk l ms ts = 0 then (if Ea.valid n d = true then bakL ms ts (qq n d) ([], 0) 0 l else ([], 4)) else ([], chk l ms ts)
structure Bo (W : World) (g : Nat) (b : Bool) (u x : Value) (q : Rat) (n : Nat) : Prop where
 o : W.heap[g]? = some (ratO b u x)
 m : RM W (.agg #[.bool b, u, x]) q n
theorem Bo.step {W W2 : World} {g : Nat} {b : Bool} {u x : Value} {q : Rat} {n : Nat} (h : Bo W g b u x q n) (hb : Below W.heap.size W W2) : Bo W2 g b u x q n := ⟨blk_below h.o hb, h.m.below hb⟩
theorem Bo.new {W : World} {b : Bool} {u x : Value} {q : Rat} {n : Nat} (h : RM W (.agg #[.bool b, u, x]) q n) : Bo (W.alloc (ratO b u x)) W.heap.size b u x q n := ⟨blk_new W _, h.below (below_alloc (Below.refl _ W) _)⟩
theorem Bo.cells {W : World} {g : Nat} {b : Bool} {u x : Value} {q : Rat} {n : Nat} (h : Bo W g b u x q n) : W.cell? ⟨g, 0, none⟩ = some (.bool b) ∧ W.cell? ⟨g, 1, none⟩ = some u ∧ W.cell? ⟨g, 2, none⟩ = some x := ⟨(rat_cells h.o).1, (rat_cells h.o).2.1, (rat_cells h.o).2.2.1⟩
theorem two_put {w : World} {g h : Nat} {b1 b2 : Bool} {u1 x1 u2 x2 : Value} (hg : w.heap[g]? = some (ratO false (.slice none 0 0) (.slice none 0 0))) (hh : w.heap[h]? = some (ratO false (.slice none 0 0) (.slice none 0 0))) (hne : g ≠ h) :
  ((((((w.setCell ⟨g, 0, none⟩ (.bool b1)).setCell ⟨g, 1, none⟩ u1).setCell ⟨g, 2, none⟩ x1).setCell ⟨h, 0, none⟩ (.bool b2)).setCell ⟨h, 1, none⟩ u2).setCell ⟨h, 2, none⟩ x2).heap[g]? = some (ratO b1 u1 x1) ∧
  ((((((w.setCell ⟨g, 0, none⟩ (.bool b1)).setCell ⟨g, 1, none⟩ u1).setCell ⟨g, 2, none⟩ x1).setCell ⟨h, 0, none⟩ (.bool b2)).setCell ⟨h, 1, none⟩ u2).setCell ⟨h, 2, none⟩ x2).heap[h]? = some (ratO b2 u2 x2) := by
 have k1 := blk_three (x := .bool b1) (y := u1) (z := x1) hg
 have k2 : (((w.setCell ⟨g, 0, none⟩ (.bool b1)).setCell ⟨g, 1, none⟩ u1).setCell ⟨g, 2, none⟩ x1).heap[h]? = some (ratO false (.slice none 0 0) (.slice none 0 0)) := by
  rw [Below.heap_setCell _ _ _ _ (by simp only; omega), Below.heap_setCell _ _ _ _ (by simp only; omega), Below.heap_setCell _ _ _ _ (by simp only; omega)]
  exact hh
 generalize (((w.setCell ⟨g, 0, none⟩ (.bool b1)).setCell ⟨g, 1, none⟩ u1).setCell ⟨g, 2, none⟩ x1) = W at *
 refine ⟨?_, blk_three (x := .bool b2) (y := u2) (z := x2) k2⟩
 rw [Below.heap_setCell _ _ _ _ (by simp only; omega), Below.heap_setCell _ _ _ _ (by simp only; omega), Below.heap_setCell _ _ _ _ (by simp only; omega)]
 exact k1
theorem rback_n (A0 : Option Addr) (c0 : Nat) (l0 : List Ed) (a1 : Int) (a2 : Int) (n d : Int) (w : World) (hr0 : Kd.C k67 w A0 l0.length l0) (hc0 : l0.length ≤ c0) :
  Calls Tryz.prog 31 #[.slice A0 l0.length c0, .int .i64 a1, .int .i64 a2, .agg #[.int .i64 n, .int .i64 d]] w (SP w (bakV l0 a1 a2 n d)) := by
 have hu := Tryz.underlying67
 have hu2 := Tryz.underlying24
 have hu3 := Tryz.underlying53
 have hu4 := Tryz.underlying79
 have HR := aS (And.intro hr0 hc0)
 have HC := aS (fun W (hb : Below w.heap.size w W) => rcheck_n A0 c0 l0 a1 a2 W (Kd.C_below hr0 hb) hc0)
 have HV := aS (show bakV l0 a1 a2 n d = if chk l0 a1 a2 = 0 then (if Ea.valid n d = true then bakL a1 a2 (qq n d) ([], 0) 0 l0 else ([], 4)) else ([], chk l0 a1 a2) from rfl)
 have HO := aS (fun h0 : chk l0 a1 a2 = 0 => chk_ok.1 h0)
 generalize bakV l0 a1 a2 n d = V at *
 generalize chk l0 a1 a2 = C at *
 clear hr0 hc0
 have hM := aS (Mb.start w n d)
 go_enter Tryz.func31, Tryz.ntmps31
 go_wp2_with fail
 generalize hW : World.alloc w _ = W
 have HM := aS (show Mb w W n d by rw [← hW]; exact hM.out)
 clear hW hM
 refine (HC.out W HM.out.below).mono ?_
 rintro e w2 ⟨rfl, hb2⟩
 have HM2 := aS (HM.out.step hb2)
 clear hb2 HM HC
 by_cases hc : C = 0
 case neg =>
  have HV2 := aS (show V = ([], C) by rw [HV.out, if_neg hc])
  have hcb : (C == 0) = false := beq_eq_false_iff_ne.mpr hc
  have hcc : (C != 0) = true := bne_iff_ne.mpr hc
  clear HV HO hc
  go_wp2_with fail
  go_ret2
  rw [HV2.out]
  exact ⟨_, rfl, Kd.R_nil _ _ _ _ _, HM2.out.below⟩
 subst hc
 have HV2 := aS (show V = if Ea.valid n d = true then bakL a1 a2 (qq n d) ([], 0) 0 l0 else ([], 4) by rw [HV.out, if_pos rfl])
 have HCk := aS (HO.out rfl)
 clear HV HO
 obtain ⟨p0, p1, f0, f1⟩ := time_cells HM2.out.a
 go_wp2_with fail
 refine (rvalid_n n d w2).mono ?_
 rintro e w3 ⟨rfl, hb3⟩
 have HM3 := aS (HM2.out.step hb3)
 clear hb3 HM2 p0 p1 f0 f1
 cases hv : Ea.valid n d with
 | false =>
  have HV3 := aS (show V = ([], 4) by rw [HV2.out, hv, if_neg (by decide)])
  clear HV2 hv
  go_wp2_with fail
  go_ret2
  rw [HV3.out]
  exact ⟨_, rfl, Kd.R_nil _ _ _ _ _, HM3.out.below⟩
 | true =>
  have HV3 := aS (show V = bakL a1 a2 (qq n d) ([], 0) 0 l0 by rw [HV2.out, hv, if_pos rfl])
  have HX := aS (show (-1152921504606846976 ≤ n ∧ n ≤ 1152921504606846976) ∧ 1 ≤ d ∧ d ≤ 1152921504606846976 by unfold Ea.valid at hv; simp only [Bool.and_eq_true, decide_eq_true_eq] at hv; omega)
  obtain ⟨p0, p1, f0, f1⟩ := time_cells HM3.out.a
  clear HV2 hv
  go_wp2_with fail
  refine (ratOfM n d w3 (by have := HX.out; omega) (by have := HX.out; omega) (by have := HX.out; omega) (by have := HX.out; omega)).mono ?_
  rintro e w5 hp5
  obtain ⟨bm, Ama, nma, cma, Amb, nmb, cmb, rfl, hb5, hm5⟩ := RP.parts hp5
  have H5 := aS (And.intro (Bo.new hm5) (HM3.out.below.trans ((hb5.trans ((below_alloc (Below.refl w5.heap.size w5) (ratO bm (.slice Ama nma cma) (.slice Amb nmb cmb))).mono hb5.size)).mono HM3.out.below.size)))
  clear hb5 hm5 hp5 HM3 HX p0 p1 f0 f1
  generalize qq n d = q at *
  go_wp2_with fail
  generalize hW6 : World.alloc w5 _ = W0
  have HM := aS (show Bo W0 w5.heap.size bm (.slice Ama nma cma) (.slice Amb nmb cmb) q 3 ∧ Below w.heap.size w W0 by rw [← hW6]; exact H5.out)
  clear hW6 H5
  generalize w5.heap.size = gm at *
  go_loopg [10, 11, 13, 14] l0.length (fun kq v10 v11 v13 v14 w' => ∃ (out : List Spn) (e b i : Int), v10 = .int .i64 e ∧ v13 = .int .i64 b ∧ v14 = .int .i64 i ∧ Aside0 ((0 ≤ i ∧ i + kq = l0.length ∧ b = sumD (l0.take i.toNat)) ∧ out.length ≤ i.toNat) ∧ Aside0 (V = bakL a1 a2 q (out, e) b (l0.drop i.toNat)) ∧ Aside0 (Js W0 w' v11 out))
  case atStart => exact ⟨[], 0, 0, 0, rfl, rfl, rfl, ⟨⟨by simp, by simp, by simp [sumD]⟩, by simp⟩, ⟨by rw [HV3.out]; simp⟩, ⟨⟨Kd.R_nil _ _ _ _ _, Below.refl _ _⟩⟩⟩
  case round =>
   clear HV3
   obtain ⟨out, e, b, i, rfl, rfl, rfl, hi, hL, hM⟩ := hrel
   by_cases hlt : i < (l0.length : Int)
   ·have p0 := hi.out.1.1
    have HA := aS (At.of p0 hlt hi.out.1.2.2 HCk.out.2.2.1 HCk.out.2.2.2)
    have HWB := aS (fun W (hb : Below W0.heap.size W0 W) => HM.out.2.trans (hb.mono HM.out.2.size))
    obtain ⟨ad, hA, q0, q1, q2, q3⟩ := at_T67 (Kd.C_below HR.out.1 (HWB.out wr hM.out.below)) i p0 hlt
    subst hA
    have HQ := aS (fun W (hb : Below W0.heap.size W0 W) => four_at (Kd.C_below HR.out.1 (HWB.out W hb)) p0 hlt)
    obtain ⟨k1, rfl⟩ : ∃ k, gk = k + 1 := ⟨gk - 1, by have := hi.out.1.2; omega⟩
    generalize rd_T67 l0 i = X at *
    have hwi : wrap64 (i + 1) = i + 1 := by
     have := HCk.out.2.1
     exact w64 (by omega) (by omega)
    have hwb : wrap64 (b + X.f0) = b + X.f0 := w64 (by have := HA.out.b0; have := HA.out.vd.d0; omega) (by have := HA.out.b1; omega)
    have HW := aS (And.intro (And.intro hwi hwb) (show (0 ≤ i + 1 ∧ i + 1 + (k1 : Int) = l0.length ∧ b + X.f0 = sumD (l0.take (i + 1).toNat)) ∧ out.length ≤ (i + 1).toNat ∧ out.length + 1 ≤ (i + 1).toNat ∧ out.length ≤ 100 from ⟨⟨by omega, by have := hi.out.1.2.1; omega, HA.out.sum⟩, by have := hi.out; have := HCk.out.2.1; omega⟩))
    have HL := aS (show V = bakL a1 a2 q (out, e) b (X :: l0.drop (i + 1).toNat) by rw [hL.out, HA.out.drop])
    replace p0 := eq_true p0
    replace hlt := eq_true hlt
    clear hwi hwb hi hL q0 q1 q2 q3
    have HI := aS (show ((-9223372036854775807 ≤ b ∧ b ≤ 9223372036854775807) ∧ (-9223372036854775807 ≤ wrap64 (b + X.f0) ∧ wrap64 (b + X.f0) ≤ 9223372036854775807)) ∧ (0 < a1 ∧ a1 ≤ 9223372036854775807) ∧ (0 < a2 ∧ a2 ≤ 9223372036854775807) by
     have := HA.out.b0
     have := HA.out.b1
     have := HA.out.vd.d0
     have := HCk.out.1.m0
     have := HCk.out.1.m1
     have := HCk.out.1.t0
     have := HCk.out.1.t1
     rw [HW.out.1.2]
     omega)
    have HJ := aS (show (-9223372036854775807 ≤ X.f1 ∧ X.f1 ≤ 9223372036854775807) ∧ (0 ≤ X.f2 ∧ X.f2 ≤ 9223372036854775807) ∧ (-9223372036854775807 ≤ X.f3 ∧ X.f3 ≤ 9223372036854775807) by
     have := HA.out.vd.m0
     have := HA.out.vd.m1
     have := HA.out.vd.n0
     have := HA.out.vd.n1
     have := HA.out.vd.e0
     have := HA.out.vd.e1
     omega)
    have HME := aS (show (X.f1 == -1) = decide (X.f1 < 0) by
     have := HA.out.vd.m0
     by_cases h : X.f1 < 0
     ·rw [decide_eq_true h, beq_iff_eq]
      omega
     rw [decide_eq_false h, beq_eq_false_iff_ne]
     omega)
    clear HA
    go_upto_region 11 with fail
    have hb0 : Below wr.heap.size wr wr.drew := below_drew' (Below.refl _ _)
    refine start_ (n := 16) (S := fun w' => w'.cell? (ad.add (i.toNat * 4)) = some (.int .i64 X.f0)) (ds := [14, 15]) (bs 16 0) (by kernel_rfl) rfl rfl (HQ.out _ (Rn.Js.step hM.out hb0).below).1 (fun hHeld => ?_)
    refine zP 0 41 16 1 ?_
    refine zP 1 42 16 3 ?_
    refine zP 3 44 16 11 ?_
    refine zP 4 45 16 27 ?_
    refine zP 5 46 16 59 ?_
    refine zP 6 47 16 123 ?_
    refine zP 7 48 16 251 ?_
    refine zP 10 51 16 1275 ?_
    refine zT 8 49 16 1531 hHeld ?_
    refine zP 9 50 16 2043 ?_
    refine join_ (σ := Value × Value × Nat × Nat) 2 (bs 16 16383) (fun ⟨v2, v3, g12, g13⟩ => [(43, v2), (52, v3), (15, .pointer (some ⟨g12, 0, none⟩)), (16, .pointer (some ⟨g13, 0, none⟩))]) (fun ⟨v2, v3, g12, g13⟩ w' => Below wr.heap.size wr w' ∧ (RT w' v2 (qq b a1) 3) ∧ (RT w' v3 (qq (wrap64 (b + X.f0)) a1) 3) ∧ (wr.heap.size ≤ g12 ∧ w'.heap[g12]? = some (.cells #[.bool false, .slice none 0 0, .slice none 0 0] 79)) ∧ (wr.heap.size ≤ g13 ∧ w'.heap[g13]? = some (.cells #[.bool false, .slice none 0 0, .slice none 0 0] 79)) ∧ (g12 ≠ g13)) ?_ (fun hq_2_11_12_13 => ?_)
    rotate_left
    ·
     refine join_ (σ := Value × Value × Nat × Nat) 3 (bs 16 14335) (fun ⟨v2, _, g12, g13⟩ => [(43, v2), (15, .pointer (some ⟨g12, 0, none⟩)), (16, .pointer (some ⟨g13, 0, none⟩))]) (fun ⟨v2, _, g12, g13⟩ w' => Below wr.heap.size wr w' ∧ (RT w' v2 (qq b a1) 3) ∧ (wr.heap.size ≤ g12 ∧ w'.heap[g12]? = some (.cells #[.bool false, .slice none 0 0, .slice none 0 0] 79)) ∧ (wr.heap.size ≤ g13 ∧ w'.heap[g13]? = some (.cells #[.bool false, .slice none 0 0, .slice none 0 0] 79)) ∧ (g12 ≠ g13)) ?_ (fun hq_2_12_13 => ?_)
     ·rintro ⟨v2, v3, g12, g13⟩ w' ⟨hB, f2, f12, f13, ne12_13⟩
      refine norm_ (a' := ?_) ?_ ?_; rotate_left; (exact aQ)
      refine one_ (i := 11) (N := some 52) (bs 16 16383) rfl rfl (by kernel_rfl) (by decide) (fun K hK => ?_)
      ·
       refine goes_ Tryz.func69 (by kernel_rfl) rfl #[.int .i64 (wrap64 (b + X.f0)), .int .i64 a1] (by rfl) rfl rfl (by simp only [List.map_toArray, List.map_cons, List.map_nil]; rfl) ?_
       with_reducible refine (ratioM3 (wrap64 (b + X.f0)) a1 w' HI.out.1.2.1 HI.out.1.2.2 HI.out.2.1.1 HI.out.2.1.2).mono ?_
       rintro e w9 ⟨v3, rfl, hb9, n11⟩
       refine ⟨_, rfl, ?_⟩
       have hB9 := hB.trans (hb9.mono hB.size)
       refine hK.out _ _ (HQ.out _ (Rn.Js.step hM.out hB9).below).1 (fun hHeld => ?_)
       clear hK K
       refine norm_ ?_ (hq_2_11_12_13 ⟨v2, v3, g12, g13⟩ _ ⟨hB9, f2.below hb9, n11, ⟨f12.1, blk_below f12.2 hb9⟩, ⟨f13.1, blk_below f13.2 hb9⟩, ne12_13⟩); (exact aP)
     refine join_ (σ := Value × Value × Nat × Nat) 3 (bs 16 12287) (fun ⟨v2, v3, _, g13⟩ => [(43, v2), (52, v3), (16, .pointer (some ⟨g13, 0, none⟩))]) (fun ⟨v2, v3, _, g13⟩ w' => Below wr.heap.size wr w' ∧ (RT w' v2 (qq b a1) 3) ∧ (RT w' v3 (qq (wrap64 (b + X.f0)) a1) 3) ∧ (wr.heap.size ≤ g13 ∧ w'.heap[g13]? = some (.cells #[.bool false, .slice none 0 0, .slice none 0 0] 79))) ?_ (fun hq_2_11_13 => ?_)
     ·rintro ⟨v2, v3, g12, g13⟩ w' ⟨hB, f2, f11, f13⟩
      refine norm_ (a' := ?_) ?_ ?_; rotate_left; (exact aQ)
      refine one_ (i := 12) (N := some 15) (bs 16 16383) rfl rfl (by kernel_rfl) (by decide) (fun K hK => ?_)
      ·
       refine value_ (v := .pointer (some ⟨w'.heap.size, 0, none⟩)) (w1 := w'.alloc (.cells #[.bool false, .slice none 0 0, .slice none 0 0] 79)) (by rfl) rfl ?_ ?_
       ·go_simp
       have hb9 : Below w'.heap.size w' (w'.alloc (.cells #[.bool false, .slice none 0 0, .slice none 0 0] 79)) := below_alloc (Below.refl _ _) _
       have n12 := blk_new w' (.cells #[.bool false, .slice none 0 0, .slice none 0 0] 79)
       have hB9 := hB.trans (hb9.mono hB.size)
       refine hK.out _ _ (HQ.out _ (Rn.Js.step hM.out hB9).below).1 (fun hHeld => ?_)
       clear hK K
       refine norm_ ?_ (hq_2_11_12_13 ⟨v2, v3, w'.heap.size, g13⟩ _ ⟨hB9, f2.below hb9, f11.below hb9, ⟨hB.size, n12⟩, ⟨f13.1, blk_below f13.2 hb9⟩, (by have := lt_of_some f13.2; omega)⟩); (exact aP)
     refine join_ (σ := Value × Value × Nat × Nat) 3 (bs 16 8191) (fun ⟨v2, v3, g12, _⟩ => [(43, v2), (52, v3), (15, .pointer (some ⟨g12, 0, none⟩))]) (fun ⟨v2, v3, g12, _⟩ w' => Below wr.heap.size wr w' ∧ (RT w' v2 (qq b a1) 3) ∧ (RT w' v3 (qq (wrap64 (b + X.f0)) a1) 3) ∧ (wr.heap.size ≤ g12 ∧ w'.heap[g12]? = some (.cells #[.bool false, .slice none 0 0, .slice none 0 0] 79))) ?_ (fun hq_2_11_12 => ?_)
     ·rintro ⟨v2, v3, g12, g13⟩ w' ⟨hB, f2, f11, f12⟩
      refine norm_ (a' := ?_) ?_ ?_; rotate_left; (exact aQ)
      refine one_ (i := 13) (N := some 16) (bs 16 16383) rfl rfl (by kernel_rfl) (by decide) (fun K hK => ?_)
      ·
       refine value_ (v := .pointer (some ⟨w'.heap.size, 0, none⟩)) (w1 := w'.alloc (.cells #[.bool false, .slice none 0 0, .slice none 0 0] 79)) (by rfl) rfl ?_ ?_
       ·go_simp
       have hb9 : Below w'.heap.size w' (w'.alloc (.cells #[.bool false, .slice none 0 0, .slice none 0 0] 79)) := below_alloc (Below.refl _ _) _
       have n13 := blk_new w' (.cells #[.bool false, .slice none 0 0, .slice none 0 0] 79)
       have hB9 := hB.trans (hb9.mono hB.size)
       refine hK.out _ _ (HQ.out _ (Rn.Js.step hM.out hB9).below).1 (fun hHeld => ?_)
       clear hK K
       refine norm_ ?_ (hq_2_11_12_13 ⟨v2, v3, g12, w'.heap.size⟩ _ ⟨hB9, f2.below hb9, f11.below hb9, ⟨f12.1, blk_below f12.2 hb9⟩, ⟨hB.size, n13⟩, (by have := lt_of_some f12.2; omega)⟩); (exact aP)
     refine join_ (σ := Value × Value × Nat × Nat) 4 (bs 16 10239) (fun ⟨v2, _, _, g13⟩ => [(43, v2), (16, .pointer (some ⟨g13, 0, none⟩))]) (fun ⟨v2, _, _, g13⟩ w' => Below wr.heap.size wr w' ∧ (RT w' v2 (qq b a1) 3) ∧ (wr.heap.size ≤ g13 ∧ w'.heap[g13]? = some (.cells #[.bool false, .slice none 0 0, .slice none 0 0] 79))) ?_ (fun hq_2_13 => ?_)
     ·rintro ⟨v2, v3, g12, g13⟩ w' ⟨hB, f2, f13⟩
      refine norm_ (a' := ?_) ?_ ?_; rotate_left; (exact aQ)
      refine two_ (i := 11) (j := 12) (Ni := some 52) (Nj := some 15) (bs 16 12287) (bs 16 14335) rfl rfl rfl rfl (by kernel_rfl) (by decide) (by decide) (fun K hK => ?_) (fun K hK => ?_)
      ·
       refine goes_ Tryz.func69 (by kernel_rfl) rfl #[.int .i64 (wrap64 (b + X.f0)), .int .i64 a1] (by rfl) rfl rfl (by simp only [List.map_toArray, List.map_cons, List.map_nil]; rfl) ?_
       with_reducible refine (ratioM3 (wrap64 (b + X.f0)) a1 w' HI.out.1.2.1 HI.out.1.2.2 HI.out.2.1.1 HI.out.2.1.2).mono ?_
       rintro e w9 ⟨v3, rfl, hb9, n11⟩
       refine ⟨_, rfl, ?_⟩
       have hB9 := hB.trans (hb9.mono hB.size)
       refine hK.out _ _ (HQ.out _ (Rn.Js.step hM.out hB9).below).1 (fun hHeld => ?_)
       clear hK K
       refine norm_ ?_ (hq_2_11_13 ⟨v2, v3, 0, g13⟩ _ ⟨hB9, f2.below hb9, n11, ⟨f13.1, blk_below f13.2 hb9⟩⟩); (exact aP)
      ·
       refine value_ (v := .pointer (some ⟨w'.heap.size, 0, none⟩)) (w1 := w'.alloc (.cells #[.bool false, .slice none 0 0, .slice none 0 0] 79)) (by rfl) rfl ?_ ?_
       ·go_simp
       have hb9 : Below w'.heap.size w' (w'.alloc (.cells #[.bool false, .slice none 0 0, .slice none 0 0] 79)) := below_alloc (Below.refl _ _) _
       have n12 := blk_new w' (.cells #[.bool false, .slice none 0 0, .slice none 0 0] 79)
       have hB9 := hB.trans (hb9.mono hB.size)
       refine hK.out _ _ (HQ.out _ (Rn.Js.step hM.out hB9).below).1 (fun hHeld => ?_)
       clear hK K
       refine norm_ ?_ (hq_2_12_13 ⟨v2, .bool false, w'.heap.size, g13⟩ _ ⟨hB9, f2.below hb9, ⟨hB.size, n12⟩, ⟨f13.1, blk_below f13.2 hb9⟩, (by have := lt_of_some f13.2; omega)⟩); (exact aP)
     refine join_ (σ := Value × Value × Nat × Nat) 4 (bs 16 14331) (fun ⟨_, _, g12, g13⟩ => [(15, .pointer (some ⟨g12, 0, none⟩)), (16, .pointer (some ⟨g13, 0, none⟩))]) (fun ⟨_, _, g12, g13⟩ w' => Below wr.heap.size wr w' ∧ (wr.heap.size ≤ g12 ∧ w'.heap[g12]? = some (.cells #[.bool false, .slice none 0 0, .slice none 0 0] 79)) ∧ (wr.heap.size ≤ g13 ∧ w'.heap[g13]? = some (.cells #[.bool false, .slice none 0 0, .slice none 0 0] 79)) ∧ (g12 ≠ g13)) ?_ (fun hq_12_13 => ?_)
     ·rintro ⟨v2, v3, g12, g13⟩ w' ⟨hB, f12, f13, ne12_13⟩
      refine norm_ (a' := ?_) ?_ ?_; rotate_left; (exact aQ)
      refine one_ (i := 2) (N := some 43) (bs 16 14335) rfl rfl (by kernel_rfl) (by decide) (fun K hK => ?_)
      ·
       refine goes_ Tryz.func69 (by kernel_rfl) rfl #[.int .i64 b, .int .i64 a1] (by rfl) rfl rfl (by simp only [List.map_toArray, List.map_cons, List.map_nil]; rfl) ?_
       with_reducible refine (ratioM3 b a1 w' HI.out.1.1.1 HI.out.1.1.2 HI.out.2.1.1 HI.out.2.1.2).mono ?_
       rintro e w9 ⟨v2, rfl, hb9, n2⟩
       refine ⟨_, rfl, ?_⟩
       have hB9 := hB.trans (hb9.mono hB.size)
       refine hK.out _ _ (HQ.out _ (Rn.Js.step hM.out hB9).below).1 (fun hHeld => ?_)
       clear hK K
       refine norm_ ?_ (hq_2_12_13 ⟨v2, .bool false, g12, g13⟩ _ ⟨hB9, n2, ⟨f12.1, blk_below f12.2 hb9⟩, ⟨f13.1, blk_below f13.2 hb9⟩, ne12_13⟩); (exact aP)
     refine join_ (σ := Value × Value × Nat × Nat) 4 (bs 16 6143) (fun ⟨v2, _, g12, _⟩ => [(43, v2), (15, .pointer (some ⟨g12, 0, none⟩))]) (fun ⟨v2, _, g12, _⟩ w' => Below wr.heap.size wr w' ∧ (RT w' v2 (qq b a1) 3) ∧ (wr.heap.size ≤ g12 ∧ w'.heap[g12]? = some (.cells #[.bool false, .slice none 0 0, .slice none 0 0] 79))) ?_ (fun hq_2_12 => ?_)
     ·rintro ⟨v2, v3, g12, g13⟩ w' ⟨hB, f2, f12⟩
      refine norm_ (a' := ?_) ?_ ?_; rotate_left; (exact aQ)
      refine two_ (i := 11) (j := 13) (Ni := some 52) (Nj := some 16) (bs 16 8191) (bs 16 14335) rfl rfl rfl rfl (by kernel_rfl) (by decide) (by decide) (fun K hK => ?_) (fun K hK => ?_)
      ·
       refine goes_ Tryz.func69 (by kernel_rfl) rfl #[.int .i64 (wrap64 (b + X.f0)), .int .i64 a1] (by rfl) rfl rfl (by simp only [List.map_toArray, List.map_cons, List.map_nil]; rfl) ?_
       with_reducible refine (ratioM3 (wrap64 (b + X.f0)) a1 w' HI.out.1.2.1 HI.out.1.2.2 HI.out.2.1.1 HI.out.2.1.2).mono ?_
       rintro e w9 ⟨v3, rfl, hb9, n11⟩
       refine ⟨_, rfl, ?_⟩
       have hB9 := hB.trans (hb9.mono hB.size)
       refine hK.out _ _ (HQ.out _ (Rn.Js.step hM.out hB9).below).1 (fun hHeld => ?_)
       clear hK K
       refine norm_ ?_ (hq_2_11_12 ⟨v2, v3, g12, 0⟩ _ ⟨hB9, f2.below hb9, n11, ⟨f12.1, blk_below f12.2 hb9⟩⟩); (exact aP)
      ·
       refine value_ (v := .pointer (some ⟨w'.heap.size, 0, none⟩)) (w1 := w'.alloc (.cells #[.bool false, .slice none 0 0, .slice none 0 0] 79)) (by rfl) rfl ?_ ?_
       ·go_simp
       have hb9 : Below w'.heap.size w' (w'.alloc (.cells #[.bool false, .slice none 0 0, .slice none 0 0] 79)) := below_alloc (Below.refl _ _) _
       have n13 := blk_new w' (.cells #[.bool false, .slice none 0 0, .slice none 0 0] 79)
       have hB9 := hB.trans (hb9.mono hB.size)
       refine hK.out _ _ (HQ.out _ (Rn.Js.step hM.out hB9).below).1 (fun hHeld => ?_)
       clear hK K
       refine norm_ ?_ (hq_2_12_13 ⟨v2, .bool false, g12, w'.heap.size⟩ _ ⟨hB9, f2.below hb9, ⟨f12.1, blk_below f12.2 hb9⟩, ⟨hB.size, n13⟩, (by have := lt_of_some f12.2; omega)⟩); (exact aP)
     refine join_ (σ := Value × Value × Nat × Nat) 4 (bs 16 4095) (fun ⟨v2, v3, _, _⟩ => [(43, v2), (52, v3)]) (fun ⟨v2, v3, _, _⟩ w' => Below wr.heap.size wr w' ∧ (RT w' v2 (qq b a1) 3) ∧ (RT w' v3 (qq (wrap64 (b + X.f0)) a1) 3)) ?_ (fun hq_2_11 => ?_)
     ·rintro ⟨v2, v3, g12, g13⟩ w' ⟨hB, f2, f11⟩
      refine norm_ (a' := ?_) ?_ ?_; rotate_left; (exact aQ)
      refine two_ (i := 12) (j := 13) (Ni := some 15) (Nj := some 16) (bs 16 8191) (bs 16 12287) rfl rfl rfl rfl (by kernel_rfl) (by decide) (by decide) (fun K hK => ?_) (fun K hK => ?_)
      ·
       refine value_ (v := .pointer (some ⟨w'.heap.size, 0, none⟩)) (w1 := w'.alloc (.cells #[.bool false, .slice none 0 0, .slice none 0 0] 79)) (by rfl) rfl ?_ ?_
       ·go_simp
       have hb9 : Below w'.heap.size w' (w'.alloc (.cells #[.bool false, .slice none 0 0, .slice none 0 0] 79)) := below_alloc (Below.refl _ _) _
       have n12 := blk_new w' (.cells #[.bool false, .slice none 0 0, .slice none 0 0] 79)
       have hB9 := hB.trans (hb9.mono hB.size)
       refine hK.out _ _ (HQ.out _ (Rn.Js.step hM.out hB9).below).1 (fun hHeld => ?_)
       clear hK K
       refine norm_ ?_ (hq_2_11_12 ⟨v2, v3, w'.heap.size, 0⟩ _ ⟨hB9, f2.below hb9, f11.below hb9, ⟨hB.size, n12⟩⟩); (exact aP)
      ·
       refine value_ (v := .pointer (some ⟨w'.heap.size, 0, none⟩)) (w1 := w'.alloc (.cells #[.bool false, .slice none 0 0, .slice none 0 0] 79)) (by rfl) rfl ?_ ?_
       ·go_simp
       have hb9 : Below w'.heap.size w' (w'.alloc (.cells #[.bool false, .slice none 0 0, .slice none 0 0] 79)) := below_alloc (Below.refl _ _) _
       have n13 := blk_new w' (.cells #[.bool false, .slice none 0 0, .slice none 0 0] 79)
       have hB9 := hB.trans (hb9.mono hB.size)
       refine hK.out _ _ (HQ.out _ (Rn.Js.step hM.out hB9).below).1 (fun hHeld => ?_)
       clear hK K
       refine norm_ ?_ (hq_2_11_13 ⟨v2, v3, 0, w'.heap.size⟩ _ ⟨hB9, f2.below hb9, f11.below hb9, ⟨hB.size, n13⟩⟩); (exact aP)
     refine join_ (σ := Value × Value × Nat × Nat) 5 (bs 16 2047) (fun ⟨v2, _, _, _⟩ => [(43, v2)]) (fun ⟨v2, _, _, _⟩ w' => Below wr.heap.size wr w' ∧ (RT w' v2 (qq b a1) 3)) ?_ (fun hq_2 => ?_)
     ·rintro ⟨v2, v3, g12, g13⟩ w' ⟨hB, f2⟩
      refine norm_ (a' := ?_) ?_ ?_; rotate_left; (exact aQ)
      refine three_ (i := 11) (j := 12) (k := 13) (Ni := some 52) (Nj := some 15) (Nk := some 16) (bs 16 4095) (bs 16 6143) (bs 16 10239) rfl rfl rfl rfl rfl rfl (by kernel_rfl) (by decide) (by decide) (by decide) (fun K hK => ?_) (fun K hK => ?_) (fun K hK => ?_)
      ·
       refine goes_ Tryz.func69 (by kernel_rfl) rfl #[.int .i64 (wrap64 (b + X.f0)), .int .i64 a1] (by rfl) rfl rfl (by simp only [List.map_toArray, List.map_cons, List.map_nil]; rfl) ?_
       with_reducible refine (ratioM3 (wrap64 (b + X.f0)) a1 w' HI.out.1.2.1 HI.out.1.2.2 HI.out.2.1.1 HI.out.2.1.2).mono ?_
       rintro e w9 ⟨v3, rfl, hb9, n11⟩
       refine ⟨_, rfl, ?_⟩
       have hB9 := hB.trans (hb9.mono hB.size)
       refine hK.out _ _ (HQ.out _ (Rn.Js.step hM.out hB9).below).1 (fun hHeld => ?_)
       clear hK K
       refine norm_ ?_ (hq_2_11 ⟨v2, v3, 0, 0⟩ _ ⟨hB9, f2.below hb9, n11⟩); (exact aP)
      ·
       refine value_ (v := .pointer (some ⟨w'.heap.size, 0, none⟩)) (w1 := w'.alloc (.cells #[.bool false, .slice none 0 0, .slice none 0 0] 79)) (by rfl) rfl ?_ ?_
       ·go_simp
       have hb9 : Below w'.heap.size w' (w'.alloc (.cells #[.bool false, .slice none 0 0, .slice none 0 0] 79)) := below_alloc (Below.refl _ _) _
       have n12 := blk_new w' (.cells #[.bool false, .slice none 0 0, .slice none 0 0] 79)
       have hB9 := hB.trans (hb9.mono hB.size)
       refine hK.out _ _ (HQ.out _ (Rn.Js.step hM.out hB9).below).1 (fun hHeld => ?_)
       clear hK K
       refine norm_ ?_ (hq_2_12 ⟨v2, .bool false, w'.heap.size, 0⟩ _ ⟨hB9, f2.below hb9, ⟨hB.size, n12⟩⟩); (exact aP)
      ·
       refine value_ (v := .pointer (some ⟨w'.heap.size, 0, none⟩)) (w1 := w'.alloc (.cells #[.bool false, .slice none 0 0, .slice none 0 0] 79)) (by rfl) rfl ?_ ?_
       ·go_simp
       have hb9 : Below w'.heap.size w' (w'.alloc (.cells #[.bool false, .slice none 0 0, .slice none 0 0] 79)) := below_alloc (Below.refl _ _) _
       have n13 := blk_new w' (.cells #[.bool false, .slice none 0 0, .slice none 0 0] 79)
       have hB9 := hB.trans (hb9.mono hB.size)
       refine hK.out _ _ (HQ.out _ (Rn.Js.step hM.out hB9).below).1 (fun hHeld => ?_)
       clear hK K
       refine norm_ ?_ (hq_2_13 ⟨v2, .bool false, 0, w'.heap.size⟩ _ ⟨hB9, f2.below hb9, ⟨hB.size, n13⟩⟩); (exact aP)
     refine join_ (σ := Value × Value × Nat × Nat) 5 (bs 16 6139) (fun ⟨_, _, g12, _⟩ => [(15, .pointer (some ⟨g12, 0, none⟩))]) (fun ⟨_, _, g12, _⟩ w' => Below wr.heap.size wr w' ∧ (wr.heap.size ≤ g12 ∧ w'.heap[g12]? = some (.cells #[.bool false, .slice none 0 0, .slice none 0 0] 79))) ?_ (fun hq_12 => ?_)
     ·rintro ⟨v2, v3, g12, g13⟩ w' ⟨hB, f12⟩
      refine norm_ (a' := ?_) ?_ ?_; rotate_left; (exact aQ)
      refine two_ (i := 2) (j := 13) (Ni := some 43) (Nj := some 16) (bs 16 6143) (bs 16 14331) rfl rfl rfl rfl (by kernel_rfl) (by decide) (by decide) (fun K hK => ?_) (fun K hK => ?_)
      ·
       refine goes_ Tryz.func69 (by kernel_rfl) rfl #[.int .i64 b, .int .i64 a1] (by rfl) rfl rfl (by simp only [List.map_toArray, List.map_cons, List.map_nil]; rfl) ?_
       with_reducible refine (ratioM3 b a1 w' HI.out.1.1.1 HI.out.1.1.2 HI.out.2.1.1 HI.out.2.1.2).mono ?_
       rintro e w9 ⟨v2, rfl, hb9, n2⟩
       refine ⟨_, rfl, ?_⟩
       have hB9 := hB.trans (hb9.mono hB.size)
       refine hK.out _ _ (HQ.out _ (Rn.Js.step hM.out hB9).below).1 (fun hHeld => ?_)
       clear hK K
       refine norm_ ?_ (hq_2_12 ⟨v2, .bool false, g12, 0⟩ _ ⟨hB9, n2, ⟨f12.1, blk_below f12.2 hb9⟩⟩); (exact aP)
      ·
       refine value_ (v := .pointer (some ⟨w'.heap.size, 0, none⟩)) (w1 := w'.alloc (.cells #[.bool false, .slice none 0 0, .slice none 0 0] 79)) (by rfl) rfl ?_ ?_
       ·go_simp
       have hb9 : Below w'.heap.size w' (w'.alloc (.cells #[.bool false, .slice none 0 0, .slice none 0 0] 79)) := below_alloc (Below.refl _ _) _
       have n13 := blk_new w' (.cells #[.bool false, .slice none 0 0, .slice none 0 0] 79)
       have hB9 := hB.trans (hb9.mono hB.size)
       refine hK.out _ _ (HQ.out _ (Rn.Js.step hM.out hB9).below).1 (fun hHeld => ?_)
       clear hK K
       refine norm_ ?_ (hq_12_13 ⟨.bool false, .bool false, g12, w'.heap.size⟩ _ ⟨hB9, ⟨f12.1, blk_below f12.2 hb9⟩, ⟨hB.size, n13⟩, (by have := lt_of_some f12.2; omega)⟩); (exact aP)
     refine join_ (σ := Value × Value × Nat × Nat) 5 (bs 16 10235) (fun ⟨_, _, _, g13⟩ => [(16, .pointer (some ⟨g13, 0, none⟩))]) (fun ⟨_, _, _, g13⟩ w' => Below wr.heap.size wr w' ∧ (wr.heap.size ≤ g13 ∧ w'.heap[g13]? = some (.cells #[.bool false, .slice none 0 0, .slice none 0 0] 79))) ?_ (fun hq_13 => ?_)
     ·rintro ⟨v2, v3, g12, g13⟩ w' ⟨hB, f13⟩
      refine norm_ (a' := ?_) ?_ ?_; rotate_left; (exact aQ)
      refine two_ (i := 2) (j := 12) (Ni := some 43) (Nj := some 15) (bs 16 10239) (bs 16 14331) rfl rfl rfl rfl (by kernel_rfl) (by decide) (by decide) (fun K hK => ?_) (fun K hK => ?_)
      ·
       refine goes_ Tryz.func69 (by kernel_rfl) rfl #[.int .i64 b, .int .i64 a1] (by rfl) rfl rfl (by simp only [List.map_toArray, List.map_cons, List.map_nil]; rfl) ?_
       with_reducible refine (ratioM3 b a1 w' HI.out.1.1.1 HI.out.1.1.2 HI.out.2.1.1 HI.out.2.1.2).mono ?_
       rintro e w9 ⟨v2, rfl, hb9, n2⟩
       refine ⟨_, rfl, ?_⟩
       have hB9 := hB.trans (hb9.mono hB.size)
       refine hK.out _ _ (HQ.out _ (Rn.Js.step hM.out hB9).below).1 (fun hHeld => ?_)
       clear hK K
       refine norm_ ?_ (hq_2_13 ⟨v2, .bool false, 0, g13⟩ _ ⟨hB9, n2, ⟨f13.1, blk_below f13.2 hb9⟩⟩); (exact aP)
      ·
       refine value_ (v := .pointer (some ⟨w'.heap.size, 0, none⟩)) (w1 := w'.alloc (.cells #[.bool false, .slice none 0 0, .slice none 0 0] 79)) (by rfl) rfl ?_ ?_
       ·go_simp
       have hb9 : Below w'.heap.size w' (w'.alloc (.cells #[.bool false, .slice none 0 0, .slice none 0 0] 79)) := below_alloc (Below.refl _ _) _
       have n12 := blk_new w' (.cells #[.bool false, .slice none 0 0, .slice none 0 0] 79)
       have hB9 := hB.trans (hb9.mono hB.size)
       refine hK.out _ _ (HQ.out _ (Rn.Js.step hM.out hB9).below).1 (fun hHeld => ?_)
       clear hK K
       refine norm_ ?_ (hq_12_13 ⟨.bool false, .bool false, w'.heap.size, g13⟩ _ ⟨hB9, ⟨hB.size, n12⟩, ⟨f13.1, blk_below f13.2 hb9⟩, (by have := lt_of_some f13.2; omega)⟩); (exact aP)
     have hB := below_drew' (Below.refl _ wr.drew)
     refine three_ (i := 2) (j := 12) (k := 13) (Ni := some 43) (Nj := some 15) (Nk := some 16) (bs 16 2047) (bs 16 6139) (bs 16 10235) rfl rfl rfl rfl rfl rfl (by kernel_rfl) (by decide) (by decide) (by decide) (fun K hK => ?_) (fun K hK => ?_) (fun K hK => ?_)
     ·
      refine goes_ Tryz.func69 (by kernel_rfl) rfl #[.int .i64 b, .int .i64 a1] (by rfl) rfl rfl (by simp only [List.map_toArray, List.map_cons, List.map_nil]; rfl) ?_
      with_reducible refine (ratioM3 b a1 wr.drew HI.out.1.1.1 HI.out.1.1.2 HI.out.2.1.1 HI.out.2.1.2).mono ?_
      rintro e w9 ⟨v2, rfl, hb9, n2⟩
      refine ⟨_, rfl, ?_⟩
      have hB9 := hB.trans (hb9.mono hB.size)
      refine hK.out _ _ (HQ.out _ (Rn.Js.step hM.out hB9).below).1 (fun hHeld => ?_)
      clear hK K
      refine norm_ ?_ (hq_2 ⟨v2, .bool false, 0, 0⟩ _ ⟨hB9, n2⟩); (exact aP)
     ·
      refine value_ (v := .pointer (some ⟨wr.drew.heap.size, 0, none⟩)) (w1 := wr.drew.alloc (.cells #[.bool false, .slice none 0 0, .slice none 0 0] 79)) (by rfl) rfl ?_ ?_
      ·go_simp
      have hb9 : Below wr.drew.heap.size wr.drew (wr.drew.alloc (.cells #[.bool false, .slice none 0 0, .slice none 0 0] 79)) := below_alloc (Below.refl _ _) _
      have n12 := blk_new wr.drew (.cells #[.bool false, .slice none 0 0, .slice none 0 0] 79)
      have hB9 := hB.trans (hb9.mono hB.size)
      refine hK.out _ _ (HQ.out _ (Rn.Js.step hM.out hB9).below).1 (fun hHeld => ?_)
      clear hK K
      refine norm_ ?_ (hq_12 ⟨.bool false, .bool false, wr.drew.heap.size, 0⟩ _ ⟨hB9, ⟨hB.size, n12⟩⟩); (exact aP)
     ·
      refine value_ (v := .pointer (some ⟨wr.drew.heap.size, 0, none⟩)) (w1 := wr.drew.alloc (.cells #[.bool false, .slice none 0 0, .slice none 0 0] 79)) (by rfl) rfl ?_ ?_
      ·go_simp
      have hb9 : Below wr.drew.heap.size wr.drew (wr.drew.alloc (.cells #[.bool false, .slice none 0 0, .slice none 0 0] 79)) := below_alloc (Below.refl _ _) _
      have n13 := blk_new wr.drew (.cells #[.bool false, .slice none 0 0, .slice none 0 0] 79)
      have hB9 := hB.trans (hb9.mono hB.size)
      refine hK.out _ _ (HQ.out _ (Rn.Js.step hM.out hB9).below).1 (fun hHeld => ?_)
      clear hK K
      refine norm_ ?_ (hq_13 ⟨.bool false, .bool false, 0, wr.drew.heap.size⟩ _ ⟨hB9, ⟨hB.size, n13⟩⟩); (exact aP)
    rintro ⟨v2, v3, g12, g13⟩ w' ⟨hB, f2, f11, f12, f13, ne12_13⟩
    refine norm_ (a' := ?_) ?_ ?_; rotate_left; (exact aQ)
    have hHeld : w'.cell? (ad.add (i.toNat * 4)) = some (.int .i64 X.f0) := (HQ.out _ (Rn.Js.step hM.out hB).below).1
    refine zL 14 none 16 32767 (fun K hK => ?_)
    obtain ⟨b2, A2a, n2a, c2a, A2b, n2b, c2b, rfl⟩ := RM.form f2.rm
    obtain ⟨b3, A3a, n3a, c3a, A3b, n3b, c3b, rfl⟩ := RM.form f11.rm
    obtain ⟨_, _, _, s3, s4, s5⟩ := rat_cells f12.2
    obtain ⟨_, _, _, s6, s7, s8⟩ := rat_cells f13.2
    refine skip_ (w1 := ?_) (by rfl) rfl ?_ ?_
    rotate_left
    ·(go_simp; with_reducible rfl)
    refine hK.out _ _ ?_
    clear hK K
    refine zL 15 none 16 65535 (fun K hK => ?_)
    refine skip_ (w1 := ?_) (by rfl) rfl ?_ ?_
    rotate_left
    ·(go_simp; with_reducible rfl)
    refine hK.out _ _ ?_
    clear hK K
    refine done_ (by kernel_rfl) ?_
    have hz := two_put (b1 := b2) (u1 := (.slice A2a n2a c2a)) (x1 := (.slice A2b n2b c2b)) (b2 := b3) (u2 := (.slice A3a n3a c3a)) (x2 := (.slice A3b n3b c3b)) f12.2 f13.2 ne12_13
    have hbF : Below wr.heap.size wr ((((((w'.setCell ⟨g12, 0, none⟩ (.bool b2)).setCell ⟨g12, 1, none⟩ (.slice A2a n2a c2a)).setCell ⟨g12, 2, none⟩ (.slice A2b n2b c2b)).setCell ⟨g13, 0, none⟩ (.bool b3)).setCell ⟨g13, 1, none⟩ (.slice A3a n3a c3a)).setCell ⟨g13, 2, none⟩ (.slice A3b n3b c3b)) := (((((hB.setCell f12.1 _).setCell f12.1 _).setCell f12.1 _).setCell f13.1 _).setCell f13.1 _).setCell f13.1 _
    have k1b := (f2.three f12.2 b2 (.slice A2a n2a c2a) (.slice A2b n2b c2b)).three (show (((w'.setCell ⟨g12, 0, none⟩ (.bool b2)).setCell ⟨g12, 1, none⟩ (.slice A2a n2a c2a)).setCell ⟨g12, 2, none⟩ (.slice A2b n2b c2b)).heap[g13]? = some (ratO false (.slice none 0 0) (.slice none 0 0)) by
     rw [Below.heap_setCell _ _ _ _ (by simp only; omega), Below.heap_setCell _ _ _ _ (by simp only; omega), Below.heap_setCell _ _ _ _ (by simp only; omega)]
     exact f13.2) b3 (.slice A3a n3a c3a) (.slice A3b n3b c3b)
    have k2b := (f11.three f12.2 b2 (.slice A2a n2a c2a) (.slice A2b n2b c2b)).three (show (((w'.setCell ⟨g12, 0, none⟩ (.bool b2)).setCell ⟨g12, 1, none⟩ (.slice A2a n2a c2a)).setCell ⟨g12, 2, none⟩ (.slice A2b n2b c2b)).heap[g13]? = some (ratO false (.slice none 0 0) (.slice none 0 0)) by
     rw [Below.heap_setCell _ _ _ _ (by simp only; omega), Below.heap_setCell _ _ _ _ (by simp only; omega), Below.heap_setCell _ _ _ _ (by simp only; omega)]
     exact f13.2) b3 (.slice A3a n3a c3a) (.slice A3b n3b c3b)
    generalize hFW : (((((w'.setCell ⟨g12, 0, none⟩ (.bool b2)).setCell ⟨g12, 1, none⟩ (.slice A2a n2a c2a)).setCell ⟨g12, 2, none⟩ (.slice A2b n2b c2b)).setCell ⟨g13, 0, none⟩ (.bool b3)).setCell ⟨g13, 1, none⟩ (.slice A3a n3a c3a)).setCell ⟨g13, 2, none⟩ (.slice A3b n3b c3b) = FW at *
    have HF := aS (show (Bo FW g12 b2 (.slice A2a n2a c2a) (.slice A2b n2b c2b) (qq b a1) 3 ∧ Bo FW g13 b3 (.slice A3a n3a c3a) (.slice A3b n3b c3b) (qq (b + X.f0) a1) 3) ∧ Js W0 FW u11 out from ⟨⟨⟨hz.1, k1b.rm⟩, hz.2, by rw [← HW.out.1.2]; exact k2b.rm⟩, Rn.Js.step hM.out hbF⟩)
    clear hz hbF hFW hB f2 f11 f12 f13 ne12_13 k1b k2b hHeld hb0 hM
    obtain ⟨c0, c1, c2, c3⟩ := HQ.out FW HF.out.2.below
    go_wp2_with fail
    refine (rempty_n X FW).mono ?_
    rintro en w9 ⟨rfl, hb9⟩
    have H9 := aS (And.intro (And.intro (HF.out.1.1.step hb9) (HF.out.1.2.step hb9)) (Rn.Js.step HF.out.2 hb9))
    rw [HME.out]
    clear hb9 HF HME c0 c1 c2 c3
    by_cases hm : X.f1 < 0
    ·rw [decide_eq_true hm]
     have HL2 := aS (show V = bakL a1 a2 q (out, e) (b + X.f0) (l0.drop (i + 1).toNat) by rw [HL.out, bakL_cons, if_pos hm])
     clear HL hm
     go_wp2_with fail
     go_roundg k1
     case measure => omega
     case rel => exact ⟨out, e, b + X.f0, i + 1, rfl, by rw [HW.out.1.2], by rw [HW.out.1.1], ⟨HW.out.2.1, HW.out.2.2.1⟩, HL2, ⟨H9.out.2⟩⟩
    rw [decide_eq_false hm]
    have hl := HL.out
    rw [bakL_cons, if_neg hm] at hl
    have HL1 := aS hl
    clear hl HL hm
    obtain ⟨c0, c1, c2, c3⟩ := HQ.out w9 H9.out.2.below
    go_wp2_with fail
    refine (ratioM3 X.f1 a2 w9 HJ.out.1.1 HJ.out.1.2 HI.out.2.2.1 HI.out.2.2.2).mono ?_
    rintro en w10 ⟨v4, rfl, hb10, hm10⟩
    obtain ⟨b4, A4a, n4a, c4a, A4b, n4b, c4b, rfl⟩ := RM.form hm10.rm
    have HN := aS (Bo.new hm10.rm)
    have HB10 := aS (hb10.trans ((below_alloc (Below.refl w10.heap.size w10) (ratO b4 (.slice A4a n4a c4a) (.slice A4b n4b c4b))).mono hb10.size))
    clear hb10 hm10 c0 c1 c2 c3
    go_upto_region 15 with fail
    generalize hW11 : World.alloc w10 _ = W11
    have H11 := aS (show ((Bo W11 g12 b2 (.slice A2a n2a c2a) (.slice A2b n2b c2b) (qq b a1) 3 ∧ Bo W11 g13 b3 (.slice A3a n3a c3a) (.slice A3b n3b c3b) (qq (b + X.f0) a1) 3) ∧ Bo W11 w10.heap.size b4 (.slice A4a n4a c4a) (.slice A4b n4b c4b) (qq X.f1 a2) 3) ∧ Js W0 W11 u11 out by
     rw [← hW11]
     exact ⟨⟨⟨H9.out.1.1.step HB10.out, H9.out.1.2.step HB10.out⟩, HN.out⟩, Rn.Js.step H9.out.2 HB10.out⟩)
    clear hW11 HB10 HN H9
    generalize w10.heap.size = gf at *
    have HMW := aS (fun W (hb : Below W0.heap.size W0 W) => HM.out.1.step hb)
    obtain ⟨c0, c1, c2, c3⟩ := HQ.out W11 H11.out.2.below
    by_cases hz : X.f2 = 0
    ·have hzb : (X.f2 == 0) = true := beq_iff_eq.2 hz
     have hl := HL1.out
     rw [if_pos hz] at hl
     replace HL1 := aS hl
     obtain ⟨m0, m1, m2⟩ := (HMW.out W11 H11.out.2.below).cells
     obtain ⟨n0, n1, n2⟩ := H11.out.1.2.cells
     clear hl hz
     go_wp2_with fail
     refine (equalM (.agg #[.bool bm, (.slice Ama nma cma), (.slice Amb nmb cmb)]) (.agg #[.bool b4, (.slice A4a n4a c4a), (.slice A4b n4b c4b)]) q (qq X.f1 a2) 3 3 W11 (HMW.out W11 H11.out.2.below).m H11.out.1.2.m (by decide)).mono ?_
     rintro en w12 ⟨rfl, hb12⟩
     have H12 := aS (And.intro (And.intro (H11.out.1.1.1.step hb12) (H11.out.1.1.2.step hb12)) (Rn.Js.step H11.out.2 hb12))
     clear hb12 H11 m0 m1 m2 n0 n1 n2 c0 c1 c2 c3
     by_cases hq : q = qq X.f1 a2
     ·rw [decide_eq_true hq]
      obtain ⟨⟨o2, e2⟩, hAV⟩ : ∃ r, addV out (qq b a1) (qq (b + X.f0) a1) e = r := ⟨_, rfl⟩
      have HAD := aS (fun W (h1 : Js W0 W u11 out) h2 h3 => addedM W0 W u11 (.agg #[.bool b2, (.slice A2a n2a c2a), (.slice A2b n2b c2b)]) (.agg #[.bool b3, (.slice A3a n3a c3a), (.slice A3b n3b c3b)]) out (qq b a1) (qq (b + X.f0) a1) 3 3 e h1 h2 h3 (by decide) (by decide) HW.out.2.2.2.2)
      have HAL := addV_len out (qq b a1) (qq (b + X.f0) a1) e
      rw [hAV] at HAD HAL
      have HL2 := aS (show V = bakL a1 a2 q (o2, e2) (b + X.f0) (l0.drop (i + 1).toNat) by rw [HL1.out, if_pos hq, hAV])
      have HLN := aS (show o2.length ≤ (i + 1).toNat by have := HW.out.2.2.2.1; have h2 : o2.length ≤ out.length + 1 := HAL; omega)
      obtain ⟨m0, m1, m2⟩ := H12.out.1.1.cells
      obtain ⟨n0, n1, n2⟩ := H12.out.1.2.cells
      clear HL1 hq hAV HAL
      go_wp2_with fail
      refine (HAD.out w12 H12.out.2 H12.out.1.1.m H12.out.1.2.m).mono ?_
      rintro en w13 ⟨v13, rfl, hj⟩
      have HJ13 := aS hj
      clear hj H12 HAD m0 m1 m2 n0 n1 n2
      go_wp2_with fail
      go_roundg k1
      case measure => omega
      case rel => exact ⟨o2, e2, b + X.f0, i + 1, rfl, by rw [HW.out.1.2], by rw [HW.out.1.1], ⟨HW.out.2.1, HLN.out⟩, HL2, ⟨HJ13.out⟩⟩
     rw [decide_eq_false hq]
     have HL2 := aS (show V = bakL a1 a2 q (out, e) (b + X.f0) (l0.drop (i + 1).toNat) by rw [HL1.out, if_neg hq])
     clear HL1 hq
     go_wp2_with fail
     go_roundg k1
     case measure => omega
     case rel => exact ⟨out, e, b + X.f0, i + 1, rfl, by rw [HW.out.1.2], by rw [HW.out.1.1], ⟨HW.out.2.1, HW.out.2.2.1⟩, HL2, ⟨H12.out.2⟩⟩
    have hzb : (X.f2 == 0) = false := beq_eq_false_iff_ne.2 hz
    have hl := HL1.out
    rw [if_neg hz] at hl
    replace HL1 := aS hl
    have HP := aS (show 0 < X.f2 by have := HJ.out.2.1.1; omega)
    clear hl hz
    go_upto_region 18 with fail
    have hb0 : Below W11.heap.size W11 W11.drew := below_drew' (Below.refl _ _)
    clear c0 c1 c2 c3
    have HSP := aS (fun W (hb : Below W11.heap.size W11 W) => And.intro (H11.out.1.1.1.step hb).cells (And.intro (HMW.out W (H11.out.2.below.trans (hb.mono H11.out.2.below.size))).cells (And.intro (H11.out.1.2.step hb).cells (HQ.out W (H11.out.2.below.trans (hb.mono H11.out.2.below.size))))))
    refine start_ (n := 20) (S := fun w' => w'.cell? ⟨g12, 0, none⟩ = some (.bool b2) ∧ w'.cell? ⟨g12, 1, none⟩ = some (.slice A2a n2a c2a) ∧ w'.cell? ⟨g12, 2, none⟩ = some (.slice A2b n2b c2b) ∧ w'.cell? ⟨gm, 0, none⟩ = some (.bool bm) ∧ w'.cell? ⟨gm, 1, none⟩ = some (.slice Ama nma cma) ∧ w'.cell? ⟨gm, 2, none⟩ = some (.slice Amb nmb cmb) ∧ w'.cell? ⟨gf, 0, none⟩ = some (.bool b4) ∧ w'.cell? ⟨gf, 1, none⟩ = some (.slice A4a n4a c4a) ∧ w'.cell? ⟨gf, 2, none⟩ = some (.slice A4b n4b c4b) ∧ w'.cell? ⟨(ad.add (i.toNat * 4)).block, (ad.add (i.toNat * 4)).off + 2, none⟩ = some (.int .i64 X.f2) ∧ w'.cell? ⟨(ad.add (i.toNat * 4)).block, (ad.add (i.toNat * 4)).off + 3, none⟩ = some (.int .i64 X.f3)) (ds := [19]) (bs 20 0) (by kernel_rfl) rfl rfl ⟨(HSP.out _ hb0).1.1, (HSP.out _ hb0).1.2.1, (HSP.out _ hb0).1.2.2, (HSP.out _ hb0).2.1.1, (HSP.out _ hb0).2.1.2.1, (HSP.out _ hb0).2.1.2.2, (HSP.out _ hb0).2.2.1.1, (HSP.out _ hb0).2.2.1.2.1, (HSP.out _ hb0).2.2.1.2.2, (HSP.out _ hb0).2.2.2.2.2.1, (HSP.out _ hb0).2.2.2.2.2.2⟩ (fun hHeld => ?_)
    refine zP 5 94 20 32 ?_
    refine zP 6 95 20 96 ?_
    refine zP 7 96 20 224 ?_
    refine zP 8 97 20 480 ?_
    refine zP 10 99 20 1504 ?_
    refine zP 11 100 20 3552 ?_
    refine zP 12 101 20 7648 ?_
    refine zP 13 102 20 15840 ?_
    refine zT 0 89 20 15841 hHeld ?_
    refine zT 1 90 20 15843 hHeld ?_
    refine zT 2 91 20 15847 hHeld ?_
    refine zT 9 98 20 16359 hHeld ?_
    refine zT 14 103 20 32743 hHeld ?_
    refine join_ (σ := Value × Value × Value × Value × Value × Nat) 1 (bs 20 524287) (fun ⟨v3, v4, v15, v16, v5, g18⟩ => [(92, v3), (93, v4), (104, v15), (105, v16), (106, v5), (18, .pointer (some ⟨g18, 0, none⟩))]) (fun ⟨v3, v4, v15, v16, v5, g18⟩ w' => Below W11.heap.size W11 w' ∧ (RM w' v3 (-qq X.f1 a2) 3) ∧ (RM w' v4 (q + -qq X.f1 a2) 7) ∧ (RM w' v15 (qq X.f3 X.f2) 3) ∧ (RM w' v16 ((q + -qq X.f1 a2) * qq X.f3 X.f2) 10) ∧ (RT w' v5 (qq b a1 + (q + -qq X.f1 a2) * qq X.f3 X.f2) 14) ∧ (W11.heap.size ≤ g18 ∧ w'.heap[g18]? = some (.cells #[.bool false, .slice none 0 0, .slice none 0 0] 79))) ?_ (fun hq_3_4_15_16_17_18 => ?_)
    rotate_left
    ·
     refine join_ (σ := Value × Value × Value × Value × Value × Nat) 2 (bs 20 393215) (fun ⟨v3, v4, v15, v16, _, g18⟩ => [(92, v3), (93, v4), (104, v15), (105, v16), (18, .pointer (some ⟨g18, 0, none⟩))]) (fun ⟨v3, v4, v15, v16, _, g18⟩ w' => Below W11.heap.size W11 w' ∧ (RM w' v3 (-qq X.f1 a2) 3) ∧ (RM w' v4 (q + -qq X.f1 a2) 7) ∧ (RM w' v15 (qq X.f3 X.f2) 3) ∧ (RM w' v16 ((q + -qq X.f1 a2) * qq X.f3 X.f2) 10) ∧ (W11.heap.size ≤ g18 ∧ w'.heap[g18]? = some (.cells #[.bool false, .slice none 0 0, .slice none 0 0] 79))) ?_ (fun hq_3_4_15_16_18 => ?_)
     ·rintro ⟨v3, v4, v15, v16, v5, g18⟩ w' ⟨hB, f3, f4, f15, f16, f18⟩
      refine norm_ (a' := ?_) ?_ ?_; rotate_left; (exact aQ)
      refine one_ (i := 17) (N := some 106) (bs 20 524287) rfl rfl (by kernel_rfl) (by decide) (fun K hK => ?_)
      ·
       refine goes_ Tryz.func73 (by kernel_rfl) rfl #[.agg #[.bool b2, (.slice A2a n2a c2a), (.slice A2b n2b c2b)], v16] (by rfl) rfl rfl (by simp only [List.map_toArray, List.map_cons, List.map_nil]; rfl) ?_
       with_reducible refine (plusM3 (.agg #[.bool b2, (.slice A2a n2a c2a), (.slice A2b n2b c2b)]) v16 (qq b a1) ((q + -qq X.f1 a2) * qq X.f3 X.f2) 3 10 w' (H11.out.1.1.1.step hB).m f16 (by decide)).mono ?_
       rintro e w9 ⟨v5, rfl, hb9, n17⟩
       refine ⟨_, rfl, ?_⟩
       have hB9 := hB.trans (hb9.mono hB.size)
       refine hK.out _ _ ⟨(HSP.out _ hB9).1.1, (HSP.out _ hB9).1.2.1, (HSP.out _ hB9).1.2.2, (HSP.out _ hB9).2.1.1, (HSP.out _ hB9).2.1.2.1, (HSP.out _ hB9).2.1.2.2, (HSP.out _ hB9).2.2.1.1, (HSP.out _ hB9).2.2.1.2.1, (HSP.out _ hB9).2.2.1.2.2, (HSP.out _ hB9).2.2.2.2.2.1, (HSP.out _ hB9).2.2.2.2.2.2⟩ (fun hHeld => ?_)
       clear hK K
       refine norm_ ?_ (hq_3_4_15_16_17_18 ⟨v3, v4, v15, v16, v5, g18⟩ _ ⟨hB9, f3.below hb9, f4.below hb9, f15.below hb9, f16.below hb9, n17, ⟨f18.1, blk_below f18.2 hb9⟩⟩); (exact aP)
     refine join_ (σ := Value × Value × Value × Value × Value × Nat) 2 (bs 20 262143) (fun ⟨v3, v4, v15, v16, v5, _⟩ => [(92, v3), (93, v4), (104, v15), (105, v16), (106, v5)]) (fun ⟨v3, v4, v15, v16, v5, _⟩ w' => Below W11.heap.size W11 w' ∧ (RM w' v3 (-qq X.f1 a2) 3) ∧ (RM w' v4 (q + -qq X.f1 a2) 7) ∧ (RM w' v15 (qq X.f3 X.f2) 3) ∧ (RM w' v16 ((q + -qq X.f1 a2) * qq X.f3 X.f2) 10) ∧ (RT w' v5 (qq b a1 + (q + -qq X.f1 a2) * qq X.f3 X.f2) 14)) ?_ (fun hq_3_4_15_16_17 => ?_)
     ·rintro ⟨v3, v4, v15, v16, v5, g18⟩ w' ⟨hB, f3, f4, f15, f16, f17⟩
      refine norm_ (a' := ?_) ?_ ?_; rotate_left; (exact aQ)
      refine one_ (i := 18) (N := some 18) (bs 20 524287) rfl rfl (by kernel_rfl) (by decide) (fun K hK => ?_)
      ·
       refine value_ (v := .pointer (some ⟨w'.heap.size, 0, none⟩)) (w1 := w'.alloc (.cells #[.bool false, .slice none 0 0, .slice none 0 0] 79)) (by rfl) rfl ?_ ?_
       ·go_simp
       have hb9 : Below w'.heap.size w' (w'.alloc (.cells #[.bool false, .slice none 0 0, .slice none 0 0] 79)) := below_alloc (Below.refl _ _) _
       have n18 := blk_new w' (.cells #[.bool false, .slice none 0 0, .slice none 0 0] 79)
       have hB9 := hB.trans (hb9.mono hB.size)
       refine hK.out _ _ ⟨(HSP.out _ hB9).1.1, (HSP.out _ hB9).1.2.1, (HSP.out _ hB9).1.2.2, (HSP.out _ hB9).2.1.1, (HSP.out _ hB9).2.1.2.1, (HSP.out _ hB9).2.1.2.2, (HSP.out _ hB9).2.2.1.1, (HSP.out _ hB9).2.2.1.2.1, (HSP.out _ hB9).2.2.1.2.2, (HSP.out _ hB9).2.2.2.2.2.1, (HSP.out _ hB9).2.2.2.2.2.2⟩ (fun hHeld => ?_)
       clear hK K
       refine norm_ ?_ (hq_3_4_15_16_17_18 ⟨v3, v4, v15, v16, v5, w'.heap.size⟩ _ ⟨hB9, f3.below hb9, f4.below hb9, f15.below hb9, f16.below hb9, f17.below hb9, ⟨hB.size, n18⟩⟩); (exact aP)
     refine join_ (σ := Value × Value × Value × Value × Value × Nat) 3 (bs 20 327679) (fun ⟨v3, v4, v15, _, _, g18⟩ => [(92, v3), (93, v4), (104, v15), (18, .pointer (some ⟨g18, 0, none⟩))]) (fun ⟨v3, v4, v15, _, _, g18⟩ w' => Below W11.heap.size W11 w' ∧ (RM w' v3 (-qq X.f1 a2) 3) ∧ (RM w' v4 (q + -qq X.f1 a2) 7) ∧ (RM w' v15 (qq X.f3 X.f2) 3) ∧ (W11.heap.size ≤ g18 ∧ w'.heap[g18]? = some (.cells #[.bool false, .slice none 0 0, .slice none 0 0] 79))) ?_ (fun hq_3_4_15_18 => ?_)
     ·rintro ⟨v3, v4, v15, v16, v5, g18⟩ w' ⟨hB, f3, f4, f15, f18⟩
      refine norm_ (a' := ?_) ?_ ?_; rotate_left; (exact aQ)
      refine one_ (i := 16) (N := some 105) (bs 20 393215) rfl rfl (by kernel_rfl) (by decide) (fun K hK => ?_)
      ·
       refine goes_ Tryz.func74 (by kernel_rfl) rfl #[v4, v15] (by rfl) rfl rfl (by simp only [List.map_toArray, List.map_cons, List.map_nil]; rfl) ?_
       with_reducible refine (timesM v4 v15 (q + -qq X.f1 a2) (qq X.f3 X.f2) 7 3 w' f4 f15 (by decide)).mono ?_
       rintro e w9 ⟨v16, rfl, hb9, n16⟩
       refine ⟨_, rfl, ?_⟩
       have hB9 := hB.trans (hb9.mono hB.size)
       refine hK.out _ _ ⟨(HSP.out _ hB9).1.1, (HSP.out _ hB9).1.2.1, (HSP.out _ hB9).1.2.2, (HSP.out _ hB9).2.1.1, (HSP.out _ hB9).2.1.2.1, (HSP.out _ hB9).2.1.2.2, (HSP.out _ hB9).2.2.1.1, (HSP.out _ hB9).2.2.1.2.1, (HSP.out _ hB9).2.2.1.2.2, (HSP.out _ hB9).2.2.2.2.2.1, (HSP.out _ hB9).2.2.2.2.2.2⟩ (fun hHeld => ?_)
       clear hK K
       refine norm_ ?_ (hq_3_4_15_16_18 ⟨v3, v4, v15, v16, .bool false, g18⟩ _ ⟨hB9, f3.below hb9, f4.below hb9, f15.below hb9, n16, ⟨f18.1, blk_below f18.2 hb9⟩⟩); (exact aP)
     refine join_ (σ := Value × Value × Value × Value × Value × Nat) 3 (bs 20 131071) (fun ⟨v3, v4, v15, v16, _, _⟩ => [(92, v3), (93, v4), (104, v15), (105, v16)]) (fun ⟨v3, v4, v15, v16, _, _⟩ w' => Below W11.heap.size W11 w' ∧ (RM w' v3 (-qq X.f1 a2) 3) ∧ (RM w' v4 (q + -qq X.f1 a2) 7) ∧ (RM w' v15 (qq X.f3 X.f2) 3) ∧ (RM w' v16 ((q + -qq X.f1 a2) * qq X.f3 X.f2) 10)) ?_ (fun hq_3_4_15_16 => ?_)
     ·rintro ⟨v3, v4, v15, v16, v5, g18⟩ w' ⟨hB, f3, f4, f15, f16⟩
      refine norm_ (a' := ?_) ?_ ?_; rotate_left; (exact aQ)
      refine two_ (i := 17) (j := 18) (Ni := some 106) (Nj := some 18) (bs 20 262143) (bs 20 393215) rfl rfl rfl rfl (by kernel_rfl) (by decide) (by decide) (fun K hK => ?_) (fun K hK => ?_)
      ·
       refine goes_ Tryz.func73 (by kernel_rfl) rfl #[.agg #[.bool b2, (.slice A2a n2a c2a), (.slice A2b n2b c2b)], v16] (by rfl) rfl rfl (by simp only [List.map_toArray, List.map_cons, List.map_nil]; rfl) ?_
       with_reducible refine (plusM3 (.agg #[.bool b2, (.slice A2a n2a c2a), (.slice A2b n2b c2b)]) v16 (qq b a1) ((q + -qq X.f1 a2) * qq X.f3 X.f2) 3 10 w' (H11.out.1.1.1.step hB).m f16 (by decide)).mono ?_
       rintro e w9 ⟨v5, rfl, hb9, n17⟩
       refine ⟨_, rfl, ?_⟩
       have hB9 := hB.trans (hb9.mono hB.size)
       refine hK.out _ _ ⟨(HSP.out _ hB9).1.1, (HSP.out _ hB9).1.2.1, (HSP.out _ hB9).1.2.2, (HSP.out _ hB9).2.1.1, (HSP.out _ hB9).2.1.2.1, (HSP.out _ hB9).2.1.2.2, (HSP.out _ hB9).2.2.1.1, (HSP.out _ hB9).2.2.1.2.1, (HSP.out _ hB9).2.2.1.2.2, (HSP.out _ hB9).2.2.2.2.2.1, (HSP.out _ hB9).2.2.2.2.2.2⟩ (fun hHeld => ?_)
       clear hK K
       refine norm_ ?_ (hq_3_4_15_16_17 ⟨v3, v4, v15, v16, v5, 0⟩ _ ⟨hB9, f3.below hb9, f4.below hb9, f15.below hb9, f16.below hb9, n17⟩); (exact aP)
      ·
       refine value_ (v := .pointer (some ⟨w'.heap.size, 0, none⟩)) (w1 := w'.alloc (.cells #[.bool false, .slice none 0 0, .slice none 0 0] 79)) (by rfl) rfl ?_ ?_
       ·go_simp
       have hb9 : Below w'.heap.size w' (w'.alloc (.cells #[.bool false, .slice none 0 0, .slice none 0 0] 79)) := below_alloc (Below.refl _ _) _
       have n18 := blk_new w' (.cells #[.bool false, .slice none 0 0, .slice none 0 0] 79)
       have hB9 := hB.trans (hb9.mono hB.size)
       refine hK.out _ _ ⟨(HSP.out _ hB9).1.1, (HSP.out _ hB9).1.2.1, (HSP.out _ hB9).1.2.2, (HSP.out _ hB9).2.1.1, (HSP.out _ hB9).2.1.2.1, (HSP.out _ hB9).2.1.2.2, (HSP.out _ hB9).2.2.1.1, (HSP.out _ hB9).2.2.1.2.1, (HSP.out _ hB9).2.2.1.2.2, (HSP.out _ hB9).2.2.2.2.2.1, (HSP.out _ hB9).2.2.2.2.2.2⟩ (fun hHeld => ?_)
       clear hK K
       refine norm_ ?_ (hq_3_4_15_16_18 ⟨v3, v4, v15, v16, .bool false, w'.heap.size⟩ _ ⟨hB9, f3.below hb9, f4.below hb9, f15.below hb9, f16.below hb9, ⟨hB.size, n18⟩⟩); (exact aP)
     refine join_ (σ := Value × Value × Value × Value × Value × Nat) 4 (bs 20 294911) (fun ⟨v3, v4, _, _, _, g18⟩ => [(92, v3), (93, v4), (18, .pointer (some ⟨g18, 0, none⟩))]) (fun ⟨v3, v4, _, _, _, g18⟩ w' => Below W11.heap.size W11 w' ∧ (RM w' v3 (-qq X.f1 a2) 3) ∧ (RM w' v4 (q + -qq X.f1 a2) 7) ∧ (W11.heap.size ≤ g18 ∧ w'.heap[g18]? = some (.cells #[.bool false, .slice none 0 0, .slice none 0 0] 79))) ?_ (fun hq_3_4_18 => ?_)
     ·rintro ⟨v3, v4, v15, v16, v5, g18⟩ w' ⟨hB, f3, f4, f18⟩
      refine norm_ (a' := ?_) ?_ ?_; rotate_left; (exact aQ)
      refine one_ (i := 15) (N := some 104) (bs 20 327679) rfl rfl (by kernel_rfl) (by decide) (fun K hK => ?_)
      ·
       refine goes_ Tryz.func69 (by kernel_rfl) rfl #[.int .i64 X.f3, .int .i64 X.f2] (by rfl) rfl rfl (by simp only [List.map_toArray, List.map_cons, List.map_nil]; rfl) ?_
       with_reducible refine (ratioM X.f3 X.f2 w' HJ.out.2.2.1 HJ.out.2.2.2 HP.out HJ.out.2.1.2).mono ?_
       rintro e w9 ⟨v15, rfl, hb9, n15⟩
       refine ⟨_, rfl, ?_⟩
       have hB9 := hB.trans (hb9.mono hB.size)
       refine hK.out _ _ ⟨(HSP.out _ hB9).1.1, (HSP.out _ hB9).1.2.1, (HSP.out _ hB9).1.2.2, (HSP.out _ hB9).2.1.1, (HSP.out _ hB9).2.1.2.1, (HSP.out _ hB9).2.1.2.2, (HSP.out _ hB9).2.2.1.1, (HSP.out _ hB9).2.2.1.2.1, (HSP.out _ hB9).2.2.1.2.2, (HSP.out _ hB9).2.2.2.2.2.1, (HSP.out _ hB9).2.2.2.2.2.2⟩ (fun hHeld => ?_)
       clear hK K
       refine norm_ ?_ (hq_3_4_15_18 ⟨v3, v4, v15, .bool false, .bool false, g18⟩ _ ⟨hB9, f3.below hb9, f4.below hb9, n15, ⟨f18.1, blk_below f18.2 hb9⟩⟩); (exact aP)
     refine join_ (σ := Value × Value × Value × Value × Value × Nat) 4 (bs 20 65535) (fun ⟨v3, v4, v15, _, _, _⟩ => [(92, v3), (93, v4), (104, v15)]) (fun ⟨v3, v4, v15, _, _, _⟩ w' => Below W11.heap.size W11 w' ∧ (RM w' v3 (-qq X.f1 a2) 3) ∧ (RM w' v4 (q + -qq X.f1 a2) 7) ∧ (RM w' v15 (qq X.f3 X.f2) 3)) ?_ (fun hq_3_4_15 => ?_)
     ·rintro ⟨v3, v4, v15, v16, v5, g18⟩ w' ⟨hB, f3, f4, f15⟩
      refine norm_ (a' := ?_) ?_ ?_; rotate_left; (exact aQ)
      refine two_ (i := 16) (j := 18) (Ni := some 105) (Nj := some 18) (bs 20 131071) (bs 20 327679) rfl rfl rfl rfl (by kernel_rfl) (by decide) (by decide) (fun K hK => ?_) (fun K hK => ?_)
      ·
       refine goes_ Tryz.func74 (by kernel_rfl) rfl #[v4, v15] (by rfl) rfl rfl (by simp only [List.map_toArray, List.map_cons, List.map_nil]; rfl) ?_
       with_reducible refine (timesM v4 v15 (q + -qq X.f1 a2) (qq X.f3 X.f2) 7 3 w' f4 f15 (by decide)).mono ?_
       rintro e w9 ⟨v16, rfl, hb9, n16⟩
       refine ⟨_, rfl, ?_⟩
       have hB9 := hB.trans (hb9.mono hB.size)
       refine hK.out _ _ ⟨(HSP.out _ hB9).1.1, (HSP.out _ hB9).1.2.1, (HSP.out _ hB9).1.2.2, (HSP.out _ hB9).2.1.1, (HSP.out _ hB9).2.1.2.1, (HSP.out _ hB9).2.1.2.2, (HSP.out _ hB9).2.2.1.1, (HSP.out _ hB9).2.2.1.2.1, (HSP.out _ hB9).2.2.1.2.2, (HSP.out _ hB9).2.2.2.2.2.1, (HSP.out _ hB9).2.2.2.2.2.2⟩ (fun hHeld => ?_)
       clear hK K
       refine norm_ ?_ (hq_3_4_15_16 ⟨v3, v4, v15, v16, .bool false, 0⟩ _ ⟨hB9, f3.below hb9, f4.below hb9, f15.below hb9, n16⟩); (exact aP)
      ·
       refine value_ (v := .pointer (some ⟨w'.heap.size, 0, none⟩)) (w1 := w'.alloc (.cells #[.bool false, .slice none 0 0, .slice none 0 0] 79)) (by rfl) rfl ?_ ?_
       ·go_simp
       have hb9 : Below w'.heap.size w' (w'.alloc (.cells #[.bool false, .slice none 0 0, .slice none 0 0] 79)) := below_alloc (Below.refl _ _) _
       have n18 := blk_new w' (.cells #[.bool false, .slice none 0 0, .slice none 0 0] 79)
       have hB9 := hB.trans (hb9.mono hB.size)
       refine hK.out _ _ ⟨(HSP.out _ hB9).1.1, (HSP.out _ hB9).1.2.1, (HSP.out _ hB9).1.2.2, (HSP.out _ hB9).2.1.1, (HSP.out _ hB9).2.1.2.1, (HSP.out _ hB9).2.1.2.2, (HSP.out _ hB9).2.2.1.1, (HSP.out _ hB9).2.2.1.2.1, (HSP.out _ hB9).2.2.1.2.2, (HSP.out _ hB9).2.2.2.2.2.1, (HSP.out _ hB9).2.2.2.2.2.2⟩ (fun hHeld => ?_)
       clear hK K
       refine norm_ ?_ (hq_3_4_15_18 ⟨v3, v4, v15, .bool false, .bool false, w'.heap.size⟩ _ ⟨hB9, f3.below hb9, f4.below hb9, f15.below hb9, ⟨hB.size, n18⟩⟩); (exact aP)
     refine join_ (σ := Value × Value × Value × Value × Value × Nat) 5 (bs 20 294895) (fun ⟨v3, _, _, _, _, g18⟩ => [(92, v3), (18, .pointer (some ⟨g18, 0, none⟩))]) (fun ⟨v3, _, _, _, _, g18⟩ w' => Below W11.heap.size W11 w' ∧ (RM w' v3 (-qq X.f1 a2) 3) ∧ (W11.heap.size ≤ g18 ∧ w'.heap[g18]? = some (.cells #[.bool false, .slice none 0 0, .slice none 0 0] 79))) ?_ (fun hq_3_18 => ?_)
     ·rintro ⟨v3, v4, v15, v16, v5, g18⟩ w' ⟨hB, f3, f18⟩
      refine norm_ (a' := ?_) ?_ ?_; rotate_left; (exact aQ)
      refine one_ (i := 4) (N := some 93) (bs 20 294911) rfl rfl (by kernel_rfl) (by decide) (fun K hK => ?_)
      ·
       refine goes_ Tryz.func73 (by kernel_rfl) rfl #[.agg #[.bool bm, (.slice Ama nma cma), (.slice Amb nmb cmb)], v3] (by rfl) rfl rfl (by simp only [List.map_toArray, List.map_cons, List.map_nil]; rfl) ?_
       with_reducible refine (plusM (.agg #[.bool bm, (.slice Ama nma cma), (.slice Amb nmb cmb)]) v3 q (-qq X.f1 a2) 3 3 w' (HMW.out _ (H11.out.2.below.trans (hB.mono H11.out.2.below.size))).m f3 (by decide)).mono ?_
       rintro e w9 ⟨v4, rfl, hb9, n4⟩
       refine ⟨_, rfl, ?_⟩
       have hB9 := hB.trans (hb9.mono hB.size)
       refine hK.out _ _ ⟨(HSP.out _ hB9).1.1, (HSP.out _ hB9).1.2.1, (HSP.out _ hB9).1.2.2, (HSP.out _ hB9).2.1.1, (HSP.out _ hB9).2.1.2.1, (HSP.out _ hB9).2.1.2.2, (HSP.out _ hB9).2.2.1.1, (HSP.out _ hB9).2.2.1.2.1, (HSP.out _ hB9).2.2.1.2.2, (HSP.out _ hB9).2.2.2.2.2.1, (HSP.out _ hB9).2.2.2.2.2.2⟩ (fun hHeld => ?_)
       clear hK K
       refine norm_ ?_ (hq_3_4_18 ⟨v3, v4, .bool false, .bool false, .bool false, g18⟩ _ ⟨hB9, f3.below hb9, n4, ⟨f18.1, blk_below f18.2 hb9⟩⟩); (exact aP)
     refine join_ (σ := Value × Value × Value × Value × Value × Nat) 5 (bs 20 32767) (fun ⟨v3, v4, _, _, _, _⟩ => [(92, v3), (93, v4)]) (fun ⟨v3, v4, _, _, _, _⟩ w' => Below W11.heap.size W11 w' ∧ (RM w' v3 (-qq X.f1 a2) 3) ∧ (RM w' v4 (q + -qq X.f1 a2) 7)) ?_ (fun hq_3_4 => ?_)
     ·rintro ⟨v3, v4, v15, v16, v5, g18⟩ w' ⟨hB, f3, f4⟩
      refine norm_ (a' := ?_) ?_ ?_; rotate_left; (exact aQ)
      refine two_ (i := 15) (j := 18) (Ni := some 104) (Nj := some 18) (bs 20 65535) (bs 20 294911) rfl rfl rfl rfl (by kernel_rfl) (by decide) (by decide) (fun K hK => ?_) (fun K hK => ?_)
      ·
       refine goes_ Tryz.func69 (by kernel_rfl) rfl #[.int .i64 X.f3, .int .i64 X.f2] (by rfl) rfl rfl (by simp only [List.map_toArray, List.map_cons, List.map_nil]; rfl) ?_
       with_reducible refine (ratioM X.f3 X.f2 w' HJ.out.2.2.1 HJ.out.2.2.2 HP.out HJ.out.2.1.2).mono ?_
       rintro e w9 ⟨v15, rfl, hb9, n15⟩
       refine ⟨_, rfl, ?_⟩
       have hB9 := hB.trans (hb9.mono hB.size)
       refine hK.out _ _ ⟨(HSP.out _ hB9).1.1, (HSP.out _ hB9).1.2.1, (HSP.out _ hB9).1.2.2, (HSP.out _ hB9).2.1.1, (HSP.out _ hB9).2.1.2.1, (HSP.out _ hB9).2.1.2.2, (HSP.out _ hB9).2.2.1.1, (HSP.out _ hB9).2.2.1.2.1, (HSP.out _ hB9).2.2.1.2.2, (HSP.out _ hB9).2.2.2.2.2.1, (HSP.out _ hB9).2.2.2.2.2.2⟩ (fun hHeld => ?_)
       clear hK K
       refine norm_ ?_ (hq_3_4_15 ⟨v3, v4, v15, .bool false, .bool false, 0⟩ _ ⟨hB9, f3.below hb9, f4.below hb9, n15⟩); (exact aP)
      ·
       refine value_ (v := .pointer (some ⟨w'.heap.size, 0, none⟩)) (w1 := w'.alloc (.cells #[.bool false, .slice none 0 0, .slice none 0 0] 79)) (by rfl) rfl ?_ ?_
       ·go_simp
       have hb9 : Below w'.heap.size w' (w'.alloc (.cells #[.bool false, .slice none 0 0, .slice none 0 0] 79)) := below_alloc (Below.refl _ _) _
       have n18 := blk_new w' (.cells #[.bool false, .slice none 0 0, .slice none 0 0] 79)
       have hB9 := hB.trans (hb9.mono hB.size)
       refine hK.out _ _ ⟨(HSP.out _ hB9).1.1, (HSP.out _ hB9).1.2.1, (HSP.out _ hB9).1.2.2, (HSP.out _ hB9).2.1.1, (HSP.out _ hB9).2.1.2.1, (HSP.out _ hB9).2.1.2.2, (HSP.out _ hB9).2.2.1.1, (HSP.out _ hB9).2.2.1.2.1, (HSP.out _ hB9).2.2.1.2.2, (HSP.out _ hB9).2.2.2.2.2.1, (HSP.out _ hB9).2.2.2.2.2.2⟩ (fun hHeld => ?_)
       clear hK K
       refine norm_ ?_ (hq_3_4_18 ⟨v3, v4, .bool false, .bool false, .bool false, w'.heap.size⟩ _ ⟨hB9, f3.below hb9, f4.below hb9, ⟨hB.size, n18⟩⟩); (exact aP)
     refine join_ (σ := Value × Value × Value × Value × Value × Nat) 6 (bs 20 32751) (fun ⟨v3, _, _, _, _, _⟩ => [(92, v3)]) (fun ⟨v3, _, _, _, _, _⟩ w' => Below W11.heap.size W11 w' ∧ (RM w' v3 (-qq X.f1 a2) 3)) ?_ (fun hq_3 => ?_)
     ·rintro ⟨v3, v4, v15, v16, v5, g18⟩ w' ⟨hB, f3⟩
      refine norm_ (a' := ?_) ?_ ?_; rotate_left; (exact aQ)
      refine two_ (i := 4) (j := 18) (Ni := some 93) (Nj := some 18) (bs 20 32767) (bs 20 294895) rfl rfl rfl rfl (by kernel_rfl) (by decide) (by decide) (fun K hK => ?_) (fun K hK => ?_)
      ·
       refine goes_ Tryz.func73 (by kernel_rfl) rfl #[.agg #[.bool bm, (.slice Ama nma cma), (.slice Amb nmb cmb)], v3] (by rfl) rfl rfl (by simp only [List.map_toArray, List.map_cons, List.map_nil]; rfl) ?_
       with_reducible refine (plusM (.agg #[.bool bm, (.slice Ama nma cma), (.slice Amb nmb cmb)]) v3 q (-qq X.f1 a2) 3 3 w' (HMW.out _ (H11.out.2.below.trans (hB.mono H11.out.2.below.size))).m f3 (by decide)).mono ?_
       rintro e w9 ⟨v4, rfl, hb9, n4⟩
       refine ⟨_, rfl, ?_⟩
       have hB9 := hB.trans (hb9.mono hB.size)
       refine hK.out _ _ ⟨(HSP.out _ hB9).1.1, (HSP.out _ hB9).1.2.1, (HSP.out _ hB9).1.2.2, (HSP.out _ hB9).2.1.1, (HSP.out _ hB9).2.1.2.1, (HSP.out _ hB9).2.1.2.2, (HSP.out _ hB9).2.2.1.1, (HSP.out _ hB9).2.2.1.2.1, (HSP.out _ hB9).2.2.1.2.2, (HSP.out _ hB9).2.2.2.2.2.1, (HSP.out _ hB9).2.2.2.2.2.2⟩ (fun hHeld => ?_)
       clear hK K
       refine norm_ ?_ (hq_3_4 ⟨v3, v4, .bool false, .bool false, .bool false, 0⟩ _ ⟨hB9, f3.below hb9, n4⟩); (exact aP)
      ·
       refine value_ (v := .pointer (some ⟨w'.heap.size, 0, none⟩)) (w1 := w'.alloc (.cells #[.bool false, .slice none 0 0, .slice none 0 0] 79)) (by rfl) rfl ?_ ?_
       ·go_simp
       have hb9 : Below w'.heap.size w' (w'.alloc (.cells #[.bool false, .slice none 0 0, .slice none 0 0] 79)) := below_alloc (Below.refl _ _) _
       have n18 := blk_new w' (.cells #[.bool false, .slice none 0 0, .slice none 0 0] 79)
       have hB9 := hB.trans (hb9.mono hB.size)
       refine hK.out _ _ ⟨(HSP.out _ hB9).1.1, (HSP.out _ hB9).1.2.1, (HSP.out _ hB9).1.2.2, (HSP.out _ hB9).2.1.1, (HSP.out _ hB9).2.1.2.1, (HSP.out _ hB9).2.1.2.2, (HSP.out _ hB9).2.2.1.1, (HSP.out _ hB9).2.2.1.2.1, (HSP.out _ hB9).2.2.1.2.2, (HSP.out _ hB9).2.2.2.2.2.1, (HSP.out _ hB9).2.2.2.2.2.2⟩ (fun hHeld => ?_)
       clear hK K
       refine norm_ ?_ (hq_3_18 ⟨v3, .bool false, .bool false, .bool false, .bool false, w'.heap.size⟩ _ ⟨hB9, f3.below hb9, ⟨hB.size, n18⟩⟩); (exact aP)
     refine join_ (σ := Value × Value × Value × Value × Value × Nat) 6 (bs 20 294887) (fun ⟨_, _, _, _, _, g18⟩ => [(18, .pointer (some ⟨g18, 0, none⟩))]) (fun ⟨_, _, _, _, _, g18⟩ w' => Below W11.heap.size W11 w' ∧ (W11.heap.size ≤ g18 ∧ w'.heap[g18]? = some (.cells #[.bool false, .slice none 0 0, .slice none 0 0] 79))) ?_ (fun hq_18 => ?_)
     ·rintro ⟨v3, v4, v15, v16, v5, g18⟩ w' ⟨hB, f18⟩
      refine norm_ (a' := ?_) ?_ ?_; rotate_left; (exact aQ)
      refine one_ (i := 3) (N := some 92) (bs 20 294895) rfl rfl (by kernel_rfl) (by decide) (fun K hK => ?_)
      ·
       refine goes_ Tryz.func75 (by kernel_rfl) rfl #[.agg #[.bool b4, (.slice A4a n4a c4a), (.slice A4b n4b c4b)]] (by rfl) rfl rfl (by simp only [List.map_toArray, List.map_cons, List.map_nil]; rfl) ?_
       with_reducible refine (negM (.agg #[.bool b4, (.slice A4a n4a c4a), (.slice A4b n4b c4b)]) (qq X.f1 a2) 3 w' (H11.out.1.2.step hB).m).mono ?_
       rintro e w9 ⟨v3, rfl, hb9, n3⟩
       refine ⟨_, rfl, ?_⟩
       have hB9 := hB.trans (hb9.mono hB.size)
       refine hK.out _ _ ⟨(HSP.out _ hB9).1.1, (HSP.out _ hB9).1.2.1, (HSP.out _ hB9).1.2.2, (HSP.out _ hB9).2.1.1, (HSP.out _ hB9).2.1.2.1, (HSP.out _ hB9).2.1.2.2, (HSP.out _ hB9).2.2.1.1, (HSP.out _ hB9).2.2.1.2.1, (HSP.out _ hB9).2.2.1.2.2, (HSP.out _ hB9).2.2.2.2.2.1, (HSP.out _ hB9).2.2.2.2.2.2⟩ (fun hHeld => ?_)
       clear hK K
       refine norm_ ?_ (hq_3_18 ⟨v3, .bool false, .bool false, .bool false, .bool false, g18⟩ _ ⟨hB9, n3, ⟨f18.1, blk_below f18.2 hb9⟩⟩); (exact aP)
     have hB := below_drew' (Below.refl _ W11.drew)
     refine two_ (i := 3) (j := 18) (Ni := some 92) (Nj := some 18) (bs 20 32751) (bs 20 294887) rfl rfl rfl rfl (by kernel_rfl) (by decide) (by decide) (fun K hK => ?_) (fun K hK => ?_)
     ·
      refine goes_ Tryz.func75 (by kernel_rfl) rfl #[.agg #[.bool b4, (.slice A4a n4a c4a), (.slice A4b n4b c4b)]] (by rfl) rfl rfl (by simp only [List.map_toArray, List.map_cons, List.map_nil]; rfl) ?_
      with_reducible refine (negM (.agg #[.bool b4, (.slice A4a n4a c4a), (.slice A4b n4b c4b)]) (qq X.f1 a2) 3 W11.drew (H11.out.1.2.step hB).m).mono ?_
      rintro e w9 ⟨v3, rfl, hb9, n3⟩
      refine ⟨_, rfl, ?_⟩
      have hB9 := hB.trans (hb9.mono hB.size)
      refine hK.out _ _ ⟨(HSP.out _ hB9).1.1, (HSP.out _ hB9).1.2.1, (HSP.out _ hB9).1.2.2, (HSP.out _ hB9).2.1.1, (HSP.out _ hB9).2.1.2.1, (HSP.out _ hB9).2.1.2.2, (HSP.out _ hB9).2.2.1.1, (HSP.out _ hB9).2.2.1.2.1, (HSP.out _ hB9).2.2.1.2.2, (HSP.out _ hB9).2.2.2.2.2.1, (HSP.out _ hB9).2.2.2.2.2.2⟩ (fun hHeld => ?_)
      clear hK K
      refine norm_ ?_ (hq_3 ⟨v3, .bool false, .bool false, .bool false, .bool false, 0⟩ _ ⟨hB9, n3⟩); (exact aP)
     ·
      refine value_ (v := .pointer (some ⟨W11.drew.heap.size, 0, none⟩)) (w1 := W11.drew.alloc (.cells #[.bool false, .slice none 0 0, .slice none 0 0] 79)) (by rfl) rfl ?_ ?_
      ·go_simp
      have hb9 : Below W11.drew.heap.size W11.drew (W11.drew.alloc (.cells #[.bool false, .slice none 0 0, .slice none 0 0] 79)) := below_alloc (Below.refl _ _) _
      have n18 := blk_new W11.drew (.cells #[.bool false, .slice none 0 0, .slice none 0 0] 79)
      have hB9 := hB.trans (hb9.mono hB.size)
      refine hK.out _ _ ⟨(HSP.out _ hB9).1.1, (HSP.out _ hB9).1.2.1, (HSP.out _ hB9).1.2.2, (HSP.out _ hB9).2.1.1, (HSP.out _ hB9).2.1.2.1, (HSP.out _ hB9).2.1.2.2, (HSP.out _ hB9).2.2.1.1, (HSP.out _ hB9).2.2.1.2.1, (HSP.out _ hB9).2.2.1.2.2, (HSP.out _ hB9).2.2.2.2.2.1, (HSP.out _ hB9).2.2.2.2.2.2⟩ (fun hHeld => ?_)
      clear hK K
      refine norm_ ?_ (hq_18 ⟨.bool false, .bool false, .bool false, .bool false, .bool false, W11.drew.heap.size⟩ _ ⟨hB9, ⟨hB.size, n18⟩⟩); (exact aP)
    rintro ⟨v3, v4, v15, v16, v5, g18⟩ w' ⟨hB, f3, f4, f15, f16, f17, f18⟩
    refine norm_ (a' := ?_) ?_ ?_; rotate_left; (exact aQ)
    have hHeld : w'.cell? ⟨g12, 0, none⟩ = some (.bool b2) ∧ w'.cell? ⟨g12, 1, none⟩ = some (.slice A2a n2a c2a) ∧ w'.cell? ⟨g12, 2, none⟩ = some (.slice A2b n2b c2b) ∧ w'.cell? ⟨gm, 0, none⟩ = some (.bool bm) ∧ w'.cell? ⟨gm, 1, none⟩ = some (.slice Ama nma cma) ∧ w'.cell? ⟨gm, 2, none⟩ = some (.slice Amb nmb cmb) ∧ w'.cell? ⟨gf, 0, none⟩ = some (.bool b4) ∧ w'.cell? ⟨gf, 1, none⟩ = some (.slice A4a n4a c4a) ∧ w'.cell? ⟨gf, 2, none⟩ = some (.slice A4b n4b c4b) ∧ w'.cell? ⟨(ad.add (i.toNat * 4)).block, (ad.add (i.toNat * 4)).off + 2, none⟩ = some (.int .i64 X.f2) ∧ w'.cell? ⟨(ad.add (i.toNat * 4)).block, (ad.add (i.toNat * 4)).off + 3, none⟩ = some (.int .i64 X.f3) := ⟨(HSP.out _ hB).1.1, (HSP.out _ hB).1.2.1, (HSP.out _ hB).1.2.2, (HSP.out _ hB).2.1.1, (HSP.out _ hB).2.1.2.1, (HSP.out _ hB).2.1.2.2, (HSP.out _ hB).2.2.1.1, (HSP.out _ hB).2.2.1.2.1, (HSP.out _ hB).2.2.1.2.2, (HSP.out _ hB).2.2.2.2.2.1, (HSP.out _ hB).2.2.2.2.2.2⟩
    refine zL 19 none 20 1048575 (fun K hK => ?_)
    obtain ⟨b5, A5a, n5a, c5a, A5b, n5b, c5b, rfl⟩ := RM.form f17.rm
    obtain ⟨_, _, _, s3, s4, s5⟩ := rat_cells f18.2
    refine skip_ (w1 := ?_) (by rfl) rfl ?_ ?_
    rotate_left
    ·(go_simp; with_reducible rfl)
    refine hK.out _ _ ?_
    clear hK K
    refine done_ (by kernel_rfl) ?_
    have hz := blk_three (x := .bool b5) (y := (.slice A5a n5a c5a)) (z := (.slice A5b n5b c5b)) f18.2
    have hbF : Below W11.heap.size W11 (((w'.setCell ⟨g18, 0, none⟩ (.bool b5)).setCell ⟨g18, 1, none⟩ (.slice A5a n5a c5a)).setCell ⟨g18, 2, none⟩ (.slice A5b n5b c5b)) := ((hB.setCell f18.1 _).setCell f18.1 _).setCell f18.1 _
    have k5 := (f17.three f18.2 b5 (.slice A5a n5a c5a) (.slice A5b n5b c5b)).rm
    generalize hFW : ((w'.setCell ⟨g18, 0, none⟩ (.bool b5)).setCell ⟨g18, 1, none⟩ (.slice A5a n5a c5a)).setCell ⟨g18, 2, none⟩ (.slice A5b n5b c5b) = FW2 at *
    have H19 := aS (show ((Bo FW2 g12 b2 (.slice A2a n2a c2a) (.slice A2b n2b c2b) (qq b a1) 3 ∧ Bo FW2 g13 b3 (.slice A3a n3a c3a) (.slice A3b n3b c3b) (qq (b + X.f0) a1) 3) ∧ Bo FW2 g18 b5 (.slice A5a n5a c5a) (.slice A5b n5b c5b) (qq b a1 + (q + -qq X.f1 a2) * qq X.f3 X.f2) 14) ∧ Js W0 FW2 u11 out from ⟨⟨⟨H11.out.1.1.1.step hbF, H11.out.1.1.2.step hbF⟩, hz, k5⟩, Rn.Js.step H11.out.2 hbF⟩)
    clear hz hbF k5 hFW hB f3 f4 f15 f16 f17 f18 hHeld hb0 HSP H11 HMW
    generalize qq b a1 + (q + -qq X.f1 a2) * qq X.f3 X.f2 = T at *
    obtain ⟨m0, m1, m2⟩ := H19.out.1.2.cells
    obtain ⟨n0, n1, n2⟩ := H19.out.1.1.1.cells
    by_cases h1 : T < qq b a1
    ·have HL2 := aS (show V = bakL a1 a2 q (out, e) (b + X.f0) (l0.drop (i + 1).toNat) by rw [HL1.out, if_neg (fun h => h.1 h1)])
     have HLE := aS (lessM_t (.agg #[.bool b5, (.slice A5a n5a c5a), (.slice A5b n5b c5b)]) (.agg #[.bool b2, (.slice A2a n2a c2a), (.slice A2b n2b c2b)]) T (qq b a1) 14 3 FW2 H19.out.1.2.m H19.out.1.1.1.m (by decide) h1)
     clear HL1 h1
     go_wp2_with fail
     refine HLE.out.mono ?_
     rintro en w20 ⟨rfl, hb20⟩
     have HJ20 := aS (Rn.Js.step H19.out.2 hb20)
     clear hb20 HLE H19 m0 m1 m2 n0 n1 n2
     go_wp2_with fail
     go_roundg k1
     case measure => omega
     case rel => exact ⟨out, e, b + X.f0, i + 1, rfl, by rw [HW.out.1.2], by rw [HW.out.1.1], ⟨HW.out.2.1, HW.out.2.2.1⟩, HL2, ⟨HJ20.out⟩⟩
    have HLE := aS (lessM_f (.agg #[.bool b5, (.slice A5a n5a c5a), (.slice A5b n5b c5b)]) (.agg #[.bool b2, (.slice A2a n2a c2a), (.slice A2b n2b c2b)]) T (qq b a1) 14 3 FW2 H19.out.1.2.m H19.out.1.1.1.m (by decide) h1)
    go_wp2_with fail
    refine HLE.out.mono ?_
    rintro en w20 ⟨rfl, hb20⟩
    have H20 := aS (And.intro (And.intro (H19.out.1.1.2.step hb20) (H19.out.1.2.step hb20)) (Rn.Js.step H19.out.2 hb20))
    clear hb20 HLE H19 m0 m1 m2 n0 n1 n2
    obtain ⟨m0, m1, m2⟩ := H20.out.1.2.cells
    obtain ⟨n0, n1, n2⟩ := H20.out.1.1.cells
    by_cases h2 : T < qq (b + X.f0) a1
    ·have HLE := aS (lessM_t (.agg #[.bool b5, (.slice A5a n5a c5a), (.slice A5b n5b c5b)]) (.agg #[.bool b3, (.slice A3a n3a c3a), (.slice A3b n3b c3b)]) T (qq (b + X.f0) a1) 14 3 w20 H20.out.1.2.m H20.out.1.1.m (by decide) h2)
     obtain ⟨⟨o2, e2⟩, hAV⟩ : ∃ r, addV out T T e = r := ⟨_, rfl⟩
     have HAD := aS (fun W (h1 : Js W0 W u11 out) h2 => addedM W0 W u11 (.agg #[.bool b5, (.slice A5a n5a c5a), (.slice A5b n5b c5b)]) (.agg #[.bool b5, (.slice A5a n5a c5a), (.slice A5b n5b c5b)]) out T T 14 14 e h1 h2 h2 (by decide) (by decide) HW.out.2.2.2.2)
     have HAL := addV_len out T T e
     rw [hAV] at HAD HAL
     have HL2 := aS (show V = bakL a1 a2 q (o2, e2) (b + X.f0) (l0.drop (i + 1).toNat) by rw [HL1.out, if_pos ⟨h1, h2⟩, hAV])
     have HLN := aS (show o2.length ≤ (i + 1).toNat by have := HW.out.2.2.2.1; have h2 : o2.length ≤ out.length + 1 := HAL; omega)
     clear HL1 h1 h2 hAV HAL
     go_wp2_with fail
     refine HLE.out.mono ?_
     rintro en w21 ⟨rfl, hb21⟩
     have H21 := aS (And.intro (H20.out.1.2.step hb21) (Rn.Js.step H20.out.2 hb21))
     clear hb21 HLE H20 m0 m1 m2 n0 n1 n2
     obtain ⟨m0, m1, m2⟩ := H21.out.1.cells
     go_wp2_with fail
     refine (HAD.out w21 H21.out.2 H21.out.1.m).mono ?_
     rintro en w22 ⟨v22, rfl, hj⟩
     have HJ22 := aS hj
     clear hj H21 HAD m0 m1 m2
     go_wp2_with fail
     go_roundg k1
     case measure => omega
     case rel => exact ⟨o2, e2, b + X.f0, i + 1, rfl, by rw [HW.out.1.2], by rw [HW.out.1.1], ⟨HW.out.2.1, HLN.out⟩, HL2, ⟨HJ22.out⟩⟩
    have HLE := aS (lessM_f (.agg #[.bool b5, (.slice A5a n5a c5a), (.slice A5b n5b c5b)]) (.agg #[.bool b3, (.slice A3a n3a c3a), (.slice A3b n3b c3b)]) T (qq (b + X.f0) a1) 14 3 w20 H20.out.1.2.m H20.out.1.1.m (by decide) h2)
    have HL2 := aS (show V = bakL a1 a2 q (out, e) (b + X.f0) (l0.drop (i + 1).toNat) by rw [HL1.out, if_neg (fun h => h2 h.2)])
    clear HL1 h1 h2
    go_wp2_with fail
    refine HLE.out.mono ?_
    rintro en w21 ⟨rfl, hb21⟩
    have HJ21 := aS (Rn.Js.step H20.out.2 hb21)
    clear hb21 HLE H20 m0 m1 m2 n0 n1 n2
    go_wp2_with fail
    go_roundg k1
    case measure => omega
    case rel => exact ⟨out, e, b + X.f0, i + 1, rfl, by rw [HW.out.1.2], by rw [HW.out.1.1], ⟨HW.out.2.1, HW.out.2.2.1⟩, HL2, ⟨HJ21.out⟩⟩
   have hlb : decide (i < (l0.length : Int)) = false := decide_eq_false hlt
   have HV4 := aS (show V = if e = 0 then (out, 0) else ([], e) by
    rw [hL.out, List.drop_of_length_le (by have := hi.out; omega)]
    rfl)
   obtain ⟨A4, c4, e4⟩ := Kd.R_slice hM.out.r
   subst e4
   replace hlt := eq_false hlt
   have HB := aS (HM.out.2.trans (hM.out.below.mono HM.out.2.size))
   clear hi hL
   by_cases h0 : e = 0
   ·have h0b : (e != 0) = false := by simpa using h0
    have HV5 := aS (show V = (out, 0) by rw [HV4.out, if_pos h0])
    clear h0 HV4
    go_wp2_with fail
    go_ret2
    rw [HV5.out]
    exact ⟨_, rfl, Kd.R_lower hM.out.r HM.out.2.size, HB.out⟩
   have h0b : (e != 0) = true := bne_iff_ne.mpr h0
   have HV5 := aS (show V = ([], e) by rw [HV4.out, if_neg h0])
   clear h0 HV4
   go_wp2_with fail
   go_ret2
   rw [HV5.out]
   exact ⟨_, rfl, Kd.R_nil _ _ _ _ _, HB.out⟩
theorem bakV_bck (l : List Ed) (ms ts n d : Int) : bakV l ms ts n d = bckV l ms ts n d := by
 unfold bakV bckV
 by_cases h : chk l ms ts = 0
 ·rw [if_pos h, if_pos h, bak_bck (chk_ok.1 h).2.2.1]
 rw [if_neg h, if_neg h]
end Go.Proofs.YtekommcfpjonmaaGreat.Rn
namespace Go.Proofs.YtekommcfpjonmaaGreat.Qu
open RowKit Go YtekommcfpjonmaaGreatW.PrintWords YtekommcfpjonmaaGreatW.PrintLast YtekommcfpjonmaaGreatW.PrintMore Ml Mn Nd Pa Pb Pc Rf E Qr Qt Et
theorem ratOf_f (n d : Int) (hn : -9223372036854775807 ≤ n) (hn1 : n ≤ 9223372036854775807) (hd : 0 < d) (hd1 : d ≤ 9223372036854775807) : RE (fun k => dioramaref02_RatOf.f k n d) (qq n d) 3 := by
 obtain ⟨y, ey, ny, vy, ly⟩ := of_f d (by omega) hd1
 by_cases h : n < 0
 ·obtain ⟨x, ex, nx, vx, lx⟩ := of_f (-n) (by omega) (by omega)
  have hs : Ev (fun k => dioramaref02_size.f k n) x := by
   refine Ev.congr (fun k => if_pos h) ?_
   rw [w64 (by omega) (by omega)]
   exact Ev.bind ex (Ev.now _)
  refine ⟨decide (n < 0), x, y, Ev.congr (fun k => rfl) (Ev.bind hs (Ev.bind ey (Ev.now _))), ⟨nx, ny, by rw [vy]; exact hd, ?_, lx, ly⟩⟩
  rw [vx, vy, decide_eq_true h]
  simp [sg]
 obtain ⟨x, ex, nx, vx, lx⟩ := of_f n (by omega) hn1
 have hs : Ev (fun k => dioramaref02_size.f k n) x := Ev.congr (fun k => if_neg h) (Ev.bind ex (Ev.now _))
 refine ⟨decide (n < 0), x, y, Ev.congr (fun k => rfl) (Ev.bind hs (Ev.bind ey (Ev.now _))), ⟨nx, ny, by rw [vy]; exact hd, ?_, lx, ly⟩⟩
 rw [vx, vy, decide_eq_false h]
 simp [sg]
theorem rvalid_f (n d : Int) : dioramaref02_Valid.f n d = some (Ea.valid n d) := by
 unfold dioramaref02_Valid.f Ea.valid
 by_cases h1 : d ≥ 1
 ·rw [if_pos h1, decide_eq_true (show 1 ≤ d from h1)]
  by_cases h2 : d ≤ 1152921504606846976
  ·rw [if_pos h2, decide_eq_true h2]
   by_cases h3 : n ≥ -1152921504606846976
   ·rw [if_pos h3, decide_eq_true (show -1152921504606846976 ≤ n from h3)]
    rfl
   rw [if_neg h3, decide_eq_false (show ¬ -1152921504606846976 ≤ n from h3)]
   rfl
  rw [if_neg h2, decide_eq_false h2]
  rfl
 rw [if_neg h1, decide_eq_false (show ¬ 1 ≤ d from h1)]
 rfl
theorem valid_is {n d : Int} (h : Ea.valid n d = true) : (-1152921504606846976 ≤ n ∧ n ≤ 1152921504606846976) ∧ 1 ≤ d ∧ d ≤ 1152921504606846976 := by
 unfold Ea.valid at h
 simp only [Bool.and_eq_true, decide_eq_true_eq] at h
 omega
theorem ratOf_v {n d : Int} (h : Ea.valid n d = true) : RE (fun k => dioramaref02_RatOf.f k n d) (qq n d) 3 := by
 have := valid_is h
 exact ratOf_f n d (by omega) (by omega) (by omega) (by omega)
end Go.Proofs.YtekommcfpjonmaaGreat.Qu
namespace Go.Proofs.YtekommcfpjonmaaGreat.E
open RowKit Go YtekommcfpjonmaaGreatW.PrintWords YtekommcfpjonmaaGreatW.PrintLast YtekommcfpjonmaaGreatW.PrintMore Mn Nd Z Ea Ra Rb Rf Rd Sg Sx
end Go.Proofs.YtekommcfpjonmaaGreat.E
namespace Go.Proofs.YtekommcfpjonmaaGreat.E
open RowKit Go YtekommcfpjonmaaGreatW.PrintWords YtekommcfpjonmaaGreatW.PrintLast YtekommcfpjonmaaGreatW.PrintMore Mn Nd Z Ea Rf Sg Sx Sy Xv Xj Xn Xp
end Go.Proofs.YtekommcfpjonmaaGreat.E
namespace Go.Proofs.YtekommcfpjonmaaGreat.E
open RowKit Go YtekommcfpjonmaaGreatW.PrintWords YtekommcfpjonmaaGreatW.PrintLast YtekommcfpjonmaaGreatW.PrintMore Mn Nd Z Ea Rf Sg Sx Sy Xv Xj
def hasB (t : Tm) (x : Sn) : Bool := !decide (qT t < qT x.f0) && decide (qT t < qT x.f1)
end Go.Proofs.YtekommcfpjonmaaGreat.E
namespace Go.Proofs.YtekommcfpjonmaaGreat.Sz
open RowKit Go YtekommcfpjonmaaGreatW.PrintWords YtekommcfpjonmaaGreatW.PrintLast YtekommcfpjonmaaGreatW.PrintMore Mn Rf E Sg Sx Sy
theorem jn_len : ∀ (r : List Sq) (a : Sq), (jn a r).length ≤ r.length + 1
 | [], a => by simp [jn]
 | x :: r, a => by
  rw [jn]
  split
  ·have := jn_len r x
   simp only [List.length_cons]
   omega
  have := jn_len r (a.1, mxR a.2 x.2)
  simp only [List.length_cons]
  omega
theorem ins_len (a : Sq) : ∀ l : List Sq, (ins a l).length = l.length + 1
 | [] => rfl
 | x :: l => by
  rw [ins]
  split
  ·rfl
  simp only [List.length_cons, ins_len a l]
theorem srt_len : ∀ l : List Sq, (srt l).length = l.length
 | [] => rfl
 | a :: l => by rw [srt, ins_len, srt_len l, List.length_cons]
theorem clnL_len (l : List Sn) : (clnL l).length ≤ l.length := by
 unfold clnL cnl
 rw [List.length_map]
 have h1 : (full (l.map qS)).length ≤ l.length := by
  have := List.length_filter_le (fun s : Sq => decide (s.1 < s.2)) (l.map qS)
  rw [List.length_map] at this
  exact this
 have h2 := srt_len (full (l.map qS))
 generalize srt (full (l.map qS)) = m at *
 cases m with
 | nil => simp [mrg]
 | cons a r =>
  have := jn_len r a
  simp only [List.length_cons] at h2
  show (jn a r).length ≤ _
  omega
theorem of_allV {l : List Sn} (h : allV l = true) : ∀ s ∈ l, vS s = true := List.all_eq_true.1 h
end Go.Proofs.YtekommcfpjonmaaGreat.Sz
namespace Go.Proofs.YtekommcfpjonmaaGreat.Rj
open RowKit Go YtekommcfpjonmaaGreatW.PrintWords YtekommcfpjonmaaGreatW.PrintLast YtekommcfpjonmaaGreatW.PrintMore Mn Rf E Qr Qt Et Qu Sg Sx Sy Sz
theorem less_f {a b : Tm} (ha : vT a = true) (hb : vT b = true) (f g : Nat → Option (Bool × List Int × List Int)) (hf : RE f (qT a) 3) (hg : RE g (qT b) 3) {α : Type} {h : Nat → Bool → Option α} {r : α} (hk : Ev (fun k => h k (decide (qT a < qT b))) r) :
  Ev (fun k => (f k).bind fun x => (g k).bind fun y => (dioramaref02_Less.f k x.1 x.2.1 x.2.2 y.1 y.2.1 y.2.2).bind (h k)) r := by
 obtain ⟨b1, x1, y1, e1, v1⟩ := hf
 obtain ⟨b2, x2, y2, e2, v2⟩ := hg
 exact Ev.bind e1 (Ev.bind e2 (Ev.bind (lessR_f v1 v2 (by decide)) hk))
theorem rat_f {a : Tm} (h : vT a = true) : RE (fun k => dioramaref02_RatOf.f k a.f0 a.f1) (qT a) 3 := ratOf_v h
theorem isSpan_f (s : Sn) : Ev (fun k => dioramaref02_isSpan.f k s.f0.f0 s.f0.f1 s.f1.f0 s.f1.f1) (vS s) := by
 have hf : ∀ k, dioramaref02_isSpan.f k s.f0.f0 s.f0.f1 s.f1.f0 s.f1.f1 = (if vT s.f0 = true then (if vT s.f1 = true then ((dioramaref02_RatOf.f k s.f1.f0 s.f1.f1).bind fun bt200 => ((dioramaref02_RatOf.f k s.f0.f0 s.f0.f1).bind fun bt207 => ((dioramaref02_Less.f k bt200.1 bt200.2.1 bt200.2.2 bt207.1 bt207.2.1 bt207.2.2).bind fun t214 => (some (!t214))))) else (some false)) else (some false)) := by
  intro k
  unfold dioramaref02_isSpan.f
  rw [rvalid_f, rvalid_f]
  simp only [Option.bind_some]
  rfl
 refine Ev.congr hf ?_
 unfold vS
 by_cases h1 : vT s.f0 = true
 ·refine Ev.congr (fun k => if_pos h1) ?_
  by_cases h2 : vT s.f1 = true
  ·refine Ev.congr (fun k => if_pos h2) ?_
   rw [h1, h2, Bool.true_and, Bool.true_and]
   exact less_f (h := fun _ t => some (!t)) h2 h1 _ _ (rat_f h2) (rat_f h1) (Ev.now _)
  rw [show vT s.f1 = false by simpa using h2, Bool.false_and, Bool.and_false]
  exact Ev.congr (fun k => if_neg (by decide)) (Ev.now _)
 rw [show vT s.f0 = false by simpa using h1, Bool.false_and]
 exact Ev.congr (fun k => if_neg (by decide)) (Ev.now _)
theorem rd_at (l : List Sn) {i : Int} (h0 : 0 ≤ i) (h1 : i < (l.length : Int)) : l.drop i.toNat = rd_T53 l i :: l.drop (i + 1).toNat ∧ rd_T53 l i ∈ l := by
 have hn : i.toNat < l.length := by omega
 have hi2 : (i + 1).toNat = i.toNat + 1 := by omega
 have hg : rd_T53 l i = l[i.toNat] := by
  unfold rd_T53
  rw [List.getD_eq_getElem?_getD, List.getElem?_eq_getElem hn]
  rfl
 rw [hi2, hg, List.drop_eq_getElem_cons hn]
 exact ⟨rfl, List.getElem_mem hn⟩
theorem areSpans_f (l : List Sn) (hl : l.length ≤ 1000000) : Ev (fun k => dioramaref02_areSpans.f k l) (allV l) := by
 have key : ∀ (n : Nat) (i : Int), 0 ≤ i → i + n = l.length → Ev (fun k => dioramaref02_areSpans.l0 k l i) ((l.drop i.toNat).all vS) := by
  intro n
  induction n with
  | zero =>
   intro i h0 hi
   refine Ev.step (fun k => by rw [dioramaref02_areSpans.l0]) (Ev.congr (fun k => if_neg (by omega)) ?_)
   rw [List.drop_of_length_le (by omega)]
   exact Ev.now _
  | succ n ih =>
   intro i h0 hi
   refine Ev.step (fun k => by rw [dioramaref02_areSpans.l0]) (Ev.congr (fun k => if_pos (by omega)) (Ev.congr (fun k => if_pos h0) ?_))
   rw [(rd_at l h0 (by omega)).1, List.all_cons]
   have hx := isSpan_f (rd_T53 l i)
   cases hv : vS (rd_T53 l i) with
   | true =>
    rw [hv] at hx
    refine Ev.bind hx (Ev.congr (fun k => if_pos rfl) ?_)
    rw [Bool.true_and]
    refine Ev.congr (fun k => by rw [w64 (by omega) (by omega)]) (ih (i + 1) (by omega) (by omega))
   | false =>
    rw [hv] at hx
    exact Ev.bind hx (Ev.congr (fun k => if_neg (by decide)) (Ev.now _))
 have := key l.length 0 (by omega) (by omega)
 exact this
def inB (l : List Sq) (q : Rat) : Bool := l.any (fun s => !decide (q < s.1) && decide (q < s.2))
theorem inB_iff {l : List Sq} {q : Rat} : inB l q = true ↔ inS l q := by
 unfold inB inS
 rw [List.any_eq_true]
 constructor
 ·rintro ⟨s, hs, h⟩
  simp only [Bool.and_eq_true, Bool.not_eq_true', decide_eq_false_iff_not, decide_eq_true_eq] at h
  exact ⟨s, hs, Rat.not_lt.1 h.1, h.2⟩
 rintro ⟨s, hs, h⟩
 refine ⟨s, hs, ?_⟩
 simp only [Bool.and_eq_true, Bool.not_eq_true', decide_eq_false_iff_not, decide_eq_true_eq]
 exact ⟨Rat.not_lt.2 h.1, h.2⟩
theorem any_B (t : Tm) (l : List Sn) : l.any (hasB t) = inB (l.map qS) (qT t) := by
 unfold inB
 rw [List.any_map]
 rfl
theorem inside_f {l : List Sn} {t : Tm} (hl : l.length ≤ 1000000) (hv : ∀ s ∈ l, vS s = true) (ht : vT t = true) : Ev (fun k => dioramaref02_inside.f k l t.f0 t.f1) (inB (l.map qS) (qT t)) := by
 rw [← any_B]
 obtain ⟨b0, x0, y0, e0, v0⟩ := rat_f ht
 have key : ∀ (n : Nat) (i : Int), 0 ≤ i → i + n = l.length → Ev (fun k => dioramaref02_inside.l0 k l i b0 x0 y0) ((l.drop i.toNat).any (hasB t)) := by
  intro n
  induction n with
  | zero =>
   intro i h0 hi
   refine Ev.step (fun k => by rw [dioramaref02_inside.l0]) (Ev.congr (fun k => if_neg (by omega)) ?_)
   rw [List.drop_of_length_le (by omega)]
   exact Ev.now _
  | succ n ih =>
   intro i h0 hi
   refine Ev.step (fun k => by rw [dioramaref02_inside.l0]) (Ev.congr (fun k => if_pos (by omega)) (Ev.congr (fun k => if_pos h0) ?_))
   obtain ⟨e, hm⟩ := rd_at l h0 (by omega)
   rw [e, List.any_cons]
   have hs := vS_is (hv _ hm)
   have ih' := ih (i + 1) (by omega) (by omega)
   generalize rd_T53 l i = X at *
   obtain ⟨b1, x1, y1, e1, v1⟩ := rat_f hs.1
   obtain ⟨b2, x2, y2, e2, v2⟩ := rat_f hs.2.1
   have h1 := lessR_f v0 v1 (by decide)
   have h2 := lessR_f v0 v2 (by decide)
   unfold hasB
   refine Ev.bind e1 (Ev.bind h1 ?_)
   by_cases c1 : qT t < qT X.f0
   ·refine Ev.congr (fun k => if_pos (decide_eq_true c1)) ?_
    rw [decide_eq_true c1]
    exact Ev.congr (fun k => by rw [w64 (by omega) (by omega)]) ih'
   refine Ev.congr (fun k => if_neg (fun h => c1 (of_decide_eq_true h))) ?_
   rw [decide_eq_false c1]
   refine Ev.bind e2 (Ev.bind h2 ?_)
   by_cases c2 : qT t < qT X.f1
   ·refine Ev.congr (fun k => if_pos (decide_eq_true c2)) ?_
    rw [decide_eq_true c2]
    exact Ev.now _
   refine Ev.congr (fun k => if_neg (fun h => c2 (of_decide_eq_true h))) ?_
   rw [decide_eq_false c2]
   exact Ev.congr (fun k => by rw [w64 (by omega) (by omega)]) ih'
 exact Ev.bind e0 (key l.length 0 (by omega) (by omega))
def insU (q : Rat) : List Rat → List Rat
 | [] => [q]
 | x :: r => if x < q then x :: insU q r else (if x = q then x :: r else q :: x :: r)
def endQ : List Sq → List Rat
 | [] => []
 | s :: r => s.1 :: s.2 :: endQ r
def endR (R : List Rat) : List Rat → List Rat
 | [] => R
 | q :: t => endR (insU q R) t
def Us : List Rat → Prop
 | [] => True
 | x :: l => (∀ y ∈ l, x < y) ∧ Us l
theorem us_up : ∀ {l : List Rat}, Us l → Up l
 | [], _ => trivial
 | x :: l, h => ⟨fun y hy => by have := h.1 y hy; grind, us_up h.2⟩
theorem insU_mem {q y : Rat} : ∀ {l : List Rat}, y ∈ insU q l ↔ y = q ∨ y ∈ l
 | [] => by simp [insU]
 | x :: r => by
  rw [insU]
  split
  ·rw [List.mem_cons, insU_mem, List.mem_cons]
   constructor
   ·rintro (h | h | h) <;> simp [h]
   rintro (h | h | h) <;> simp [h]
  split
  ·rename_i h
   constructor
   ·intro h2
    exact .inr h2
   rintro (h2 | h2)
   ·rw [h2, ← h]
    simp
   exact h2
  rw [List.mem_cons]
theorem insU_us {q : Rat} : ∀ {l : List Rat}, Us l → Us (insU q l)
 | [], _ => ⟨by simp, trivial⟩
 | x :: r, h => by
  rw [insU]
  split
  ·rename_i hc
   refine ⟨fun y hy => ?_, insU_us h.2⟩
   rcases insU_mem.1 hy with rfl | hy
   ·exact hc
   exact h.1 y hy
  rename_i hc
  split
  ·exact h
  rename_i he
  have hq : q < x := by grind
  refine ⟨fun y hy => ?_, h⟩
  rcases List.mem_cons.1 hy with rfl | hy
  ·exact hq
  have := h.1 y hy
  grind
theorem insU_len {q : Rat} : ∀ l : List Rat, (insU q l).length ≤ l.length + 1
 | [] => by simp [insU]
 | x :: r => by
  rw [insU]
  have := insU_len (q := q) r
  split
  ·simp only [List.length_cons]
   omega
  split <;> simp
theorem endR_us : ∀ (t : List Rat) {R : List Rat}, Us R → Us (endR R t)
 | [], _, h => h
 | q :: t, _, h => endR_us t (insU_us h)
theorem endR_mem {y : Rat} : ∀ (t : List Rat) {R : List Rat}, y ∈ endR R t ↔ y ∈ R ∨ y ∈ t
 | [], R => by simp [endR]
 | q :: t, R => by
  rw [endR, endR_mem t, insU_mem, List.mem_cons]
  constructor
  ·rintro ((h | h) | h) <;> simp [h]
  rintro (h | h | h) <;> simp [h]
theorem endR_len : ∀ (t R : List Rat), (endR R t).length ≤ R.length + t.length
 | [], R => by simp [endR]
 | q :: t, R => by
  rw [endR]
  have := endR_len t (insU q R)
  have := insU_len (q := q) R
  simp only [List.length_cons]
  omega
def endL (l : List Sq) : List Rat := endR [] (endQ l)
theorem endQ_len : ∀ l : List Sq, (endQ l).length = 2 * l.length
 | [] => rfl
 | s :: r => by simp only [endQ, List.length_cons, endQ_len r]; omega
theorem endQ_mem {y : Rat} : ∀ {l : List Sq}, y ∈ endQ l ↔ ∃ s ∈ l, y = s.1 ∨ y = s.2
 | [] => by simp [endQ]
 | s :: r => by
  simp only [endQ, List.mem_cons, endQ_mem (l := r), exists_eq_or_imp]
  rw [or_assoc]
theorem low_f {t : Tm} (h : vT t = true) : Ev (fun k => dioramaref02_Lowest.f k t.f0 t.f1) ((lT (qT t)).f0, (lT (qT t)).f1, 0) := by
 have hf : ∀ k, dioramaref02_Lowest.f k t.f0 t.f1 = ((dioramaref02_RatOf.f k t.f0 t.f1).bind fun bt338 => ((dioramaref02_Time.f k bt338.1 bt338.2.1 bt338.2.2).bind fun bt345 => (some (bt345.1, bt345.2.1, bt345.2.2)))) := by
  intro k
  unfold dioramaref02_Lowest.f
  rw [rvalid_f]
  simp only [Option.bind_some]
  exact if_pos h
 refine Ev.congr hf ?_
 obtain ⟨b0, x0, y0, e0, v0⟩ := rat_f h
 have ht := time_f v0 (by decide)
 have hv := vT_low h
 have e : tmV (qT t) = (((qT t).num, ((qT t).den : Int)), 0) := if_pos hv
 rw [e] at ht
 exact Ev.bind e0 (Ev.bind ht (Ev.now _))
theorem rdT_at (R : List Rat) {i : Nat} {q : Rat} (h : R[i]? = some q) : rd_T24 (R.map lT) (i : Int) = lT q := by
 unfold rd_T24
 rw [List.getD_eq_getElem?_getD, Int.toNat_natCast, List.getElem?_map, h]
 rfl
end Go.Proofs.YtekommcfpjonmaaGreat.Rj
namespace Go.Proofs.YtekommcfpjonmaaGreat.Rk
open RowKit Go YtekommcfpjonmaaGreatW.PrintWords YtekommcfpjonmaaGreatW.PrintLast YtekommcfpjonmaaGreatW.PrintMore Mn Rf E Qr Qt Qu Sg Sx Sy Sz Rj
theorem lT_eq {p q : Rat} : ((lT p).f0 == (lT q).f0 && (lT p).f1 == (lT q).f1) = true ↔ p = q := by
 rw [Bool.and_eq_true, beq_iff_eq, beq_iff_eq]
 constructor
 ·intro h
  refine lT_inj ?_
  show (⟨p.num, (p.den : Int)⟩ : Tm) = ⟨q.num, (q.den : Int)⟩
  have h1 : p.num = q.num := h.1
  have h2 : (p.den : Int) = q.den := h.2
  rw [h1, h2]
 rintro rfl
 exact ⟨rfl, rfl⟩
theorem cut_map (pre suf : List Rat) (q : Rat) : ((pre ++ suf).map lT).take ((pre.length : Int).toNat) ++ [(⟨(lT q).f0, (lT q).f1⟩ : Tm)] ++ ((pre ++ suf).map lT).drop ((pre.length : Int).toNat) = (pre ++ q :: suf).map lT := by
 have e : pre.length = (pre.map lT).length := (List.length_map _).symm
 rw [Int.toNat_natCast, List.map_append, e, List.take_left, List.drop_left]
 simp only [List.map_append, List.map_cons, List.append_assoc, List.cons_append, List.nil_append]
theorem ends_l1 (l : List Sn) (x4 : Int) (q : Rat) (hq : vT (lT q) = true) (r : List Tm) : ∀ (suf pre : List Rat), (∀ x ∈ pre ++ suf, vT (lT x) = true) → (pre ++ suf).length ≤ 100000 → Ev (fun k => dioramaref02_ends.l0 k l ((pre ++ insU q suf).map lT) (wrap64 (x4 + 1))) r →
  Ev (fun k => dioramaref02_ends.l1 k l ((pre ++ suf).map lT) x4 (pre.length : Int) (lT q).f0 (lT q).f1) r
 | [], pre, hv, hn, hk => by
  have hlen : (((pre ++ []).map lT).length : Int) = pre.length := by simp
  simp only [List.append_nil] at hn
  refine Ev.step (fun k => by rw [dioramaref02_ends.l1]) (Ev.congr (fun k => if_neg (by rw [hlen]; omega)) ?_)
  simp only [Option.bind_some, List.nil_append, List.length_nil, Nat.zero_add]
  refine Ev.congr (fun k => if_pos (by omega)) (Ev.congr (fun k => if_pos (by rw [hlen]; omega)) (Ev.congr (fun k => if_pos (by simp; omega)) (Ev.congr (fun k => if_pos (by simp; omega)) (Ev.congr (fun k => if_pos (by simp; omega)) ?_))))
  refine Ev.congr (fun k => ?_) hk
  rw [insU]
  exact congrArg (fun z => dioramaref02_ends.l0 k l z (wrap64 (x4 + 1))) (cut_map pre [] q)
 | x :: s, pre, hv, hn, hk => by
  have hlen : (((pre ++ x :: s).map lT).length : Int) = pre.length + (s.length + 1) := by simp
  have hn2 : pre.length + (s.length + 1) ≤ 100000 := by simpa using hn
  have hx : vT (lT x) = true := hv x (by simp)
  have hrd : rd_T24 ((pre ++ x :: s).map lT) (pre.length : Int) = lT x := rdT_at _ (by simp)
  refine Ev.step (fun k => by rw [dioramaref02_ends.l1]) (Ev.congr (fun k => if_pos (by rw [hlen]; omega)) (Ev.congr (fun k => if_pos (by omega)) ?_))
  rw [hrd]
  obtain ⟨b1, x1, y1, e1, v1⟩ := rat_f hx
  obtain ⟨b2, x2, y2, e2, v2⟩ := rat_f hq
  have h1 := lessR_f v1 v2 (by decide)
  rw [qT_lT, qT_lT] at h1
  refine Ev.bind e1 (Ev.bind e2 (Ev.bind h1 ?_))
  rw [insU] at hk
  by_cases c1 : x < q
  ·rw [if_pos c1] at hk
   refine Ev.congr (fun k => if_pos (decide_eq_true c1)) ?_
   have ih := ends_l1 l x4 q hq r s (pre ++ [x]) (by simpa using hv) (by simpa using hn) (by simpa using hk)
   refine Ev.congr (fun k => ?_) ih
   rw [w64 (by omega) (by omega)]
   simp
  rw [if_neg c1] at hk
  refine Ev.congr (fun k => if_neg (fun h => c1 (of_decide_eq_true h))) ?_
  by_cases c2 : x = q
  ·rw [if_pos c2] at hk
   exact Ev.congr (fun k => if_pos (lT_eq.2 c2)) hk
  rw [if_neg c2] at hk
  refine Ev.congr (fun k => if_neg (fun h => c2 (lT_eq.1 h))) ?_
  simp only [Option.bind_some, List.nil_append, List.length_nil, Nat.zero_add]
  refine Ev.congr (fun k => if_pos (by rw [hlen]; omega)) (Ev.congr (fun k => if_pos (by simp; omega)) (Ev.congr (fun k => if_pos (by simp; omega)) (Ev.congr (fun k => if_pos (by simp; omega)) ?_)))
  refine Ev.congr (fun k => ?_) hk
  exact congrArg (fun z => dioramaref02_ends.l0 k l z (wrap64 (x4 + 1))) (cut_map pre (x :: s) q)
theorem endQ_get : ∀ (L : List Sq) (i : Nat), (endQ L)[i]? = if i % 2 = 1 then (L[i / 2]?).map (·.2) else (L[i / 2]?).map (·.1)
 | [], i => by simp [endQ]
 | s :: r, 0 => by simp [endQ]
 | s :: r, 1 => by simp [endQ]
 | s :: r, i + 2 => by
  simp only [endQ, List.getElem?_cons_succ]
  rw [endQ_get r i, show (i + 2) % 2 = i % 2 by omega, show (i + 2) / 2 = i / 2 + 1 by omega, List.getElem?_cons_succ]
theorem ends_f {l : List Sn} (hl : l.length ≤ 1000) (hv : ∀ s ∈ l, vS s = true) : Ev (fun k => dioramaref02_ends.f k l) ((endL (l.map qS)).map lT) := by
 have hlen : (endQ (l.map qS)).length = 2 * l.length := by rw [endQ_len, List.length_map]
 have key : ∀ (n i : Nat) (R : List Rat), i + n = 2 * l.length → (∀ x ∈ R, vT (lT x) = true) → R.length ≤ i → Ev (fun k => dioramaref02_ends.l0 k l (R.map lT) (i : Int)) ((endR R ((endQ (l.map qS)).drop i)).map lT) := by
  intro n
  induction n with
  | zero =>
   intro i R hi _ _
   refine Ev.step (fun k => by rw [dioramaref02_ends.l0]) (Ev.congr (fun k => if_neg (by rw [w64 (by omega) (by omega)]; omega)) ?_)
   rw [List.drop_of_length_le (by omega), endR]
   exact Ev.now _
  | succ n ih =>
   intro i R hi hR hn
   have hj : i / 2 < l.length := by omega
   have hd : wrap64 (Int.tdiv (i : Int) 2) = ((i / 2 : Nat) : Int) := by
    rw [show Int.tdiv (i : Int) 2 = ((i / 2 : Nat) : Int) from (Int.ofNat_tdiv i 2).symm, w64 (by omega) (by omega)]
   have hm : Int.tmod (i : Int) 2 = ((i % 2 : Nat) : Int) := (Int.ofNat_tmod i 2).symm
   have hs : rd_T53 l ((i / 2 : Nat) : Int) = l[i / 2] := by
    unfold rd_T53
    rw [List.getD_eq_getElem?_getD, Int.toNat_natCast, List.getElem?_eq_getElem hj]
    rfl
   have hX := vS_is (hv _ (List.getElem_mem hj))
   have step : ∀ t : Tm, vT t = true → (endQ (l.map qS)).drop i = qT t :: (endQ (l.map qS)).drop (i + 1) → Ev (fun k => dioramaref02_ends.j1 k l (R.map lT) (i : Int) t.f0 t.f1) ((endR R ((endQ (l.map qS)).drop i)).map lT) := by
    intro t ht he
    refine Ev.step (fun k => by rw [dioramaref02_ends.j1]) (Ev.bind (low_f ht) ?_)
    have h2 := ends_l1 l (i : Int) (qT t) (vT_low ht) ((endR R ((endQ (l.map qS)).drop i)).map lT) R [] (by simpa using hR) (by simpa using (show R.length ≤ 100000 by omega)) (by
     have ih' := ih (i + 1) (insU (qT t) R) (by omega) (fun x hx => by
      rcases insU_mem.1 hx with rfl | hx
      ·exact vT_low ht
      exact hR x hx) (by have := insU_len (q := qT t) R; omega)
     rw [he, endR]
     refine Ev.congr (fun k => ?_) ih'
     rw [w64 (by omega) (by omega)]
     simp)
    exact h2
   have hdrop : ∀ q, (endQ (l.map qS))[i]? = some q → (endQ (l.map qS)).drop i = q :: (endQ (l.map qS)).drop (i + 1) := fun q hq => by
    have hlt : i < (endQ (l.map qS)).length := by omega
    rw [List.drop_eq_getElem_cons hlt]
    congr 1
    rw [List.getElem?_eq_getElem hlt] at hq
    exact Option.some.inj hq
   refine Ev.step (fun k => by rw [dioramaref02_ends.l0]) (Ev.congr (fun k => if_pos (by rw [w64 (by omega) (by omega)]; omega)) ?_)
   rw [hd, hm, hs]
   refine Ev.congr (fun k => if_pos (by omega)) (Ev.congr (fun k => if_pos (by omega)) ?_)
   by_cases h1 : i % 2 = 1
   ·refine Ev.congr (fun k => if_pos (by omega)) (step l[i / 2].f1 hX.2.1 (hdrop _ ?_))
    rw [endQ_get, if_pos h1, List.getElem?_map, List.getElem?_eq_getElem hj]
    rfl
   refine Ev.congr (fun k => if_neg (by omega)) (step l[i / 2].f0 hX.1 (hdrop _ ?_))
   rw [endQ_get, if_neg h1, List.getElem?_map, List.getElem?_eq_getElem hj]
   rfl
 have := key (2 * l.length) 0 [] (by omega) (by simp) (by simp)
 rw [List.drop_zero] at this
 exact this
def kp (how : Int) (x y : Bool) : Bool := if how = 0 then x || y else (if how = 1 then x && y else x && !y)
def fQ (how : Int) (A B : List Sq) (q : Rat) : Bool := kp how (inB A q) (inB B q)
def con (out S : List Sq) : List Sq := match out.getLast? with
 | none => mrg S
 | some a => out.dropLast ++ jn a S
theorem con_snoc (pre S : List Sq) (a : Sq) : con (pre ++ [a]) S = pre ++ jn a S := by
 unfold con
 rw [List.getLast?_concat]
 simp
theorem con_nil (out : List Sq) : con out [] = out := by
 rcases List.eq_nil_or_concat out with rfl | ⟨pre, a, h⟩
 ·rfl
 rw [List.concat_eq_append] at h
 subst h
 rw [con_snoc]
 rfl
theorem rdS_at (out : List Sq) {i : Nat} {s : Sq} (h : out[i]? = some s) : rd_T53 (out.map lS) (i : Int) = lS s := by
 unfold rd_T53
 rw [List.getD_eq_getElem?_getD, Int.toNat_natCast, List.getElem?_map, h]
 rfl
theorem rdT_len (R : List Rat) {i : Nat} {x : Rat} {r : List Rat} (h : R.drop i = x :: r) : rd_T24 (R.map lT) (i : Int) = lT x := rdT_at R (by
 have : (R.drop i)[0]? = some x := by rw [h]; rfl
 rwa [List.getElem?_drop] at this)
theorem us_drop : ∀ {R : List Rat} (i : Nat), Us R → Us (R.drop i)
 | [], i, _ => by simp [Us]
 | x :: r, 0, h => h
 | x :: r, i + 1, h => us_drop i h.2
theorem joined_l0 {a b : List Sn} {how : Int} (hh : how = 0 ∨ how = 1 ∨ how = 2) (la : a.length ≤ 1000) (lb : b.length ≤ 1000) (va : ∀ s ∈ a, vS s = true) (vb : ∀ s ∈ b, vS s = true) (R : List Rat) (hR : ∀ x ∈ R, vT (lT x) = true) (hU : Us R) (hl : R.length ≤ 100000) :
  ∀ (n i : Nat) (out : List Sq), i + n = R.length → out.length ≤ i → (∀ c x, out.getLast? = some c → R[i]? = some x → c.2 ≤ x) → Ev (fun k => dioramaref02_joined.l0 k a b how (R.map lT) (out.map lS) (i : Int)) ((con out (sgm (fQ how (a.map qS) (b.map qS)) (R.drop i))).map lS) := by
 have hlen : ((R.map lT).length : Int) = R.length := by rw [List.length_map]
 intro n
 induction n with
 | zero =>
  intro i out hi ho hc
  refine Ev.step (fun k => by rw [dioramaref02_joined.l0]) (Ev.congr (fun k => if_neg (by rw [hlen, w64 (by omega) (by omega)]; omega)) ?_)
  rw [List.drop_of_length_le (by omega), show sgm (fQ how (a.map qS) (b.map qS)) [] = [] from rfl, con_nil]
  exact Ev.now _
 | succ n ih =>
  intro i out hi ho hc
  by_cases h1 : i + 1 < R.length
  ·have hx : R.drop i = R[i] :: R.drop (i + 1) := List.drop_eq_getElem_cons (by omega)
   have hy : R.drop (i + 1) = R[i + 1] :: R.drop (i + 1 + 1) := List.drop_eq_getElem_cons (by omega)
   have hxy : R[i] < R[i + 1] := by
    have := us_drop i hU
    rw [hx] at this
    exact this.1 _ (by rw [hy]; exact List.mem_cons_self)
   have hvx : vT (lT R[i]) = true := hR _ (List.getElem_mem _)
   have hi1 : wrap64 ((i : Int) + 1) = ((i + 1 : Nat) : Int) := by rw [w64 (by omega) (by omega)]; rfl
   have rx := rdT_len R hx
   have ry := rdT_len R hy
   have ex : R[i]? = some R[i] := List.getElem?_eq_getElem (by omega)
   have ey : R[i + 1]? = some R[i + 1] := List.getElem?_eq_getElem h1
   have hS : sgm (fQ how (a.map qS) (b.map qS)) (R.drop i) = if fQ how (a.map qS) (b.map qS) R[i] = true then (R[i], R[i + 1]) :: sgm (fQ how (a.map qS) (b.map qS)) (R.drop (i + 1)) else sgm (fQ how (a.map qS) (b.map qS)) (R.drop (i + 1)) := by
    rw [hx, hy, sgm]
    simp only [hxy, true_and]
   rw [hS]
   generalize R[i] = x at *
   generalize R[i + 1] = y at *
   refine Ev.step (fun k => by rw [dioramaref02_joined.l0]) (Ev.congr (fun k => if_pos (by rw [hlen, hi1]; omega)) (Ev.congr (fun k => if_pos (by omega)) (Ev.congr (fun k => if_pos (by rw [hlen]; omega)) ?_)))
   rw [rx]
   have i1 := inside_f (l := a) (t := lT x) (by omega) va hvx
   have i2 := inside_f (l := b) (t := lT x) (by omega) vb hvx
   rw [qT_lT] at i1 i2
   refine Ev.bind i1 (Ev.bind i2 ?_)
   have ef : fQ how (a.map qS) (b.map qS) x = kp how (inB (a.map qS) x) (inB (b.map qS) x) := rfl
   generalize inB (a.map qS) x = tx at *
   generalize inB (b.map qS) x = ty at *
   refine Ev.congr (f := fun k => dioramaref02_joined.j1 k a b how (R.map lT) (out.map lS) (i : Int) (!kp how tx ty)) (fun k => by rcases hh with rfl | rfl | rfl <;> cases tx <;> cases ty <;> rfl) ?_
   rw [ef]
   cases hk : kp how tx ty with
   | false =>
    refine Ev.step (fun k => by rw [dioramaref02_joined.j1]) (Ev.congr (fun k => if_pos (by decide)) ?_)
    rw [if_neg (by decide), hi1]
    exact ih (i + 1) out (by omega) (by omega) (fun c z h2 h3 => by
     have h4 := hc c x h2 ex
     rw [ey] at h3
     obtain rfl := Option.some.inj h3
     grind)
   | true =>
    refine Ev.step (fun k => by rw [dioramaref02_joined.j1]) (Ev.congr (fun k => if_neg (by decide)) ?_)
    rw [if_pos rfl]
    have fresh : ∀ pre : List Sq, pre.length ≤ i → Ev (fun k => dioramaref02_joined.l0 k a b how (R.map lT) ((pre ++ [(x, y)]).map lS) ((i + 1 : Nat) : Int)) ((pre ++ jn (x, y) (sgm (fQ how (a.map qS) (b.map qS)) (R.drop (i + 1)))).map lS) := fun pre hp => by
     have := ih (i + 1) (pre ++ [(x, y)]) (by omega) (by simpa using hp) (fun c z h2 h3 => by
      rw [List.getLast?_concat] at h2
      obtain rfl := Option.some.inj h2
      rw [ey] at h3
      obtain rfl := Option.some.inj h3
      exact Rat.le_refl)
     rwa [con_snoc] at this
    have news : ∀ (pre : List Sq), (⟨⟨(rd_T24 (R.map lT) (i : Int)).f0, (rd_T24 (R.map lT) (i : Int)).f1⟩, ⟨(rd_T24 (R.map lT) ((i + 1 : Nat) : Int)).f0, (rd_T24 (R.map lT) ((i + 1 : Nat) : Int)).f1⟩⟩ : Sn) = lS (x, y) := fun _ => by
     show (⟨⟨(rd_T24 (R.map lT) (i : Int)).f0, (rd_T24 (R.map lT) (i : Int)).f1⟩, ⟨(rd_T24 (R.map lT) ((i + 1 : Nat) : Int)).f0, (rd_T24 (R.map lT) ((i + 1 : Nat) : Int)).f1⟩⟩ : Sn) = lS (x, y)
     rw [rx, ry]
     rfl
    rcases List.eq_nil_or_concat out with rfl | ⟨pre, c, hpc⟩
    ·refine Ev.congr (fun k => if_neg (by simp)) ?_
     rw [hi1]
     refine Ev.congr (fun k => if_pos (by omega)) (Ev.congr (fun k => if_pos (by rw [hlen]; omega)) (Ev.congr (fun k => if_pos (by omega)) (Ev.congr (fun k => if_pos (by rw [hlen]; omega)) (Ev.congr (fun k => if_pos (by simp)) ?_))))
     refine Ev.congr (fun k => ?_) (fresh [] (by simp))
     rw [news []]
     rfl
    rw [List.concat_eq_append] at hpc
    subst hpc
    have hcl : (((pre ++ [c]).map lS).length : Int) = (pre.length : Int) + 1 := by simp
    have hcl2 : ((pre ++ [c]).map lS).length = pre.length + 1 := by simp
    have ho2 : pre.length + 1 ≤ i := by simpa using ho
    have hw : wrap64 ((((pre ++ [c]).map lS).length : Int) - 1) = (pre.length : Int) := by rw [hcl, w64 (by omega) (by omega)]; omega
    have rc : rd_T53 ((pre ++ [c]).map lS) (pre.length : Int) = lS c := rdS_at _ (by simp)
    have hcx : c.2 ≤ x := hc c x (List.getLast?_concat) ex
    rw [con_snoc]
    refine Ev.congr (fun k => if_pos (by rw [hcl]; omega)) ?_
    rw [hw, hi1, rc, rx]
    refine Ev.congr (fun k => if_pos (by omega)) (Ev.congr (fun k => if_pos (by rw [hcl]; omega)) (Ev.congr (fun k => if_pos (by omega)) (Ev.congr (fun k => if_pos (by rw [hlen]; omega)) ?_)))
    by_cases he : c.2 = x
    ·refine Ev.congr (fun k => if_pos (lT_eq.2 he)) (Ev.congr (fun k => if_pos (by omega)) (Ev.congr (fun k => if_pos (by rw [hlen]; omega)) ?_))
     have := ih (i + 1) (pre ++ [(c.1, y)]) (by omega) (by simp; omega) (fun c' z h2 h3 => by
      rw [List.getLast?_concat] at h2
      obtain rfl := Option.some.inj h2
      rw [ey] at h3
      obtain rfl := Option.some.inj h3
      exact Rat.le_refl)
     rw [con_snoc] at this
     rw [jn, if_neg (by rw [he]; exact Rat.lt_irrefl), show mxR c.2 y = y by unfold mxR; rw [if_pos (by rw [he]; exact hxy)]]
     refine Ev.congr (fun k => ?_) this
     congr 1
     rw [ry, Int.toNat_natCast, List.map_append, List.set_append_right _ _ (by simp), List.length_map, Nat.sub_self]
     simp only [List.map_cons, List.map_nil, List.set_cons_zero, List.map_append]
     rfl
    refine Ev.congr (fun k => if_neg (fun h => he (lT_eq.1 h))) (Ev.congr (fun k => if_pos (by omega)) (Ev.congr (fun k => if_pos (by rw [hlen]; omega)) (Ev.congr (fun k => if_pos (by rw [hcl2]; omega)) ?_)))
    rw [jn, if_pos (by grind)]
    have := fresh (pre ++ [c]) (by simpa using ho2)
    rw [show pre ++ c :: jn (x, y) (sgm (fQ how (a.map qS) (b.map qS)) (R.drop (i + 1))) = pre ++ [c] ++ jn (x, y) (sgm (fQ how (a.map qS) (b.map qS)) (R.drop (i + 1))) by simp]
    refine Ev.congr (fun k => ?_) this
    congr 1
    rw [ry, List.map_append (l₂ := [(x, y)])]
    rfl
  refine Ev.step (fun k => by rw [dioramaref02_joined.l0]) (Ev.congr (fun k => if_neg (by rw [hlen, w64 (by omega) (by omega)]; omega)) ?_)
  have hd : R.drop i = [R[i]] := by
   rw [List.drop_eq_getElem_cons (show i < R.length by omega), List.drop_of_length_le (by omega)]
  rw [hd, show sgm (fQ how (a.map qS) (b.map qS)) [R[i]] = [] from rfl, con_nil]
  exact Ev.now _
def joQ (how : Int) (A B : List Sq) : List Sq := mrg (sgm (fQ how A B) (endL (A ++ B)))
theorem ends_v {l : List Sn} (hv : ∀ s ∈ l, vS s = true) : ∀ x ∈ endL (l.map qS), vT (lT x) = true := by
 intro x hx
 rcases (endR_mem _).1 hx with h | h
 ·cases h
 obtain ⟨s, hs, he⟩ := endQ_mem.1 h
 obtain ⟨z, hz, rfl⟩ := List.mem_map.1 hs
 have := vS_is (hv z hz)
 rcases he with rfl | rfl
 ·exact vT_low this.1
 exact vT_low this.2.1
theorem joined_f {a b : List Sn} {how : Int} (hh : how = 0 ∨ how = 1 ∨ how = 2) (la : a.length ≤ 400) (lb : b.length ≤ 400) (va : ∀ s ∈ a, vS s = true) (vb : ∀ s ∈ b, vS s = true) : Ev (fun k => dioramaref02_joined.f k a b how) ((joQ how (a.map qS) (b.map qS)).map lS) := by
 have hv : ∀ s ∈ a ++ b, vS s = true := fun s hs => by
  rcases List.mem_append.1 hs with h | h
  ·exact va s h
  exact vb s h
 have he := ends_f (l := a ++ b) (by simp; omega) hv
 have hn : (endL ((a ++ b).map qS)).length ≤ 100000 := by
  have h1 := endR_len (endQ ((a ++ b).map qS)) []
  rw [endQ_len, List.length_map, List.length_append] at h1
  unfold endL
  simp only [List.length_nil] at h1
  omega
 have hj := joined_l0 hh (by omega) (by omega) va vb (endL ((a ++ b).map qS)) (ends_v hv) (endR_us _ trivial) hn (endL ((a ++ b).map qS)).length 0 [] (by omega) (by simp) (by simp)
 refine Ev.congr (f := fun k => (dioramaref02_ends.f k (a ++ b)).bind fun t420 => dioramaref02_joined.l0 k a b how t420 [] 0) (fun k => ?_) (Ev.bind he ?_)
 ·unfold dioramaref02_joined.f
  simp only [Option.bind_some, List.nil_append, List.length_nil, Nat.zero_add]
  rw [if_pos (by omega), if_pos (by omega)]
 unfold joQ
 rw [← List.map_append]
 exact hj
theorem steady_in (A : List Sq) {E : List Rat} (h : ∀ s ∈ A, s.1 ∈ E ∧ s.2 ∈ E) : Steady (inB A) E := by
 intro x q hxq he
 have key : ∀ e ∈ E, decide (x < e) = decide (q < e) := fun e hm => by
  have := he e hm
  by_cases h1 : q < e
  ·rw [decide_eq_true h1, decide_eq_true (by grind)]
  rw [decide_eq_false h1, decide_eq_false (fun h2 => this ⟨h2, by grind⟩)]
 unfold inB
 induction A with
 | nil => rfl
 | cons s r ih =>
  rw [List.any_cons, List.any_cons, key _ (h s (by simp)).1, key _ (h s (by simp)).2, ih (fun s hs => h s (by simp [hs]))]
theorem joQ_is (how : Int) (A B : List Sq) : Cn (joQ how A B) ∧ ∀ q, inS (joQ how A B) q ↔ fQ how A B q = true := by
 have hm : ∀ y, y ∈ endL (A ++ B) ↔ ∃ s ∈ A ++ B, y = s.1 ∨ y = s.2 := fun y => by
  unfold endL
  rw [endR_mem, endQ_mem]
  simp
 have hA : ∀ s ∈ A, s.1 ∈ endL (A ++ B) ∧ s.2 ∈ endL (A ++ B) := fun s hs => ⟨(hm _).2 ⟨s, by simp [hs], .inl rfl⟩, (hm _).2 ⟨s, by simp [hs], .inr rfl⟩⟩
 have hB : ∀ s ∈ B, s.1 ∈ endL (A ++ B) ∧ s.2 ∈ endL (A ++ B) := fun s hs => ⟨(hm _).2 ⟨s, by simp [hs], .inl rfl⟩, (hm _).2 ⟨s, by simp [hs], .inr rfl⟩⟩
 refine mrg_sgm (us_up (endR_us _ trivial)) (fun x q hxq he => ?_) (fun q hq => ?_)
 ·unfold fQ
  rw [steady_in A hA x q hxq he, steady_in B hB x q hxq he]
 have : inB A q = true ∨ inB B q = true := by
  unfold fQ kp at hq
  cases h1 : inB A q <;> cases h2 : inB B q <;> simp_all
 rcases this with h | h
 ·obtain ⟨s, hs, h1, h2⟩ := inB_iff.1 h
  exact ⟨⟨_, (hA s hs).1, h1⟩, ⟨_, (hA s hs).2, h2⟩⟩
 obtain ⟨s, hs, h1, h2⟩ := inB_iff.1 h
 exact ⟨⟨_, (hB s hs).1, h1⟩, ⟨_, (hB s hs).2, h2⟩⟩
theorem joQ_or (A B : List Sq) : joQ 0 A B = cnl (A ++ B) := cnl_of (joQ_is 0 A B).1 (fun q => by
 rw [(joQ_is 0 A B).2 q, inS_app, ← inB_iff, ← inB_iff]
 unfold fQ kp
 simp)
theorem clean_jo (l : List Sn) : (joQ 0 (l.map qS) []).map lS = clnL l := by
 rw [joQ_or, List.append_nil]
 rfl
end Go.Proofs.YtekommcfpjonmaaGreat.Rk
namespace Go.Proofs.YtekommcfpjonmaaGreat.Rl
open RowKit Go YtekommcfpjonmaaGreatW.PrintWords YtekommcfpjonmaaGreatW.PrintLast YtekommcfpjonmaaGreatW.PrintMore Mn Rf E Qr Qt Et Qu Sg Sx Sy Sz Rj Rk
def comV (how : Int) (a b : List Sn) : List Sn × Int := if allV a = true ∧ allV b = true then ((joQ how (a.map qS) (b.map qS)).map lS, 0) else ([], 4)
theorem combined_f {a b : List Sn} {how : Int} (hh : how = 0 ∨ how = 1 ∨ how = 2) (la : a.length ≤ 400) (lb : b.length ≤ 400) : Ev (fun k => dioramaref02_combined.f k a b how) (comV how a b) := by
 have h1 := areSpans_f a (by omega)
 have h2 := areSpans_f b (by omega)
 unfold comV
 refine Ev.bind h1 ?_
 cases ha : allV a with
 | false =>
  rw [if_neg (fun h => by cases h.1)]
  exact Ev.congr (fun k => if_neg (by decide)) (Ev.now _)
 | true =>
  refine Ev.congr (fun k => if_pos rfl) (Ev.bind h2 ?_)
  cases hb : allV b with
  | false =>
   rw [if_neg (fun h => by cases h.2)]
   exact Ev.congr (fun k => if_neg (by decide)) (Ev.now _)
  | true =>
   rw [if_pos ⟨rfl, rfl⟩]
   exact Ev.congr (fun k => if_pos rfl) (Ev.bind (joined_f hh la lb (of_allV ha) (of_allV hb)) (Ev.now _))
theorem com_clean (l : List Sn) : comV 0 l [] = clnV l := by
 unfold comV clnV
 rw [show allV [] = true from rfl, List.map_nil, clean_jo]
 simp
theorem rclean_f {l : List Sn} (hl : l.length ≤ 400) : Ev (fun k => dioramaref02_Clean.f k l) (clnV l) := by
 have := combined_f (a := l) (b := []) (how := 0) (.inl rfl) hl (by simp)
 rw [com_clean] at this
 exact Ev.bind this (Ev.now _)
end Go.Proofs.YtekommcfpjonmaaGreat.Rl

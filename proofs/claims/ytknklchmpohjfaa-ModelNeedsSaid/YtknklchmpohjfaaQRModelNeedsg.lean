/-
  checkChapters, checkRest and Bytes of a movie that has tracks alone. The Model laws' awake: a small movie is taken and shown. What the reference's needs computes: plain. What Needs and Start tell of a track, the code's and the reference's. ModelNeeds: what a sample needs, and where decoding begins, are the chapter's.
-/
import Derived.Test.YtknklchmpohjfaaQRModelNeedsf
import Derived.Laws.EntriesVeiled
import Derived.Test.YtknklchmpohjfaaQRModelNeedse
import Derived.Test.YtknklchmpohjfaaQRModelNeedsa
import Derived.Test.YtknklchmpohjfaaQRModelNeedsc
import Derived.Test.YtknklchmpohjfaaQRModelNeedsb
import Derived.Test.YtknklchmpohjfaaQRModelNeedsd
namespace Go.Proofs.Ytknklchmpohjfaa.Gq
open Go.Maps Go.RowKit Go Go.Proofs.YtknklchmpohjfaaW.PrintWords Go.Proofs.YtknklchmpohjfaaW.PrintLast Go.Proofs.YtknklchmpohjfaaW.PrintMore Go.Proofs.Ytknklchmpohjfaa.Mn Go.Proofs.Ytknklchmpohjfaa.Nd Go.Proofs.Ytknklchmpohjfaa.Z Go.Proofs.Ytknklchmpohjfaa.E Go.Proofs.Ytknklchmpohjfaa.Tk Go.Proofs.Ytknklchmpohjfaa.Tw Go.Proofs.Ytknklchmpohjfaa.Mp Go.Proofs.Ytknklchmpohjfaa.Gs Go.Proofs.Ytknklchmpohjfaa.Gd Go.Proofs.Ytknklchmpohjfaa.Ge Go.Proofs.Ytknklchmpohjfaa.Gb Go.Proofs.Ytknklchmpohjfaa.Gm
set_option linter.unusedVariables false
set_option linter.unusedSimpArgs false
def OwnM (W : World) (b n : Nat) : Prop := ∃ D : DataW Unit, W.ownsMap Try.prog 97 (plainElem Try.prog 4) b n D
theorem OwnM.made (W : World) : OwnM (W.alloc (.map #[] 0)) W.heap.size 0 := ⟨.map [], World.ownsMap_made W _ _ _⟩
theorem OwnM.of {W W2 : World} {b n : Nat} (h : OwnM W b n) (hb : W2.heap[b]? = W.heap[b]?) : OwnM W2 b n := by
 obtain ⟨D, ⟨es, clock, hw, F, hs, hD⟩⟩ := h
 exact ⟨D, ⟨es, clock, hb.trans hw, F, hs, hD⟩⟩
theorem OwnM.lt {W : World} {b n : Nat} (h : OwnM W b n) : b < W.heap.size := by
 obtain ⟨D, ho⟩ := h
 exact ho.lt
theorem OwnM.below {W W2 : World} {b n : Nat} (h : OwnM W b n) (hb : Below W.heap.size W W2) : OwnM W2 b n := h.of (hb.block b h.lt)
theorem OwnM.put {W : World} {b n : Nat} (h : OwnM W b n) (hn : n ≤ 1000000) {x y : Int} (hx : Wf x) (hy : Wf y) : ∃ W', (Instr.mapUpdate 98 (.map (some b)) (.agg #[.int .i64 x, .int .i64 y]) (.bool true)).run Try.prog W = .ok () W' ∧ OwnM W' b (n + 1) ∧ W.grownBy W' (some b) := by
 obtain ⟨D, ho⟩ := h
 obtain ⟨W', hrun, ho', hg⟩ := ho.update lawT Try.underlying98 (by unfold maxLen; omega) (key_thing hx hy) (plainElem_bool Try.underlying4 true)
 exact ⟨W', hrun, ⟨_, ho'⟩, hg⟩
section
variable (scale : Int) (title : ByteArray) (ts : List Tr') (A2 : Option Addr) (c2 : Nat)
set_option maxHeartbeats 4000000 in
set_option maxRecDepth 100000 in
theorem chap0_n (w : World) : Calls Try.prog 32 #[.agg #[.int .i64 scale, .string title, .slice A2 ts.length c2, .slice none 0 0, .slice none 0 0, .slice none 0 0]] w (ValP w (.int .i64 0)) := by
 have hu := Try.underlying27
 have hmm := @run_makeMap Try.prog
 go_enter Try.func32, Try.ntmps32
 go_upto_region 1 with (first | ((with_reducible refine gate_dst (N := 1) rfl ?_); refine zB 1 27 #[.int .i64 scale, .string title, .slice A2 ts.length c2, .slice none 0 0, .slice none 0 0, .slice none 0 0] ?_; intro gb hg W0 hbox hb; have HG := Aside0.mk hg; have HM0 := Aside0.mk hbox; have HB0 := Aside0.mk hb; clear hbox hb hg))
 go_upto_region 3 with fail
 have HM1 := Aside0.mk (blk_alloc (blk_alloc HM0.out (.map #[] 0)) (.map #[] 0))
 have HB1 := Aside0.mk (below_alloc (below_alloc HB0.out (.map #[] 0)) (.map #[] 0))
 generalize World.alloc (World.alloc W0 _) _ = W1 at *
 have m3 : W1.cell? ⟨gb, 3, none⟩ = some (.slice none 0 0) := (blk_cell HM1.out 3).trans rfl
 go_wp2_with fail
 refine wp_loop_rounds 1 ?_
 rw [rounds_succ]
 go_wp2_with fail
 go_ret
 exact ⟨rfl, HB1.out⟩
set_option maxHeartbeats 8000000 in
set_option maxRecDepth 100000 in
theorem rest0_n (w : World) (hr : Kd.C k40 w A2 ts.length ts) (hl : ts.length ≤ 1000) (hid : ∀ T ∈ ts, Wf T.f0) : Calls Try.prog 33 #[.agg #[.int .i64 scale, .string title, .slice A2 ts.length c2, .slice none 0 0, .slice none 0 0, .slice none 0 0]] w (ValP w (.int .i64 0)) := by
 have hu := Try.underlying27
 have hu2 := Try.underlying40
 have hu3 := Try.underlying97
 have hmm := @run_makeMap Try.prog
 have HR := Aside0.mk hr
 have HL := Aside0.mk (And.intro hl hid)
 clear hr hl hid
 go_enter Try.func33, Try.ntmps33
 go_upto_region 1 with (first | ((with_reducible refine gate_dst (N := 1) rfl ?_); refine zB 1 27 #[.int .i64 scale, .string title, .slice A2 ts.length c2, .slice none 0 0, .slice none 0 0, .slice none 0 0] ?_; intro gb hg W0 hbox hb; have HG := Aside0.mk hg; have HM0 := Aside0.mk hbox; have HB0 := Aside0.mk hb; clear hbox hb hg))
 obtain ⟨W1, hins, ho1, hg1⟩ := (OwnM.made W0).put (by decide) (x := 0) (y := 0) (wf_of (by decide) (by decide)) (wf_of (by decide) (by decide))
 have HO1 := Aside0.mk ho1
 have hgb := blk_lt HM0.out
 have HM1 := Aside0.mk (blk_grown (blk_alloc HM0.out (.map #[] 0)) hg1 (fun e => by have := Option.some.inj e; omega))
 have HB1 := Aside0.mk ((below_alloc HB0.out (.map #[] 0)).grown hg1 (below_alloc HB0.out (.map #[] 0)).size (fun k hk => by cases hk; exact HB0.out.size))
 have HW := Aside0.mk (show w.heap.size ≤ W0.heap.size ∧ gb < W0.heap.size from ⟨HB0.out.size, hgb⟩)
 clear ho1 hg1 hgb HB0 HM0
 go_upto_region 2 with fail
 clear hins
 generalize W0.heap.size = b at *
 have HO2 := Aside0.mk (HO1.out.below (below_alloc (Below.refl W1.heap.size W1) (.cells #[.map (some b)] 98 (0, 0))))
 have HM2 := Aside0.mk (blk_alloc HM1.out (.cells #[.map (some b)] 98 (0, 0)))
 have HB2 := Aside0.mk (below_alloc HB1.out (.cells #[.map (some b)] 98 (0, 0)))
 have HG2 := Aside0.mk (blk_new W1 (.cells #[.map (some b)] 98 (0, 0)))
 have HW2 := Aside0.mk (show w.heap.size ≤ b ∧ gb < b ∧ b < W1.heap.size from ⟨HW.out.1, HW.out.2, HO1.out.lt⟩)
 generalize World.alloc W1 _ = W2 at *
 generalize W1.heap.size = g3 at *
 clear HO1 HM1 HB1 HW
 obtain ⟨m0, m1, m2, m3, m4, m5⟩ := mv_cells HM2.out
 go_wp2_with fail
 refine wp_loop_rounds 1 ?_
 rw [rounds_succ]
 go_wp2_with fail
 clear m0 m1 m2 m3 m4 m5
 go_loopg [60] ts.length (fun kq v60 w' => ∃ i : Int, v60 = .int .i64 i ∧ Aside0 (0 ≤ i ∧ i + kq = ts.length) ∧ Aside0 (OwnM w' b (1 + i.toNat)) ∧ Aside0 (w'.heap[gb]? = some (.cells #[.int .i64 scale, .string title, .slice A2 ts.length c2, .slice none 0 0, .slice none 0 0, .slice none 0 0] 27 (0, 0))) ∧ Aside0 (w'.heap[g3]? = some (.cells #[.map (some b)] 98 (0, 0))) ∧ Aside0 (Below w.heap.size w w'))
 case atStart => exact ⟨0, rfl, ⟨by simp⟩, HO2, HM2, HG2, HB2⟩
 case round =>
  clear HO2 HM2 HG2 HB2
  obtain ⟨i, rfl, hi, HO, HM, HG3, HB⟩ := hrel
  by_cases hlt : i < (ts.length : Int)
  ·have hlb : decide (i < (ts.length : Int)) = true := decide_eq_true hlt
   have p0 := hi.out.1
   obtain ⟨ad, B4, d4, B8, d8, B9, d9, B10, d10, hA, r0, r1, r2, r3, r4, r5, r6, r7, r8, r9, r10, _⟩ := at_T40 (Kd.C_below HR.out HB.out) i p0 hlt
   have HT := Aside0.mk (HL.out.2 _ (rd_mem p0 hlt))
   obtain ⟨k1, rfl⟩ : ∃ m, gk = m + 1 := ⟨gk - 1, by have := hi.out; omega⟩
   have HY := Aside0.mk (And.intro (show wrap64 (i + 1) = i + 1 by have := HL.out.1; exact w64 (by omega) (by omega)) (And.intro (show 0 ≤ i + 1 ∧ i + 1 + (k1 : Int) = ts.length by have := hi.out; omega) (show 1 + i.toNat ≤ 1000000 ∧ 1 + i.toNat + 1 = 1 + (i + 1).toNat by have := HL.out.1; omega)))
   subst hA
   generalize rd_T40 ts i = T at *
   replace p0 := eq_true p0
   replace hlt := eq_true hlt
   clear hi
   go_upto_region 12 with fail
   have HM1 := Aside0.mk (blk_alloc HM.out (.cells #[.int .i64 T.f0, .int .i64 T.f1, .string T.f2, .int .i64 T.f3, .slice B4 T.f4.length d4, .string T.f5, .string T.f6, .int .i64 T.f7, .slice B8 T.f8.length d8, .slice B9 T.f9.length d9, .slice B10 T.f10.length d10] 40 (0, 0)))
   have HG1 := Aside0.mk (blk_alloc HG3.out (.cells #[.int .i64 T.f0, .int .i64 T.f1, .string T.f2, .int .i64 T.f3, .slice B4 T.f4.length d4, .string T.f5, .string T.f6, .int .i64 T.f7, .slice B8 T.f8.length d8, .slice B9 T.f9.length d9, .slice B10 T.f10.length d10] 40 (0, 0)))
   have HE1 := Aside0.mk (blk_new wr (.cells #[.int .i64 T.f0, .int .i64 T.f1, .string T.f2, .int .i64 T.f3, .slice B4 T.f4.length d4, .string T.f5, .string T.f6, .int .i64 T.f7, .slice B8 T.f8.length d8, .slice B9 T.f9.length d9, .slice B10 T.f10.length d10] 40 (0, 0)))
   have HB1 := Aside0.mk (below_alloc HB.out (.cells #[.int .i64 T.f0, .int .i64 T.f1, .string T.f2, .int .i64 T.f3, .slice B4 T.f4.length d4, .string T.f5, .string T.f6, .int .i64 T.f7, .slice B8 T.f8.length d8, .slice B9 T.f9.length d9, .slice B10 T.f10.length d10] 40 (0, 0)))
   have HO1 := Aside0.mk (HO.out.below (below_alloc (Below.refl wr.heap.size wr) (.cells #[.int .i64 T.f0, .int .i64 T.f1, .string T.f2, .int .i64 T.f3, .slice B4 T.f4.length d4, .string T.f5, .string T.f6, .int .i64 T.f7, .slice B8 T.f8.length d8, .slice B9 T.f9.length d9, .slice B10 T.f10.length d10] 40 (0, 0))))
   generalize World.alloc wr _ = W3 at *
   generalize wr.heap.size = gE at *
   clear r0 r1 r2 r3 r4 r5 r6 r7 r8 r9 r10 HM HB HO HG3
   have q0 : W3.cell? ⟨gE, 0, none⟩ = some (.int .i64 T.f0) := (blk_cell HE1.out 0).trans rfl
   have q3 : W3.cell? ⟨g3, 0, none⟩ = some (.map (some b)) := (blk_cell HG1.out 0).trans rfl
   obtain ⟨W4, hup, ho4, hg4⟩ := HO1.out.put HY.out.2.2.1 (x := 1) (y := T.f0) (wf_of (by decide) (by decide)) HT.out
   have HO4 := Aside0.mk (show OwnM W4 b (1 + (i + 1).toNat) by rw [← HY.out.2.2.2]; exact ho4)
   have HM4 := Aside0.mk (blk_grown HM1.out hg4 (fun e => by have := Option.some.inj e; have := HW2.out; omega))
   have HG4 := Aside0.mk (blk_grown HG1.out hg4 (fun e => by have := Option.some.inj e; have := HW2.out; omega))
   have HB4 := Aside0.mk (HB1.out.grown hg4 HB1.out.size (fun k hk => by cases hk; exact HW2.out.1))
   clear ho4 hg4
   go_wp2_with fail
   clear hup q0 q3
   go_roundg k1
   case measure => omega
   case rel => exact ⟨i + 1, by rw [HY.out.1], ⟨HY.out.2.1⟩, HO4, HM4, HG4, HB4⟩
  ·have hlb : decide (i < (ts.length : Int)) = false := decide_eq_false hlt
   obtain ⟨m0, m1, m2, m3, m4, m5⟩ := mv_cells HM.out
   replace hlt := eq_false hlt
   clear hi
   go_upto_region 16 with fail
   have HM1 := Aside0.mk (blk_alloc HM.out (.cells #[.func (.func 55) #[] #[.pointer (some ⟨g3, 0, none⟩), .pointer (some ⟨wr.heap.size, 0, none⟩)]] 99 (0, 0)))
   have HB1 := Aside0.mk (below_alloc HB.out (.cells #[.func (.func 55) #[] #[.pointer (some ⟨g3, 0, none⟩), .pointer (some ⟨wr.heap.size, 0, none⟩)]] 99 (0, 0)))
   clear m0 m1 m2 m3 m4 m5
   generalize World.alloc wr _ = W3 at *
   obtain ⟨m0, m1, m2, m3, m4, m5⟩ := mv_cells HM1.out
   go_wp2_with fail
   refine wp_loop_rounds 1 ?_
   rw [rounds_succ]
   go_wp2_with fail
   refine wp_loop_rounds 1 ?_
   rw [rounds_succ]
   go_wp2_with fail
   go_ret
   exact ⟨rfl, HB1.out⟩
end
def bytS : List Sm → Int → Int
 | [], s => s
 | x :: l, s => bytS l (wrap64 (s + (x.f5.length : Int)))
def bytV : List Tr' → Int → Int
 | [], s => s
 | T :: l, s => bytV l (bytS T.f10 s)
theorem byt_drop {ts : List Tr'} {i s : Int} (h0 : 0 ≤ i) (h1 : i < (ts.length : Int)) : bytV (ts.drop i.toNat) s = bytV (ts.drop (i + 1).toNat) (bytS (rd_T40 ts i).f10 s) := by
 have hn : i.toNat < ts.length := by omega
 have hi : (i + 1).toNat = i.toNat + 1 := by omega
 have hg : rd_T40 ts i = ts[i.toNat] := by
  unfold rd_T40
  rw [List.getD_eq_getElem?_getD, List.getElem?_eq_getElem hn]
  rfl
 rw [hi, hg, List.drop_eq_getElem_cons hn, bytV]
theorem bys_drop {l : List Sm} {i s : Int} (h0 : 0 ≤ i) (h1 : i < (l.length : Int)) : bytS (l.drop i.toNat) s = bytS (l.drop (i + 1).toNat) (wrap64 (s + ((rd_T51 l i).f5.length : Int))) := by
 have hn : i.toNat < l.length := by omega
 have hi : (i + 1).toNat = i.toNat + 1 := by omega
 have hg : rd_T51 l i = l[i.toNat] := by
  unfold rd_T51
  rw [List.getD_eq_getElem?_getD, List.getElem?_eq_getElem hn]
  rfl
 rw [hi, hg, List.drop_eq_getElem_cons hn, bytS]
section
variable (scale : Int) (title : ByteArray) (ts : List Tr') (A2 : Option Addr) (c2 : Nat)
set_option maxHeartbeats 8000000 in
set_option maxRecDepth 100000 in
theorem bytes0_n (w : World) (hr : Kd.C k40 w A2 ts.length ts) : Calls Try.prog 13 #[.agg #[.int .i64 scale, .string title, .slice A2 ts.length c2, .slice none 0 0, .slice none 0 0, .slice none 0 0]] w (ValP w (.int .i64 (bytV ts 0))) := by
 have hu := Try.underlying27
 have hu2 := Try.underlying40
 have hu3 := Try.underlying51
 have HR := Aside0.mk hr
 have HL := Aside0.mk hr.2.1
 have HV := Aside0.mk (show bytV ts 0 = bytV (ts.drop (0 : Int).toNat) 0 by simp)
 generalize bytV ts 0 = V at HV ⊢
 clear hr
 go_enter Try.func13, Try.ntmps13
 go_upto_region 1 with (first | ((with_reducible refine gate_dst (N := 1) rfl ?_); refine zB 1 27 #[.int .i64 scale, .string title, .slice A2 ts.length c2, .slice none 0 0, .slice none 0 0, .slice none 0 0] ?_; intro gb hg W0 hbox hb; have HG := Aside0.mk hg; have HM0 := Aside0.mk hbox; have HB0 := Aside0.mk hb; clear hbox hb hg))
 obtain ⟨m0, m1, m2, m3, m4, m5⟩ := mv_cells HM0.out
 go_wp2_with fail
 clear m0 m1 m2 m3 m4 m5
 go_loopg [3, 13] ts.length (fun kq v3 v13 w' => ∃ s i : Int, v3 = .int .i64 s ∧ v13 = .int .i64 i ∧ Aside0 (0 ≤ i ∧ i + kq = ts.length ∧ V = bytV (ts.drop i.toNat) s) ∧ Aside0 (w'.heap[gb]? = some (.cells #[.int .i64 scale, .string title, .slice A2 ts.length c2, .slice none 0 0, .slice none 0 0, .slice none 0 0] 27 (0, 0))) ∧ Aside0 (Below w.heap.size w w'))
 case atStart => exact ⟨0, 0, rfl, rfl, ⟨by simp, by simp, HV.out⟩, HM0, HB0⟩
 case round =>
  clear HM0 HB0 HV
  obtain ⟨s, i, rfl, rfl, hi, HM, HB⟩ := hrel
  by_cases hlt : i < (ts.length : Int)
  ·have hlb : decide (i < (ts.length : Int)) = true := decide_eq_true hlt
   have p0 := hi.out.1
   obtain ⟨ad, B4, d4, B8, d8, B9, d9, B10, d10, hA, r0, r1, r2, r3, r4, r5, r6, r7, r8, r9, r10, t4, k4, t8, k8, t9, k9, t10, k10⟩ := at_T40 (Kd.C_below HR.out HB.out) i p0 hlt
   have HD := Aside0.mk (byt_drop (s := s) p0 hlt)
   obtain ⟨k1, rfl⟩ : ∃ m, gk = m + 1 := ⟨gk - 1, by have := hi.out; omega⟩
   have HY := Aside0.mk (And.intro (show wrap64 (i + 1) = i + 1 by have := HL.out; exact w64 (by omega) (by omega)) (show 0 ≤ i + 1 ∧ i + 1 + (k1 : Int) = ts.length by have := hi.out; omega))
   have HI := Aside0.mk hi.out.2.2
   subst hA
   generalize rd_T40 ts i = T at *
   have HK := Aside0.mk k10
   replace p0 := eq_true p0
   replace hlt := eq_true hlt
   clear hi t4 k4 t8 k8 t9 k9 t10 k10
   go_upto_region 5 with fail
   have HM1 := Aside0.mk (blk_alloc HM.out (.cells #[.int .i64 T.f0, .int .i64 T.f1, .string T.f2, .int .i64 T.f3, .slice B4 T.f4.length d4, .string T.f5, .string T.f6, .int .i64 T.f7, .slice B8 T.f8.length d8, .slice B9 T.f9.length d9, .slice B10 T.f10.length d10] 40 (0, 0)))
   have HE1 := Aside0.mk (blk_new wr (.cells #[.int .i64 T.f0, .int .i64 T.f1, .string T.f2, .int .i64 T.f3, .slice B4 T.f4.length d4, .string T.f5, .string T.f6, .int .i64 T.f7, .slice B8 T.f8.length d8, .slice B9 T.f9.length d9, .slice B10 T.f10.length d10] 40 (0, 0)))
   have HB1 := Aside0.mk (below_alloc HB.out (.cells #[.int .i64 T.f0, .int .i64 T.f1, .string T.f2, .int .i64 T.f3, .slice B4 T.f4.length d4, .string T.f5, .string T.f6, .int .i64 T.f7, .slice B8 T.f8.length d8, .slice B9 T.f9.length d9, .slice B10 T.f10.length d10] 40 (0, 0)))
   have HK1 := Aside0.mk (Kd.C_below HK.out (below_alloc (Below.refl wr.heap.size wr) (.cells #[.int .i64 T.f0, .int .i64 T.f1, .string T.f2, .int .i64 T.f3, .slice B4 T.f4.length d4, .string T.f5, .string T.f6, .int .i64 T.f7, .slice B8 T.f8.length d8, .slice B9 T.f9.length d9, .slice B10 T.f10.length d10] 40 (0, 0))))
   generalize World.alloc wr _ = W1 at *
   generalize wr.heap.size = gE at *
   clear r0 r1 r2 r3 r4 r5 r6 r7 r8 r9 r10 HM HB HK
   have qa : W1.cell? ⟨gE, 10, none⟩ = some (.slice B10 T.f10.length d10) := (blk_cell HE1.out 10).trans rfl
   go_wp2_with fail
   clear qa
   go_loopg [3, 20] T.f10.length (fun kq v3 v20 w' => ∃ s2 j : Int, v3 = .int .i64 s2 ∧ v20 = .int .i64 j ∧ Aside0 (0 ≤ j ∧ j + kq = T.f10.length ∧ bytS T.f10 s = bytS (T.f10.drop j.toNat) s2) ∧ Aside0 (w'.heap[gb]? = some (.cells #[.int .i64 scale, .string title, .slice (some ad) ts.length c2, .slice none 0 0, .slice none 0 0, .slice none 0 0] 27 (0, 0))) ∧ Aside0 (k51.C w' B10 T.f10.length T.f10) ∧ Aside0 (Below w.heap.size w w'))
   case atStart => exact ⟨s, 0, rfl, rfl, ⟨by simp, by simp, by simp⟩, HM1, HK1, HB1⟩
   case round =>
    clear HM1 HE1 HK1 HB1
    obtain ⟨s2, j, rfl, rfl, hj, HM, HK, HB⟩ := hrel
    by_cases hlj : j < (T.f10.length : Int)
    ·have hlb2 : decide (j < (T.f10.length : Int)) = true := decide_eq_true hlj
     have g0 := hj.out.1
     obtain ⟨ad2, D4, f4, D5, f5, hA2, x0, x1, x2, x3, x4, x5, _⟩ := at_T51 HK.out j g0 hlj
     have HD2 := Aside0.mk (bys_drop (s := s2) g0 hlj)
     obtain ⟨k2, rfl⟩ : ∃ m, gk = m + 1 := ⟨gk - 1, by have := hj.out; omega⟩
     have HY2 := Aside0.mk (And.intro (show wrap64 (j + 1) = j + 1 by have := HK.out.2.1; exact w64 (by omega) (by omega)) (show 0 ≤ j + 1 ∧ j + 1 + (k2 : Int) = T.f10.length by have := hj.out; omega))
     have HJ := Aside0.mk hj.out.2.2
     subst hA2
     generalize rd_T51 T.f10 j = X at *
     replace g0 := eq_true g0
     replace hlj := eq_true hlj
     clear hj
     go_upto_region 8 with fail
     have HM1 := Aside0.mk (blk_alloc HM.out (.cells #[.int .i64 X.f0, .int .i64 X.f1, .int .i64 X.f2, .bool X.f3, .slice D4 X.f4.length f4, .slice D5 X.f5.length f5] 51 (0, 0)))
     have HX1 := Aside0.mk (blk_new wr (.cells #[.int .i64 X.f0, .int .i64 X.f1, .int .i64 X.f2, .bool X.f3, .slice D4 X.f4.length f4, .slice D5 X.f5.length f5] 51 (0, 0)))
     have HB1 := Aside0.mk (below_alloc HB.out (.cells #[.int .i64 X.f0, .int .i64 X.f1, .int .i64 X.f2, .bool X.f3, .slice D4 X.f4.length f4, .slice D5 X.f5.length f5] 51 (0, 0)))
     have HK1 := Aside0.mk (Kd.C_below HK.out (below_alloc (Below.refl wr.heap.size wr) (.cells #[.int .i64 X.f0, .int .i64 X.f1, .int .i64 X.f2, .bool X.f3, .slice D4 X.f4.length f4, .slice D5 X.f5.length f5] 51 (0, 0))))
     generalize World.alloc wr _ = W1 at *
     generalize wr.heap.size = gX at *
     clear x0 x1 x2 x3 x4 x5 HM HK HB
     have x5 : W1.cell? ⟨gX, 5, none⟩ = some (.slice D5 X.f5.length f5) := (blk_cell HX1.out 5).trans rfl
     go_wp2_with fail
     go_roundg k2
     case measure => omega
     case rel => exact ⟨_, j + 1, rfl, by rw [HY2.out.1], ⟨HY2.out.2.1, HY2.out.2.2, by rw [HJ.out, HD2.out]⟩, HM1, HK1, HB1⟩
    ·have hlb2 : decide (j < (T.f10.length : Int)) = false := decide_eq_false hlj
     have HJ := Aside0.mk (show bytS T.f10 s = s2 by
      rw [hj.out.2.2, List.drop_of_length_le (by have := hj.out; omega)]
      rfl)
     replace hlj := eq_false hlj
     clear hj
     go_wp2_with fail
     go_roundg k1
     case measure => omega
     case rel => exact ⟨s2, i + 1, rfl, by rw [HY.out.1], ⟨HY.out.2.1, HY.out.2.2, by rw [HI.out, HD.out, HJ.out]⟩, HM, HB⟩
  ·have hlb : decide (i < (ts.length : Int)) = false := decide_eq_false hlt
   have HV2 := Aside0.mk (show V = s by rw [hi.out.2.2, List.drop_of_length_le (by have := hi.out; omega)]; rfl)
   obtain ⟨m0, m1, m2, m3, m4, m5⟩ := mv_cells HM.out
   replace hlt := eq_false hlt
   clear hi
   go_wp2_with fail
   refine wp_loop_rounds 1 ?_
   rw [rounds_succ]
   go_wp2_with fail
   go_ret
   exact ⟨ret_i HV2.out.symm, HB.out⟩
end
end Go.Proofs.Ytknklchmpohjfaa.Gq
namespace Go.Proofs.Ytknklchmpohjfaa.Gw
open Go.RowKit Go Go.Proofs.YtknklchmpohjfaaW.PrintWords Go.Proofs.YtknklchmpohjfaaW.PrintLast Go.Proofs.YtknklchmpohjfaaW.PrintMore Go.Proofs.Ytknklchmpohjfaa.Mn Go.Proofs.Ytknklchmpohjfaa.Nd Go.Proofs.Ytknklchmpohjfaa.Z Go.Proofs.Ytknklchmpohjfaa.Rf Go.Proofs.Ytknklchmpohjfaa.E Go.Proofs.Ytknklchmpohjfaa.Tk Go.Proofs.Ytknklchmpohjfaa.Tw Go.Proofs.Ytknklchmpohjfaa.Gt Go.Proofs.Ytknklchmpohjfaa.Gs Go.Proofs.Ytknklchmpohjfaa.Gd Go.Proofs.Ytknklchmpohjfaa.Ge Go.Proofs.Ytknklchmpohjfaa.Gk Go.Proofs.Ytknklchmpohjfaa.Gr Go.Proofs.Ytknklchmpohjfaa.Gx Go.Proofs.Ytknklchmpohjfaa.Gm Go.Proofs.Ytknklchmpohjfaa.Gq Go.Proofs.Ytknklchmpohjfaa.Gv
set_option linter.unusedVariables false
set_option linter.unusedSimpArgs false
section
variable (scaleM : Int) (title : ByteArray) (ts : List Tr') (A2 : Option Addr) (c2 : Nat) (A3 : Option Addr) (n3 c3 : Nat) (A5 : Option Addr) (n5 c5 : Nat) (A6 : Option Addr) (n6 c6 : Nat)
set_option maxHeartbeats 16000000 in
set_option maxRecDepth 100000 in
theorem shown_n (id a b j i : Int) (T : Tr') (hT : rd_T40 ts i = T) (w : World) (hr : Kd.C k40 w A2 ts.length ts) (h0 : 1 ≤ b) (h1 : b ≤ 1152921504606846976) (h2 : 0 ≤ a) (h3 : a ≤ 1152921504606846976) (hi : findT ts id 0 = i) (i0 : 0 ≤ i) (i1 : i < (ts.length : Int))
  (h8 : T.f8.length = 0) (hsc : 1 ≤ T.f3 ∧ T.f3 ≤ 1000000) (hs : ∀ s ∈ T.f10, rngS s) (hl : T.f10.length ≤ 1000)
  (hc : ∀ W, Below w.heap.size w W → Calls Try.prog 9 #[.agg #[.int .i64 scaleM, .string title, .slice A2 ts.length c2, .slice A3 n3 c3, .slice A5 n5 c5, .slice A6 n6 c6]] W (ValP W (.tuple #[.int .i64 0, .int .i64 j]))) :
  Calls Try.prog 42 #[.agg #[.int .i64 scaleM, .string title, .slice A2 ts.length c2, .slice A3 n3 c3, .slice A5 n5 c5, .slice A6 n6 c6], .int .i64 id, .agg #[.int .i64 a, .int .i64 b]] w (ValP w (.tuple #[.int .i64 (shL (qq a b * qq T.f3 1) T.f10 T.f10 0 (-1)), .int .i64 0])) := by
 have hu := Try.underlying40
 have hu2 := Try.underlying27
 have hu3 := Try.underlying77
 have HA := Aside0.mk (fun W (hb : Below w.heap.size w W) => asked_n scaleM title ts A2 c2 A3 n3 c3 A5 n5 c5 A6 n6 c6 id a b j i W (Kd.C_below hr hb) h0 h1 (by omega) h3 hi i0 i1 (fun W2 h => hc W2 (hb.trans (h.mono hb.size))))
 have HRO := Aside0.mk (fun W => ratOf_n a b W (by omega) (by omega) (by omega) (by omega) (by omega))
 have hq0 : 0 ≤ (qq a b).num := by
  have := (rat_low (a := a) (b := b) (by omega)).1
  rw [← this]
  unfold Ra.ratN Ea.lowN
  rw [if_neg (by omega)]
  exact Int.ediv_nonneg h2 (Int.natCast_nonneg _)
 have HP := Aside0.mk (And.intro hq0 (And.intro hsc (And.intro hs hl)))
 have HT := Aside0.mk (And.intro hT h8)
 clear hr h0 h1 h2 h3 hi i0 i1 h8 hsc hs hl hc hT hq0
 go_enter Try.func42, Try.ntmps42
 go_upto_region 1 with (first | ((with_reducible refine gate_dst (N := 3) rfl ?_); refine zB 3 27 #[.int .i64 scaleM, .string title, .slice A2 ts.length c2, .slice A3 n3 c3, .slice A5 n5 c5, .slice A6 n6 c6] ?_; intro gm hg W0 hbox hb; have HGM := Aside0.mk hg; have HM0 := Aside0.mk hbox; have HB0 := Aside0.mk hb; clear hbox hb hg) | ((with_reducible refine gate_dst (N := 5) rfl ?_); refine zB 5 77 #[.int .i64 a, .int .i64 b] ?_; intro gx hg W1 hbox hb; have HM1 := Aside0.mk (blk_below HM0.out hb); have HX1 := Aside0.mk hbox; have HB1 := Aside0.mk (HB0.out.trans (hb.mono HB0.out.size)); clear hbox hb hg))
 obtain ⟨m0, m1, m2, m3, m4, m5⟩ := mv_cells HM1.out
 obtain ⟨x0, x1, _, _⟩ := xc2 HX1
 go_wp2_with fail
 refine (HA.out W1 HB1.out).mono ?_
 rintro e w3 ⟨T', hT', B4, d4, B8, d8, B9, d9, B10, d10, rfl, hd, hb3⟩
 obtain rfl : T = T' := HT.out.1.symm.trans hT'.symm
 rw [HT.out.2]
 have HM3 := Aside0.mk (blk_below HM1.out hb3)
 have HX3 := Aside0.mk (blk_below HX1.out hb3)
 have HB3 := Aside0.mk (HB1.out.trans (hb3.mono HB1.out.size))
 have HD3 := Aside0.mk hd.p
 clear hb3 hd hT' m0 m1 m2 m3 m4 m5 x0 x1 HM1 HX1 HB1 HA
 go_upto_region 4 with fail
 have HM4 := Aside0.mk (blk_alloc HM3.out (.cells #[.int .i64 T.f0, .int .i64 T.f1, .string T.f2, .int .i64 T.f3, .slice B4 T.f4.length d4, .string T.f5, .string T.f6, .int .i64 T.f7, .slice B8 0 d8, .slice B9 T.f9.length d9, .slice B10 T.f10.length d10] 40 (0, 0)))
 have HX4 := Aside0.mk (blk_alloc HX3.out (.cells #[.int .i64 T.f0, .int .i64 T.f1, .string T.f2, .int .i64 T.f3, .slice B4 T.f4.length d4, .string T.f5, .string T.f6, .int .i64 T.f7, .slice B8 0 d8, .slice B9 T.f9.length d9, .slice B10 T.f10.length d10] 40 (0, 0)))
 have HT4 := Aside0.mk (blk_new w3 (.cells #[.int .i64 T.f0, .int .i64 T.f1, .string T.f2, .int .i64 T.f3, .slice B4 T.f4.length d4, .string T.f5, .string T.f6, .int .i64 T.f7, .slice B8 0 d8, .slice B9 T.f9.length d9, .slice B10 T.f10.length d10] 40 (0, 0)))
 have HB4 := Aside0.mk (below_alloc HB3.out (.cells #[.int .i64 T.f0, .int .i64 T.f1, .string T.f2, .int .i64 T.f3, .slice B4 T.f4.length d4, .string T.f5, .string T.f6, .int .i64 T.f7, .slice B8 0 d8, .slice B9 T.f9.length d9, .slice B10 T.f10.length d10] 40 (0, 0)))
 have HD4 := Aside0.mk (Kd.C_below HD3.out (below_alloc (Below.refl w3.heap.size w3) (.cells #[.int .i64 T.f0, .int .i64 T.f1, .string T.f2, .int .i64 T.f3, .slice B4 T.f4.length d4, .string T.f5, .string T.f6, .int .i64 T.f7, .slice B8 0 d8, .slice B9 T.f9.length d9, .slice B10 T.f10.length d10] 40 (0, 0))))
 generalize World.alloc w3 _ = W4 at *
 generalize w3.heap.size = gt at *
 clear HM3 HX3 HB3 HD3
 have hb0 : Below W4.heap.size W4 W4.drew := below_drew' (Below.refl _ _)
 refine start_ (n := 7) (S := fun w' => w'.cell? ⟨gm, 0, none⟩ = some (.int .i64 scaleM) ∧ w'.cell? ⟨gm, 1, none⟩ = some (.string title) ∧ w'.cell? ⟨gm, 2, none⟩ = some (.slice A2 ts.length c2) ∧ w'.cell? ⟨gm, 3, none⟩ = some (.slice A3 n3 c3) ∧ w'.cell? ⟨gm, 4, none⟩ = some (.slice A5 n5 c5) ∧ w'.cell? ⟨gm, 5, none⟩ = some (.slice A6 n6 c6) ∧ w'.cell? ⟨gt, 0, none⟩ = some (.int .i64 T.f0) ∧ w'.cell? ⟨gt, 1, none⟩ = some (.int .i64 T.f1) ∧ w'.cell? ⟨gt, 2, none⟩ = some (.string T.f2) ∧ w'.cell? ⟨gt, 3, none⟩ = some (.int .i64 T.f3) ∧ w'.cell? ⟨gt, 4, none⟩ = some (.slice B4 T.f4.length d4) ∧ w'.cell? ⟨gt, 5, none⟩ = some (.string T.f5) ∧ w'.cell? ⟨gt, 6, none⟩ = some (.string T.f6) ∧ w'.cell? ⟨gt, 7, none⟩ = some (.int .i64 T.f7) ∧ w'.cell? ⟨gt, 8, none⟩ = some (.slice B8 0 d8) ∧ w'.cell? ⟨gt, 9, none⟩ = some (.slice B9 T.f9.length d9) ∧ w'.cell? ⟨gt, 10, none⟩ = some (.slice B10 T.f10.length d10) ∧ w'.cell? ⟨gx, 0, none⟩ = some (.int .i64 a) ∧ w'.cell? ⟨gx, 1, none⟩ = some (.int .i64 b)) (ds := [4, 5, 6]) (bs 7 0) (by kernel_rfl) rfl rfl ⟨(blk_cell (blk_below HM4.out hb0) 0).trans rfl, (blk_cell (blk_below HM4.out hb0) 1).trans rfl, (blk_cell (blk_below HM4.out hb0) 2).trans rfl, (blk_cell (blk_below HM4.out hb0) 3).trans rfl, (blk_cell (blk_below HM4.out hb0) 4).trans rfl, (blk_cell (blk_below HM4.out hb0) 5).trans rfl, (blk_cell (blk_below HT4.out hb0) 0).trans rfl, (blk_cell (blk_below HT4.out hb0) 1).trans rfl, (blk_cell (blk_below HT4.out hb0) 2).trans rfl, (blk_cell (blk_below HT4.out hb0) 3).trans rfl, (blk_cell (blk_below HT4.out hb0) 4).trans rfl, (blk_cell (blk_below HT4.out hb0) 5).trans rfl, (blk_cell (blk_below HT4.out hb0) 6).trans rfl, (blk_cell (blk_below HT4.out hb0) 7).trans rfl, (blk_cell (blk_below HT4.out hb0) 8).trans rfl, (blk_cell (blk_below HT4.out hb0) 9).trans rfl, (blk_cell (blk_below HT4.out hb0) 10).trans rfl, (blk_cell (blk_below HX4.out hb0) 0).trans rfl, (blk_cell (blk_below HX4.out hb0) 1).trans rfl⟩ (fun hHeld => ?_)
 refine zT 0 20 7 1 hHeld ?_
 refine zT 1 21 7 3 hHeld ?_
 refine zT 2 22 7 7 hHeld ?_
 refine zN 3 (some 23) 7 15 (fun K hK => ?_)
 refine zG Try.func59 #[.agg #[.int .i64 a, .int .i64 b]] ?_
 with_reducible refine (HRO.out W4.drew).mono ?_
 rintro e w5 ⟨g5, hg5, rfl, hb5, hN5⟩
 refine ⟨_, rfl, ?_⟩
 have H5 := Aside0.mk (And.intro (below_drew' hb5) hN5)
 clear hg5 hb5 hN5
 refine hK.out _ _ ⟨(blk_cell (blk_below HM4.out H5.out.1) 0).trans rfl, (blk_cell (blk_below HM4.out H5.out.1) 1).trans rfl, (blk_cell (blk_below HM4.out H5.out.1) 2).trans rfl, (blk_cell (blk_below HM4.out H5.out.1) 3).trans rfl, (blk_cell (blk_below HM4.out H5.out.1) 4).trans rfl, (blk_cell (blk_below HM4.out H5.out.1) 5).trans rfl, (blk_cell (blk_below HT4.out H5.out.1) 0).trans rfl, (blk_cell (blk_below HT4.out H5.out.1) 1).trans rfl, (blk_cell (blk_below HT4.out H5.out.1) 2).trans rfl, (blk_cell (blk_below HT4.out H5.out.1) 3).trans rfl, (blk_cell (blk_below HT4.out H5.out.1) 4).trans rfl, (blk_cell (blk_below HT4.out H5.out.1) 5).trans rfl, (blk_cell (blk_below HT4.out H5.out.1) 6).trans rfl, (blk_cell (blk_below HT4.out H5.out.1) 7).trans rfl, (blk_cell (blk_below HT4.out H5.out.1) 8).trans rfl, (blk_cell (blk_below HT4.out H5.out.1) 9).trans rfl, (blk_cell (blk_below HT4.out H5.out.1) 10).trans rfl, (blk_cell (blk_below HX4.out H5.out.1) 0).trans rfl, (blk_cell (blk_below HX4.out H5.out.1) 1).trans rfl⟩ (fun hHeld => ?_)
 clear hK K
 refine zM 23 ?_
 refine zL 4 (some 24) 7 31 (fun K hK => ?_)
 refine zG Try.func58 #[.agg #[.int .i64 scaleM, .string title, .slice A2 ts.length c2, .slice A3 n3 c3, .slice A5 n5 c5, .slice A6 n6 c6], .agg #[.int .i64 T.f0, .int .i64 T.f1, .string T.f2, .int .i64 T.f3, .slice B4 T.f4.length d4, .string T.f5, .string T.f6, .int .i64 T.f7, .slice B8 0 d8, .slice B9 T.f9.length d9, .slice B10 T.f10.length d10], .pointer (some ⟨g5, 0, none⟩)] ?_
 with_reducible refine (shown0_n scaleM title A2 ts.length c2 A3 n3 c3 A5 n5 c5 A6 n6 c6 T.f0 T.f1 T.f2 T.f3 B4 d4 T.f4 T.f5 T.f6 T.f7 B8 d8 B9 d9 T.f9 B10 d10 T.f10 g5 (qq a b) 2 w5 H5.out.2 HP.out.1 HP.out.2.1 (Kd.C_below HD4.out H5.out.1) (by decide) HP.out.2.2.1 HP.out.2.2.2).mono ?_
 rintro e w6 ⟨rfl, hb6⟩
 refine ⟨_, rfl, ?_⟩
 have H6 := Aside0.mk (HB4.out.trans ((H5.out.1.trans (hb6.mono H5.out.1.size)).mono HB4.out.size))
 clear hb6
 refine hK.out _ _ ?_
 clear hK K
 refine zM 24 ?_
 refine zP 5 6 7 63 ?_
 refine zP 6 7 7 127 ?_
 refine done_ (by kernel_rfl) ?_
 go_wp2_with fail
 go_ret2
 exact ⟨rfl, H6.out⟩
end
def awT : Tr' := ⟨1, 7, ⟨#[100, 97, 116, 97]⟩, 10, [], ⟨#[117, 110, 100]⟩, ⟨#[]⟩, 0, [], [], awS⟩
theorem AwB.below {W W1 : World} {b : Nat} (h : AwB W b) (hb : Below W.heap.size W W1) : AwB W1 b := ⟨blk_below h.d1 hb, blk_below h.d2 hb, blk_below h.s hb⟩
set_option maxRecDepth 100000 in
theorem aw_C {W : World} {b gs : Nat} (h : AwB W b) (hg : W.heap[gs]? = some (.cells #[.int .i64 1, .int .i64 7, .string ⟨#[100, 97, 116, 97]⟩, .int .i64 10, .slice none 0 0, .string ⟨#[117, 110, 100]⟩, .string (⟨#[]⟩ : ByteArray), .int .i64 0, .slice none 0 0, .slice none 0 0, .slice (some ⟨b + 1 + 1, 0, none⟩) 3 3] 40 (0, 0))) : Kd.C k40 W (some ⟨gs, 0, none⟩) 1 [awT] := by
 refine ⟨rfl, by decide, fun _ => ⟨⟨gs, 0, none⟩, rfl, fun j p hj => ?_⟩⟩
 cases j with
 | succ j => simp at hj
 | zero =>
  simp only [List.getElem?_cons_zero, Option.some.injEq] at hj
  subst hj
  refine ⟨_, rfl, k40_mk W awT (A4 := none) (c4 := 0) (Nat.le_refl _) (Kd.C_nil _ _) (A8 := none) (c8 := 0) (Nat.le_refl _) (Kd.C_nil _ _) (A9 := none) (c9 := 0) (Nat.le_refl _) (Kd.C_nil _ _) (A10 := some ⟨b + 1 + 1, 0, none⟩) (c10 := 3) (by decide) h.C, fun i u hu => ?_⟩
  rw [at_off, blk_cell hg]
  rw [← hu]
  rcases i with _ | _ | _ | _ | _ | _ | _ | _ | _ | _ | _ | i <;> first | rfl | simp at hu
set_option maxRecDepth 100000 in
theorem aw_chk : chkM 10 (⟨#[]⟩ : ByteArray) [awT] 0 0 0 0 0 (bytV [awT] 0) = (0, -1) := by decide +kernel
set_option maxRecDepth 100000 in
theorem aw_sh : shL (qq 1 2 * qq awT.f3 1) awT.f10 awT.f10 0 (-1) = 2 := by decide +kernel
set_option maxRecDepth 100000 in
theorem aw_ok : ∀ T ∈ [awT], okB T.f2 T.f5 T.f6 T.f9 = true := by decide +kernel
theorem aw_rng : ∀ s ∈ awT.f10, rngS s := by
 intro s hs
 have : s = ⟨0, 0, 5, true, [], []⟩ ∨ s = ⟨1, 10, 5, false, [0], []⟩ ∨ s = ⟨2, 5, 5, false, [0, 1], []⟩ := by simpa [awT, awS] using hs
 unfold rngS
 rcases this with rfl | rfl | rfl <;> exact ⟨by decide, by decide, by decide⟩
theorem aw_id : ∀ T ∈ [awT], Wf T.f0 := by
 intro T hT
 rw [List.mem_singleton] at hT
 subst hT
 exact wf_of (by decide) (by decide)
theorem awCheck_n (gs : Nat) (W : World) (hC : Kd.C k40 W (some ⟨gs, 0, none⟩) 1 [awT]) : Calls Try.prog 9 #[.agg #[.int .i64 10, .string (⟨#[]⟩ : ByteArray), .slice (some ⟨gs, 0, none⟩) 1 1, .slice none 0 0, .slice none 0 0, .slice none 0 0]] W (ValP W (.tuple #[.int .i64 0, .int .i64 (-1)])) := by
 have := check_n 10 (⟨#[]⟩ : ByteArray) [awT] (some ⟨gs, 0, none⟩) 1 none 0 0 none 0 0 none 0 0 0 0 (bytV [awT] 0) W hC (by unfold Bs; decide) aw_ok (fun W2 _ => chap0_n 10 (⟨#[]⟩ : ByteArray) [awT] (some ⟨gs, 0, none⟩) 1 W2) (fun W2 hb => rest0_n 10 (⟨#[]⟩ : ByteArray) [awT] (some ⟨gs, 0, none⟩) 1 W2 (Kd.C_below hC hb) (by decide) aw_id) (fun W2 hb => bytes0_n 10 (⟨#[]⟩ : ByteArray) [awT] (some ⟨gs, 0, none⟩) 1 W2 (Kd.C_below hC hb))
 rw [aw_chk] at this
 exact this
theorem awShown_n (gs : Nat) (W : World) (hC : Kd.C k40 W (some ⟨gs, 0, none⟩) 1 [awT]) : Calls Try.prog 42 #[.agg #[.int .i64 10, .string (⟨#[]⟩ : ByteArray), .slice (some ⟨gs, 0, none⟩) 1 1, .slice none 0 0, .slice none 0 0, .slice none 0 0], .int .i64 1, .agg #[.int .i64 1, .int .i64 2]] W (ValP W (.tuple #[.int .i64 2, .int .i64 0])) := by
 have := shown_n 10 (⟨#[]⟩ : ByteArray) [awT] (some ⟨gs, 0, none⟩) 1 none 0 0 none 0 0 none 0 0 1 1 2 (-1) 0 awT rfl W hC (by decide) (by decide) (by decide) (by decide) rfl (by decide) (by decide) rfl (by decide) aw_rng (by decide) (fun W2 hb => awCheck_n gs W2 (Kd.C_below hC hb))
 rw [aw_sh] at this
 exact this
set_option maxHeartbeats 8000000 in
set_option maxRecDepth 100000 in
theorem awake_n (w : World) : Calls Try.prog 15 #[] w (ValP w (.bool true)) := by
 have hu := Try.underlying40
 have hu2 := Try.underlying27
 have hu3 := Try.underlying77
 have hu4 := Try.underlying22
 go_enter Try.func15, Try.ntmps15
 go_wp2_with fail
 refine (track_n w).mono ?_
 rintro e w1 ⟨b, rfl, hAw, hb1⟩
 have HA1 := Aside0.mk hAw
 have HB1 := Aside0.mk hb1
 clear hAw hb1
 go_upto_region 2 with (first | ((with_reducible refine gate_dst (N := 7) rfl ?_); refine zS 7 40 #[.int .i64 1, .int .i64 7, .string ⟨#[100, 97, 116, 97]⟩, .int .i64 10, .slice none 0 0, .string ⟨#[117, 110, 100]⟩, .string (⟨#[]⟩ : ByteArray), .int .i64 0, .slice none 0 0, .slice none 0 0, .slice (some ⟨b + 1 + 1, 0, none⟩) 3 3] ?_; intro gs hgs w2 hsb hsl; have HS2 := Aside0.mk hsb; have HA2 := Aside0.mk (AwB.below HA1.out hsl); have HB2 := Aside0.mk (HB1.out.trans (hsl.mono HB1.out.size)); clear hsb hsl hgs))
 have HM3 := Aside0.mk (blk_new w2 (.cells #[.int .i64 10, .string (⟨#[]⟩ : ByteArray), .slice (some ⟨gs, 0, none⟩) 1 1, .slice none 0 0, .slice none 0 0, .slice none 0 0] 27 (0, 0)))
 have hb := below_alloc (Below.refl w2.heap.size w2) (.cells #[.int .i64 10, .string (⟨#[]⟩ : ByteArray), .slice (some ⟨gs, 0, none⟩) 1 1, .slice none 0 0, .slice none 0 0, .slice none 0 0] 27 (0, 0))
 have HC3 := Aside0.mk (Kd.C_below (aw_C HA2.out HS2.out) hb)
 have HB3 := Aside0.mk (HB2.out.trans (hb.mono HB2.out.size))
 generalize World.alloc w2 _ = w3 at *
 generalize w2.heap.size = gm at *
 clear hb
 obtain ⟨m0, m1, m2, m3, m4, m5⟩ := mv_cells HM3.out
 go_wp2_with fail
 refine (awCheck_n gs w3 HC3.out).mono ?_
 rintro e w4 ⟨rfl, hb4⟩
 have HM4 := Aside0.mk (blk_below HM3.out hb4)
 have HC4 := Aside0.mk (Kd.C_below HC3.out hb4)
 have HB4 := Aside0.mk (HB3.out.trans (hb4.mono HB3.out.size))
 clear hb4 m0 m1 m2 m3 m4 m5
 obtain ⟨m0, m1, m2, m3, m4, m5⟩ := mv_cells HM4.out
 go_wp2_with fail
 refine (awShown_n gs w4 HC4.out).mono ?_
 rintro e w5 ⟨rfl, hb5⟩
 have HB5 := Aside0.mk (HB4.out.trans (hb5.mono HB4.out.size))
 clear hb5
 go_wp2_with fail
 go_ret
 exact ⟨rfl, HB5.out⟩
end Go.Proofs.Ytknklchmpohjfaa.Gw
namespace Go.Proofs.Ytknklchmpohjfaa.E
open Go.RowKit Go
def dioramalaw03_awake.f : Option Bool := some true
theorem dioramalaw03_awake.calls (r : Bool) (w : World) (h : dioramalaw03_awake.f = some r) : Calls Try.prog 15 #[] w fun e w' => e = .returned (.bool r) ∧ Below w.heap.size w w' := by
 obtain rfl : true = r := Option.some.inj h
 exact Gw.awake_n w
end Go.Proofs.Ytknklchmpohjfaa.E
namespace Go.Proofs.Ytknklchmpohjfaa.E
open Go.Proofs.Ytknklchmpohjfaa.Z Go.RowKit Go.Proofs.YtknklchmpohjfaaW.PrintWords Go.Proofs.YtknklchmpohjfaaW.PrintLast Go.Proofs.YtknklchmpohjfaaW.PrintMore
attribute [local go_sem] max2_int min2_int max_two min_two max_three min_three max_four min_four
set_option linter.unusedVariables false
set_option linter.unusedSimpArgs false
def dioramalaw03_ModelNeeds.f (k : Nat) (a0_0 : Int) (a0_1 : Int) (a0_2 : ByteArray) (a0_3 : Int) (l0_4 : List Int) (a0_5 : ByteArray) (a0_6 : ByteArray) (a0_7 : Int) (l0_8 : List (S86)) (l0_9 : List (S68)) (l0_10 : List (S51)) (a1 : Int) : Option (Bool) := (model_Order.f a0_0 a0_1 a0_2 a0_3 l0_4 a0_5 a0_6 a0_7 l0_8 l0_9 l0_10 500).bind fun t181 => (if t181 = true then ((model_Needs.f a0_0 a0_1 a0_2 a0_3 l0_4 a0_5 a0_6 a0_7 l0_8 l0_9 l0_10 a1).bind fun bt182 => ((dioramaref03_Needs.f k a0_0 a0_1 a0_2 a0_3 l0_4 a0_5 a0_6 a0_7 l0_8 l0_9 l0_10 a1).bind fun bt186 => ((model_Start.f k a0_0 a0_1 a0_2 a0_3 l0_4 a0_5 a0_6 a0_7 l0_8 l0_9 l0_10 a1).bind fun bt190 => ((dioramaref03_Start.f k a0_0 a0_1 a0_2 a0_3 l0_4 a0_5 a0_6 a0_7 l0_8 l0_9 l0_10 a1).bind fun bt192 => ((dioramaref00_EqInts.f k bt182.1 bt186.1).bind fun t194 => (if t194 = true then (if bt182.2 = bt186.2 then (if bt190.1 = bt192.1 then (if bt190.2 = bt192.2 then ((dioramalaw03_awake.f).bind fun t195 => (some t195)) else (some false)) else (some false)) else (some false)) else (some false))))))) else (some true))
set_option maxHeartbeats 8000000 in
set_option maxRecDepth 100000 in
theorem dioramalaw03_ModelNeeds.calls (k : Nat) (a0_0 : Int) (a0_1 : Int) (a0_2 : ByteArray) (a0_3 : Int) (A0_4 : Option Addr) (c0_4 : Nat) (l0_4 : List Int) (a0_5 : ByteArray) (a0_6 : ByteArray) (a0_7 : Int) (A0_8 : Option Addr) (c0_8 : Nat) (l0_8 : List (S86)) (A0_9 : Option Addr) (c0_9 : Nat) (l0_9 : List (S68)) (A0_10 : Option Addr) (c0_10 : Nat) (l0_10 : List (S51)) (a1 : Int) (r : Bool) (w : World) (hr0_4 : Kd.C (Kd.int .u8) w A0_4 l0_4.length l0_4) (hc0_4 : l0_4.length ≤ c0_4) (hr0_8 : Kd.C k86 w A0_8 l0_8.length l0_8) (hc0_8 : l0_8.length ≤ c0_8) (hr0_9 : Kd.C k68 w A0_9 l0_9.length l0_9) (hc0_9 : l0_9.length ≤ c0_9) (hr0_10 : Kd.C k51 w A0_10 l0_10.length l0_10) (hc0_10 : l0_10.length ≤ c0_10) (h : dioramalaw03_ModelNeeds.f k a0_0 a0_1 a0_2 a0_3 l0_4 a0_5 a0_6 a0_7 l0_8 l0_9 l0_10 a1 = some r) :
  Calls Try.prog 4 #[.agg #[.int .i64 a0_0, .int .i64 a0_1, .string a0_2, .int .i64 a0_3, .slice A0_4 l0_4.length c0_4, .string a0_5, .string a0_6, .int .i64 a0_7, .slice A0_8 l0_8.length c0_8, .slice A0_9 l0_9.length c0_9, .slice A0_10 l0_10.length c0_10], .int .i64 a1] w fun e w' => e = .returned (.bool r) ∧ Below w.heap.size w w' := by
 have hu40 := Try.underlying40; have huM_ := Try.underlying27; have huS_ := Try.underlying22; have HR0_4 := Aside0.mk hr0_4; have HC0_4 := Aside0.mk hc0_4; clear hr0_4 hc0_4; have HR0_8 := Aside0.mk hr0_8; have HC0_8 := Aside0.mk hc0_8; clear hr0_8 hc0_8; have HR0_9 := Aside0.mk hr0_9; have HC0_9 := Aside0.mk hc0_9; clear hr0_9 hc0_9; have HR0_10 := Aside0.mk hr0_10; have HC0_10 := Aside0.mk hc0_10; clear hr0_10 hc0_10; have HB := Aside0.mk (Below.refl w.heap.size w); have H : ((model_Order.f a0_0 a0_1 a0_2 a0_3 l0_4 a0_5 a0_6 a0_7 l0_8 l0_9 l0_10 500).bind fun t181 => (if t181 = true then ((model_Needs.f a0_0 a0_1 a0_2 a0_3 l0_4 a0_5 a0_6 a0_7 l0_8 l0_9 l0_10 a1).bind fun bt182 => ((dioramaref03_Needs.f k a0_0 a0_1 a0_2 a0_3 l0_4 a0_5 a0_6 a0_7 l0_8 l0_9 l0_10 a1).bind fun bt186 => ((model_Start.f k a0_0 a0_1 a0_2 a0_3 l0_4 a0_5 a0_6 a0_7 l0_8 l0_9 l0_10 a1).bind fun bt190 => ((dioramaref03_Start.f k a0_0 a0_1 a0_2 a0_3 l0_4 a0_5 a0_6 a0_7 l0_8 l0_9 l0_10 a1).bind fun bt192 => ((dioramaref00_EqInts.f k bt182.1 bt186.1).bind fun t194 => (if t194 = true then (if bt182.2 = bt186.2 then (if bt190.1 = bt192.1 then (if bt190.2 = bt192.2 then ((dioramalaw03_awake.f).bind fun t195 => (some t195)) else (some false)) else (some false)) else (some false)) else (some false))))))) else (some true))) = some r := h
 clear h; obtain ⟨t181, A3, H⟩ := ob H
 by_cases c4 : t181 = true
 ·subst c4; rw [if_pos rfl] at H; obtain ⟨⟨t182, t185⟩, A5, H⟩ := ob H
  (try dsimp only at H)
  obtain ⟨⟨t186, t189⟩, A6, H⟩ := ob H
  (try dsimp only at H)
  obtain ⟨⟨t190, t191⟩, A7, H⟩ := ob H
  (try dsimp only at H)
  obtain ⟨⟨t192, t193⟩, A8, H⟩ := ob H
  (try dsimp only at H)
  obtain ⟨t194, A9, H⟩ := ob H
  by_cases c10 : t194 = true
  ·subst c10; rw [if_pos rfl] at H
   by_cases c11 : t185 = t189
   ·rw [if_pos c11] at H; have c11b0 : (t185 == t189) = true := beq_iff_eq.mpr c11; have c11b1 : (t185 != t189) = false := bne_eq_false_iff_eq.mpr c11; clear c11
    by_cases c12 : t190 = t192
    ·rw [if_pos c12] at H; have c12b0 : (t190 == t192) = true := beq_iff_eq.mpr c12; have c12b1 : (t190 != t192) = false := bne_eq_false_iff_eq.mpr c12; clear c12
     by_cases c13 : t191 = t193
     ·rw [if_pos c13] at H; have c13b0 : (t191 == t193) = true := beq_iff_eq.mpr c13; have c13b1 : (t191 != t193) = false := bne_eq_false_iff_eq.mpr c13; clear c13; obtain ⟨t195, A14, H⟩ := ob H; obtain rfl := Option.some.inj H
      go_enter Try.func4, Try.ntmps4
      go_wp2_with (first | ((with_reducible refine gate_dst (N := 2) rfl ?_); refine zB 2 40 #[.int .i64 a0_0, .int .i64 a0_1, .string a0_2, .int .i64 a0_3, .slice A0_4 l0_4.length c0_4, .string a0_5, .string a0_6, .int .i64 a0_7, .slice A0_8 l0_8.length c0_8, .slice A0_9 l0_9.length c0_9, .slice A0_10 l0_10.length c0_10] ?_; intro gb180 hg w15 hbox hb; have BK180 := Aside0.mk hbox; have GW180 := gz hg; have GE180 := gz hg; replace HB := bp hb; clear hb hbox hg; have hcz16_0 : w15.cell? ⟨gb180, 0, none⟩ = some (.int .i64 a0_0) := ct BK180 0; have hcz16_1 : w15.cell? ⟨gb180, 1, none⟩ = some (.int .i64 a0_1) := ct BK180 1; have hcz16_2 : w15.cell? ⟨gb180, 2, none⟩ = some (.string a0_2) := ct BK180 2; have hcz16_3 : w15.cell? ⟨gb180, 3, none⟩ = some (.int .i64 a0_3) := ct BK180 3; have hcz16_4 : w15.cell? ⟨gb180, 4, none⟩ = some (.slice A0_4 l0_4.length c0_4) := ct BK180 4; have hcz16_5 : w15.cell? ⟨gb180, 5, none⟩ = some (.string a0_5) := ct BK180 5; have hcz16_6 : w15.cell? ⟨gb180, 6, none⟩ = some (.string a0_6) := ct BK180 6; have hcz16_7 : w15.cell? ⟨gb180, 7, none⟩ = some (.int .i64 a0_7) := ct BK180 7; have hcz16_8 : w15.cell? ⟨gb180, 8, none⟩ = some (.slice A0_8 l0_8.length c0_8) := ct BK180 8; have hcz16_9 : w15.cell? ⟨gb180, 9, none⟩ = some (.slice A0_9 l0_9.length c0_9) := ct BK180 9; have hcz16_10 : w15.cell? ⟨gb180, 10, none⟩ = some (.slice A0_10 l0_10.length c0_10) := ct BK180 10; have hfz16_0 := blk_frozen BK180.out 0; have hfz16_1 := blk_frozen BK180.out 1; have hfz16_2 := blk_frozen BK180.out 2; have hfz16_3 := blk_frozen BK180.out 3; have hfz16_4 := blk_frozen BK180.out 4; have hfz16_5 := blk_frozen BK180.out 5; have hfz16_6 := blk_frozen BK180.out 6; have hfz16_7 := blk_frozen BK180.out 7; have hfz16_8 := blk_frozen BK180.out 8; have hfz16_9 := blk_frozen BK180.out 9; have hfz16_10 := blk_frozen BK180.out 10) | ((with_reducible refine gate_dst (N := 14) rfl ?_); refine Gv.zS 14 40 #[.int .i64 a0_0, .int .i64 a0_1, .string a0_2, .int .i64 a0_3, .slice A0_4 l0_4.length c0_4, .string a0_5, .string a0_6, .int .i64 a0_7, .slice A0_8 l0_8.length c0_8, .slice A0_9 l0_9.length c0_9, .slice A0_10 l0_10.length c0_10] ?_; intro gs hgs w17s hsb hsl; replace BK180 := kb BK180 hsl; replace HB := bp hsl; have BSS := Aside0.mk hsb; clear hsb hsl hgs) | ((with_reducible refine gate_callee (f := 8) rfl ?_); refine zC 16 Try.func8 #[.agg #[.int .i64 0, .string (⟨#[]⟩ : ByteArray), .slice (some ⟨gs, 0, none⟩) 1 1, .slice none 0 0, .slice none 0 0, .slice none 0 0], .int .i64 500] ?_; (with_reducible refine (small_one a0_0 a0_1 a0_2 a0_3 _ _ l0_4 a0_5 a0_6 a0_7 _ _ l0_8 _ _ l0_9 _ _ l0_10 500 true gs _ ?side1 ?side2 ?side3 ?side4 ?side5 ?side6 ?side7 ?side8 BSS.out A3.out).mono ?_); (case side1 => exact cz HR0_4); (case side2 => exact HC0_4.out); (case side3 => exact cz HR0_8); (case side4 => exact HC0_8.out); (case side5 => exact cz HR0_9); (case side6 => exact HC0_9.out); (case side7 => exact cz HR0_10); (case side8 => exact HC0_10.out); rintro e w17 ⟨rfl, hb⟩; refine ⟨_, rfl, ?_⟩; clear BSS; replace BK180 := kb BK180 hb; replace HB := bp hb; clear hb; have hcz18_0 : w17.cell? ⟨gb180, 0, none⟩ = some (.int .i64 a0_0) := ct BK180 0; have hcz18_1 : w17.cell? ⟨gb180, 1, none⟩ = some (.int .i64 a0_1) := ct BK180 1; have hcz18_2 : w17.cell? ⟨gb180, 2, none⟩ = some (.string a0_2) := ct BK180 2; have hcz18_3 : w17.cell? ⟨gb180, 3, none⟩ = some (.int .i64 a0_3) := ct BK180 3; have hcz18_4 : w17.cell? ⟨gb180, 4, none⟩ = some (.slice A0_4 l0_4.length c0_4) := ct BK180 4; have hcz18_5 : w17.cell? ⟨gb180, 5, none⟩ = some (.string a0_5) := ct BK180 5; have hcz18_6 : w17.cell? ⟨gb180, 6, none⟩ = some (.string a0_6) := ct BK180 6; have hcz18_7 : w17.cell? ⟨gb180, 7, none⟩ = some (.int .i64 a0_7) := ct BK180 7; have hcz18_8 : w17.cell? ⟨gb180, 8, none⟩ = some (.slice A0_8 l0_8.length c0_8) := ct BK180 8; have hcz18_9 : w17.cell? ⟨gb180, 9, none⟩ = some (.slice A0_9 l0_9.length c0_9) := ct BK180 9; have hcz18_10 : w17.cell? ⟨gb180, 10, none⟩ = some (.slice A0_10 l0_10.length c0_10) := ct BK180 10; have hfz18_0 := blk_frozen BK180.out 0; have hfz18_1 := blk_frozen BK180.out 1; have hfz18_2 := blk_frozen BK180.out 2; have hfz18_3 := blk_frozen BK180.out 3; have hfz18_4 := blk_frozen BK180.out 4; have hfz18_5 := blk_frozen BK180.out 5; have hfz18_6 := blk_frozen BK180.out 6; have hfz18_7 := blk_frozen BK180.out 7; have hfz18_8 := blk_frozen BK180.out 8; have hfz18_9 := blk_frozen BK180.out 9; have hfz18_10 := blk_frozen BK180.out 10) | ((with_reducible refine gate_callee (f := 16) rfl ?_); refine zC 21 Try.func16 #[.agg #[.int .i64 a0_0, .int .i64 a0_1, .string a0_2, .int .i64 a0_3, .slice A0_4 l0_4.length c0_4, .string a0_5, .string a0_6, .int .i64 a0_7, .slice A0_8 l0_8.length c0_8, .slice A0_9 l0_9.length c0_9, .slice A0_10 l0_10.length c0_10], .int .i64 a1] ?_; (with_reducible refine (model_Needs.calls a0_0 a0_1 a0_2 a0_3 _ _ l0_4 a0_5 a0_6 a0_7 _ _ l0_8 _ _ l0_9 _ _ l0_10 a1 t182 t185 _ ?side1 ?side2 ?side3 ?side4 ?side5 ?side6 ?side7 ?side8 A5.out).mono ?_); (case side1 => exact cz HR0_4); (case side2 => exact HC0_4.out); (case side3 => exact cz HR0_8); (case side4 => exact HC0_8.out); (case side5 => exact cz HR0_9); (case side6 => exact HC0_9.out); (case side7 => exact cz HR0_10); (case side8 => exact HC0_10.out); rintro e w19 ⟨v183, rfl, ho0, hb⟩; refine ⟨_, rfl, ?_⟩; have HO184 := Aside0.mk (Kd.R_lower ho0 sz); replace BK180 := kb BK180 hb; replace HB := bp hb; clear hb ho0; have hcz20_0 : w19.cell? ⟨gb180, 0, none⟩ = some (.int .i64 a0_0) := ct BK180 0; have hcz20_1 : w19.cell? ⟨gb180, 1, none⟩ = some (.int .i64 a0_1) := ct BK180 1; have hcz20_2 : w19.cell? ⟨gb180, 2, none⟩ = some (.string a0_2) := ct BK180 2; have hcz20_3 : w19.cell? ⟨gb180, 3, none⟩ = some (.int .i64 a0_3) := ct BK180 3; have hcz20_4 : w19.cell? ⟨gb180, 4, none⟩ = some (.slice A0_4 l0_4.length c0_4) := ct BK180 4; have hcz20_5 : w19.cell? ⟨gb180, 5, none⟩ = some (.string a0_5) := ct BK180 5; have hcz20_6 : w19.cell? ⟨gb180, 6, none⟩ = some (.string a0_6) := ct BK180 6; have hcz20_7 : w19.cell? ⟨gb180, 7, none⟩ = some (.int .i64 a0_7) := ct BK180 7; have hcz20_8 : w19.cell? ⟨gb180, 8, none⟩ = some (.slice A0_8 l0_8.length c0_8) := ct BK180 8; have hcz20_9 : w19.cell? ⟨gb180, 9, none⟩ = some (.slice A0_9 l0_9.length c0_9) := ct BK180 9; have hcz20_10 : w19.cell? ⟨gb180, 10, none⟩ = some (.slice A0_10 l0_10.length c0_10) := ct BK180 10; have hfz20_0 := blk_frozen BK180.out 0; have hfz20_1 := blk_frozen BK180.out 1; have hfz20_2 := blk_frozen BK180.out 2; have hfz20_3 := blk_frozen BK180.out 3; have hfz20_4 := blk_frozen BK180.out 4; have hfz20_5 := blk_frozen BK180.out 5; have hfz20_6 := blk_frozen BK180.out 6; have hfz20_7 := blk_frozen BK180.out 7; have hfz20_8 := blk_frozen BK180.out 8; have hfz20_9 := blk_frozen BK180.out 9; have hfz20_10 := blk_frozen BK180.out 10) | ((with_reducible refine gate_callee (f := 17) rfl ?_); refine zC 27 Try.func17 #[.agg #[.int .i64 a0_0, .int .i64 a0_1, .string a0_2, .int .i64 a0_3, .slice A0_4 l0_4.length c0_4, .string a0_5, .string a0_6, .int .i64 a0_7, .slice A0_8 l0_8.length c0_8, .slice A0_9 l0_9.length c0_9, .slice A0_10 l0_10.length c0_10], .int .i64 a1] ?_; (with_reducible refine (dioramaref03_Needs.calls k a0_0 a0_1 a0_2 a0_3 _ _ l0_4 a0_5 a0_6 a0_7 _ _ l0_8 _ _ l0_9 _ _ l0_10 a1 t186 t189 _ ?side1 ?side2 ?side3 ?side4 ?side5 ?side6 ?side7 ?side8 A6.out).mono ?_); (case side1 => exact cz HR0_4); (case side2 => exact HC0_4.out); (case side3 => exact cz HR0_8); (case side4 => exact HC0_8.out); (case side5 => exact cz HR0_9); (case side6 => exact HC0_9.out); (case side7 => exact cz HR0_10); (case side8 => exact HC0_10.out); rintro e w21 ⟨v187, rfl, ho0, hb⟩; refine ⟨_, rfl, ?_⟩; have HO188 := Aside0.mk (Kd.R_lower (Kd.R_new' ho0 (Kd.R_lt (rz HO184))) sz); replace HO184 := Aside0.mk (Kd.R_elder' (rz HO184) (Kd.R_base ho0) hb); replace BK180 := kb BK180 hb; replace HB := bp hb; clear hb ho0; have hcz22_0 : w21.cell? ⟨gb180, 0, none⟩ = some (.int .i64 a0_0) := ct BK180 0; have hcz22_1 : w21.cell? ⟨gb180, 1, none⟩ = some (.int .i64 a0_1) := ct BK180 1; have hcz22_2 : w21.cell? ⟨gb180, 2, none⟩ = some (.string a0_2) := ct BK180 2; have hcz22_3 : w21.cell? ⟨gb180, 3, none⟩ = some (.int .i64 a0_3) := ct BK180 3; have hcz22_4 : w21.cell? ⟨gb180, 4, none⟩ = some (.slice A0_4 l0_4.length c0_4) := ct BK180 4; have hcz22_5 : w21.cell? ⟨gb180, 5, none⟩ = some (.string a0_5) := ct BK180 5; have hcz22_6 : w21.cell? ⟨gb180, 6, none⟩ = some (.string a0_6) := ct BK180 6; have hcz22_7 : w21.cell? ⟨gb180, 7, none⟩ = some (.int .i64 a0_7) := ct BK180 7; have hcz22_8 : w21.cell? ⟨gb180, 8, none⟩ = some (.slice A0_8 l0_8.length c0_8) := ct BK180 8; have hcz22_9 : w21.cell? ⟨gb180, 9, none⟩ = some (.slice A0_9 l0_9.length c0_9) := ct BK180 9; have hcz22_10 : w21.cell? ⟨gb180, 10, none⟩ = some (.slice A0_10 l0_10.length c0_10) := ct BK180 10; have hfz22_0 := blk_frozen BK180.out 0; have hfz22_1 := blk_frozen BK180.out 1; have hfz22_2 := blk_frozen BK180.out 2; have hfz22_3 := blk_frozen BK180.out 3; have hfz22_4 := blk_frozen BK180.out 4; have hfz22_5 := blk_frozen BK180.out 5; have hfz22_6 := blk_frozen BK180.out 6; have hfz22_7 := blk_frozen BK180.out 7; have hfz22_8 := blk_frozen BK180.out 8; have hfz22_9 := blk_frozen BK180.out 9; have hfz22_10 := blk_frozen BK180.out 10) | ((with_reducible refine gate_callee (f := 18) rfl ?_); refine zC 33 Try.func18 #[.agg #[.int .i64 a0_0, .int .i64 a0_1, .string a0_2, .int .i64 a0_3, .slice A0_4 l0_4.length c0_4, .string a0_5, .string a0_6, .int .i64 a0_7, .slice A0_8 l0_8.length c0_8, .slice A0_9 l0_9.length c0_9, .slice A0_10 l0_10.length c0_10], .int .i64 a1] ?_; (with_reducible refine (model_Start.calls k a0_0 a0_1 a0_2 a0_3 _ _ l0_4 a0_5 a0_6 a0_7 _ _ l0_8 _ _ l0_9 _ _ l0_10 a1 t190 t191 _ ?side1 ?side2 ?side3 ?side4 ?side5 ?side6 ?side7 ?side8 A7.out).mono ?_); (case side1 => exact cz HR0_4); (case side2 => exact HC0_4.out); (case side3 => exact cz HR0_8); (case side4 => exact HC0_8.out); (case side5 => exact cz HR0_9); (case side6 => exact HC0_9.out); (case side7 => exact cz HR0_10); (case side8 => exact HC0_10.out); rintro e w23 ⟨rfl, hb⟩; refine ⟨_, rfl, ?_⟩; replace HO184 := Aside0.mk (Kd.R_below (rz HO184) hb); replace HO188 := Aside0.mk (Kd.R_below (rz HO188) hb); replace BK180 := kb BK180 hb; replace HB := bp hb; clear hb; have hcz24_0 : w23.cell? ⟨gb180, 0, none⟩ = some (.int .i64 a0_0) := ct BK180 0; have hcz24_1 : w23.cell? ⟨gb180, 1, none⟩ = some (.int .i64 a0_1) := ct BK180 1; have hcz24_2 : w23.cell? ⟨gb180, 2, none⟩ = some (.string a0_2) := ct BK180 2; have hcz24_3 : w23.cell? ⟨gb180, 3, none⟩ = some (.int .i64 a0_3) := ct BK180 3; have hcz24_4 : w23.cell? ⟨gb180, 4, none⟩ = some (.slice A0_4 l0_4.length c0_4) := ct BK180 4; have hcz24_5 : w23.cell? ⟨gb180, 5, none⟩ = some (.string a0_5) := ct BK180 5; have hcz24_6 : w23.cell? ⟨gb180, 6, none⟩ = some (.string a0_6) := ct BK180 6; have hcz24_7 : w23.cell? ⟨gb180, 7, none⟩ = some (.int .i64 a0_7) := ct BK180 7; have hcz24_8 : w23.cell? ⟨gb180, 8, none⟩ = some (.slice A0_8 l0_8.length c0_8) := ct BK180 8; have hcz24_9 : w23.cell? ⟨gb180, 9, none⟩ = some (.slice A0_9 l0_9.length c0_9) := ct BK180 9; have hcz24_10 : w23.cell? ⟨gb180, 10, none⟩ = some (.slice A0_10 l0_10.length c0_10) := ct BK180 10; have hfz24_0 := blk_frozen BK180.out 0; have hfz24_1 := blk_frozen BK180.out 1; have hfz24_2 := blk_frozen BK180.out 2; have hfz24_3 := blk_frozen BK180.out 3; have hfz24_4 := blk_frozen BK180.out 4; have hfz24_5 := blk_frozen BK180.out 5; have hfz24_6 := blk_frozen BK180.out 6; have hfz24_7 := blk_frozen BK180.out 7; have hfz24_8 := blk_frozen BK180.out 8; have hfz24_9 := blk_frozen BK180.out 9; have hfz24_10 := blk_frozen BK180.out 10) | ((with_reducible refine gate_callee (f := 19) rfl ?_); refine zC 39 Try.func19 #[.agg #[.int .i64 a0_0, .int .i64 a0_1, .string a0_2, .int .i64 a0_3, .slice A0_4 l0_4.length c0_4, .string a0_5, .string a0_6, .int .i64 a0_7, .slice A0_8 l0_8.length c0_8, .slice A0_9 l0_9.length c0_9, .slice A0_10 l0_10.length c0_10], .int .i64 a1] ?_; (with_reducible refine (dioramaref03_Start.calls k a0_0 a0_1 a0_2 a0_3 _ _ l0_4 a0_5 a0_6 a0_7 _ _ l0_8 _ _ l0_9 _ _ l0_10 a1 t192 t193 _ ?side1 ?side2 ?side3 ?side4 ?side5 ?side6 ?side7 ?side8 A8.out).mono ?_); (case side1 => exact cz HR0_4); (case side2 => exact HC0_4.out); (case side3 => exact cz HR0_8); (case side4 => exact HC0_8.out); (case side5 => exact cz HR0_9); (case side6 => exact HC0_9.out); (case side7 => exact cz HR0_10); (case side8 => exact HC0_10.out); rintro e w25 ⟨rfl, hb⟩; refine ⟨_, rfl, ?_⟩; replace HO184 := Aside0.mk (Kd.R_below (rz HO184) hb); replace HO188 := Aside0.mk (Kd.R_below (rz HO188) hb); replace BK180 := kb BK180 hb; replace HB := bp hb; clear hb; obtain ⟨Ao26, co26, eo26⟩ := Kd.R_slice HO184.out; subst eo26; obtain ⟨Ao27, co27, eo27⟩ := Kd.R_slice HO188.out; subst eo27) | ((with_reducible refine gate_callee (f := 20) rfl ?_); refine zC 44 Try.func20 #[.slice Ao26 t182.length co26, .slice Ao27 t186.length co27] ?_; (with_reducible refine (dioramaref00_EqInts.calls k _ _ t182 _ _ t186 true _ ?side1 ?side2 ?side3 ?side4 A9.out).mono ?_); (case side1 => exact cr HO184); (case side2 => exact (Kd.R_reads' HO184.out).2.1); (case side3 => exact cr HO188); (case side4 => exact (Kd.R_reads' HO188.out).2.1); rintro e w' ⟨rfl, ⟨nd, rfl⟩⟩; refine ⟨_, rfl, ?_⟩) | (go_at_call 15; (with_reducible refine (dioramalaw03_awake.calls  t195 _ A14.out).mono ?_); rintro e w28 ⟨rfl, hb⟩; replace HO184 := Aside0.mk (Kd.R_below (rz HO184) hb); replace HO188 := Aside0.mk (Kd.R_below (rz HO188) hb); replace BK180 := kb BK180 hb; replace HB := bp hb; clear hb))
      go_ret
      exact ⟨ez, bz⟩
     ·rw [if_neg c13] at H; have c13b0 : (t191 == t193) = false := beq_eq_false_iff_ne.mpr c13; have c13b1 : (t191 != t193) = true := bne_iff_ne.mpr c13; obtain rfl := Option.some.inj H
      go_enter Try.func4, Try.ntmps4
      go_wp2_with (first | ((with_reducible refine gate_dst (N := 2) rfl ?_); refine zB 2 40 #[.int .i64 a0_0, .int .i64 a0_1, .string a0_2, .int .i64 a0_3, .slice A0_4 l0_4.length c0_4, .string a0_5, .string a0_6, .int .i64 a0_7, .slice A0_8 l0_8.length c0_8, .slice A0_9 l0_9.length c0_9, .slice A0_10 l0_10.length c0_10] ?_; intro gb180 hg w29 hbox hb; have BK180 := Aside0.mk hbox; have GW180 := gz hg; have GE180 := gz hg; replace HB := bp hb; clear hb hbox hg; have hcz30_0 : w29.cell? ⟨gb180, 0, none⟩ = some (.int .i64 a0_0) := ct BK180 0; have hcz30_1 : w29.cell? ⟨gb180, 1, none⟩ = some (.int .i64 a0_1) := ct BK180 1; have hcz30_2 : w29.cell? ⟨gb180, 2, none⟩ = some (.string a0_2) := ct BK180 2; have hcz30_3 : w29.cell? ⟨gb180, 3, none⟩ = some (.int .i64 a0_3) := ct BK180 3; have hcz30_4 : w29.cell? ⟨gb180, 4, none⟩ = some (.slice A0_4 l0_4.length c0_4) := ct BK180 4; have hcz30_5 : w29.cell? ⟨gb180, 5, none⟩ = some (.string a0_5) := ct BK180 5; have hcz30_6 : w29.cell? ⟨gb180, 6, none⟩ = some (.string a0_6) := ct BK180 6; have hcz30_7 : w29.cell? ⟨gb180, 7, none⟩ = some (.int .i64 a0_7) := ct BK180 7; have hcz30_8 : w29.cell? ⟨gb180, 8, none⟩ = some (.slice A0_8 l0_8.length c0_8) := ct BK180 8; have hcz30_9 : w29.cell? ⟨gb180, 9, none⟩ = some (.slice A0_9 l0_9.length c0_9) := ct BK180 9; have hcz30_10 : w29.cell? ⟨gb180, 10, none⟩ = some (.slice A0_10 l0_10.length c0_10) := ct BK180 10; have hfz30_0 := blk_frozen BK180.out 0; have hfz30_1 := blk_frozen BK180.out 1; have hfz30_2 := blk_frozen BK180.out 2; have hfz30_3 := blk_frozen BK180.out 3; have hfz30_4 := blk_frozen BK180.out 4; have hfz30_5 := blk_frozen BK180.out 5; have hfz30_6 := blk_frozen BK180.out 6; have hfz30_7 := blk_frozen BK180.out 7; have hfz30_8 := blk_frozen BK180.out 8; have hfz30_9 := blk_frozen BK180.out 9; have hfz30_10 := blk_frozen BK180.out 10) | ((with_reducible refine gate_dst (N := 14) rfl ?_); refine Gv.zS 14 40 #[.int .i64 a0_0, .int .i64 a0_1, .string a0_2, .int .i64 a0_3, .slice A0_4 l0_4.length c0_4, .string a0_5, .string a0_6, .int .i64 a0_7, .slice A0_8 l0_8.length c0_8, .slice A0_9 l0_9.length c0_9, .slice A0_10 l0_10.length c0_10] ?_; intro gs hgs w31s hsb hsl; replace BK180 := kb BK180 hsl; replace HB := bp hsl; have BSS := Aside0.mk hsb; clear hsb hsl hgs) | ((with_reducible refine gate_callee (f := 8) rfl ?_); refine zC 16 Try.func8 #[.agg #[.int .i64 0, .string (⟨#[]⟩ : ByteArray), .slice (some ⟨gs, 0, none⟩) 1 1, .slice none 0 0, .slice none 0 0, .slice none 0 0], .int .i64 500] ?_; (with_reducible refine (small_one a0_0 a0_1 a0_2 a0_3 _ _ l0_4 a0_5 a0_6 a0_7 _ _ l0_8 _ _ l0_9 _ _ l0_10 500 true gs _ ?side1 ?side2 ?side3 ?side4 ?side5 ?side6 ?side7 ?side8 BSS.out A3.out).mono ?_); (case side1 => exact cz HR0_4); (case side2 => exact HC0_4.out); (case side3 => exact cz HR0_8); (case side4 => exact HC0_8.out); (case side5 => exact cz HR0_9); (case side6 => exact HC0_9.out); (case side7 => exact cz HR0_10); (case side8 => exact HC0_10.out); rintro e w31 ⟨rfl, hb⟩; refine ⟨_, rfl, ?_⟩; clear BSS; replace BK180 := kb BK180 hb; replace HB := bp hb; clear hb; have hcz32_0 : w31.cell? ⟨gb180, 0, none⟩ = some (.int .i64 a0_0) := ct BK180 0; have hcz32_1 : w31.cell? ⟨gb180, 1, none⟩ = some (.int .i64 a0_1) := ct BK180 1; have hcz32_2 : w31.cell? ⟨gb180, 2, none⟩ = some (.string a0_2) := ct BK180 2; have hcz32_3 : w31.cell? ⟨gb180, 3, none⟩ = some (.int .i64 a0_3) := ct BK180 3; have hcz32_4 : w31.cell? ⟨gb180, 4, none⟩ = some (.slice A0_4 l0_4.length c0_4) := ct BK180 4; have hcz32_5 : w31.cell? ⟨gb180, 5, none⟩ = some (.string a0_5) := ct BK180 5; have hcz32_6 : w31.cell? ⟨gb180, 6, none⟩ = some (.string a0_6) := ct BK180 6; have hcz32_7 : w31.cell? ⟨gb180, 7, none⟩ = some (.int .i64 a0_7) := ct BK180 7; have hcz32_8 : w31.cell? ⟨gb180, 8, none⟩ = some (.slice A0_8 l0_8.length c0_8) := ct BK180 8; have hcz32_9 : w31.cell? ⟨gb180, 9, none⟩ = some (.slice A0_9 l0_9.length c0_9) := ct BK180 9; have hcz32_10 : w31.cell? ⟨gb180, 10, none⟩ = some (.slice A0_10 l0_10.length c0_10) := ct BK180 10; have hfz32_0 := blk_frozen BK180.out 0; have hfz32_1 := blk_frozen BK180.out 1; have hfz32_2 := blk_frozen BK180.out 2; have hfz32_3 := blk_frozen BK180.out 3; have hfz32_4 := blk_frozen BK180.out 4; have hfz32_5 := blk_frozen BK180.out 5; have hfz32_6 := blk_frozen BK180.out 6; have hfz32_7 := blk_frozen BK180.out 7; have hfz32_8 := blk_frozen BK180.out 8; have hfz32_9 := blk_frozen BK180.out 9; have hfz32_10 := blk_frozen BK180.out 10) | ((with_reducible refine gate_callee (f := 16) rfl ?_); refine zC 21 Try.func16 #[.agg #[.int .i64 a0_0, .int .i64 a0_1, .string a0_2, .int .i64 a0_3, .slice A0_4 l0_4.length c0_4, .string a0_5, .string a0_6, .int .i64 a0_7, .slice A0_8 l0_8.length c0_8, .slice A0_9 l0_9.length c0_9, .slice A0_10 l0_10.length c0_10], .int .i64 a1] ?_; (with_reducible refine (model_Needs.calls a0_0 a0_1 a0_2 a0_3 _ _ l0_4 a0_5 a0_6 a0_7 _ _ l0_8 _ _ l0_9 _ _ l0_10 a1 t182 t185 _ ?side1 ?side2 ?side3 ?side4 ?side5 ?side6 ?side7 ?side8 A5.out).mono ?_); (case side1 => exact cz HR0_4); (case side2 => exact HC0_4.out); (case side3 => exact cz HR0_8); (case side4 => exact HC0_8.out); (case side5 => exact cz HR0_9); (case side6 => exact HC0_9.out); (case side7 => exact cz HR0_10); (case side8 => exact HC0_10.out); rintro e w33 ⟨v183, rfl, ho0, hb⟩; refine ⟨_, rfl, ?_⟩; have HO184 := Aside0.mk (Kd.R_lower ho0 sz); replace BK180 := kb BK180 hb; replace HB := bp hb; clear hb ho0; have hcz34_0 : w33.cell? ⟨gb180, 0, none⟩ = some (.int .i64 a0_0) := ct BK180 0; have hcz34_1 : w33.cell? ⟨gb180, 1, none⟩ = some (.int .i64 a0_1) := ct BK180 1; have hcz34_2 : w33.cell? ⟨gb180, 2, none⟩ = some (.string a0_2) := ct BK180 2; have hcz34_3 : w33.cell? ⟨gb180, 3, none⟩ = some (.int .i64 a0_3) := ct BK180 3; have hcz34_4 : w33.cell? ⟨gb180, 4, none⟩ = some (.slice A0_4 l0_4.length c0_4) := ct BK180 4; have hcz34_5 : w33.cell? ⟨gb180, 5, none⟩ = some (.string a0_5) := ct BK180 5; have hcz34_6 : w33.cell? ⟨gb180, 6, none⟩ = some (.string a0_6) := ct BK180 6; have hcz34_7 : w33.cell? ⟨gb180, 7, none⟩ = some (.int .i64 a0_7) := ct BK180 7; have hcz34_8 : w33.cell? ⟨gb180, 8, none⟩ = some (.slice A0_8 l0_8.length c0_8) := ct BK180 8; have hcz34_9 : w33.cell? ⟨gb180, 9, none⟩ = some (.slice A0_9 l0_9.length c0_9) := ct BK180 9; have hcz34_10 : w33.cell? ⟨gb180, 10, none⟩ = some (.slice A0_10 l0_10.length c0_10) := ct BK180 10; have hfz34_0 := blk_frozen BK180.out 0; have hfz34_1 := blk_frozen BK180.out 1; have hfz34_2 := blk_frozen BK180.out 2; have hfz34_3 := blk_frozen BK180.out 3; have hfz34_4 := blk_frozen BK180.out 4; have hfz34_5 := blk_frozen BK180.out 5; have hfz34_6 := blk_frozen BK180.out 6; have hfz34_7 := blk_frozen BK180.out 7; have hfz34_8 := blk_frozen BK180.out 8; have hfz34_9 := blk_frozen BK180.out 9; have hfz34_10 := blk_frozen BK180.out 10) | ((with_reducible refine gate_callee (f := 17) rfl ?_); refine zC 27 Try.func17 #[.agg #[.int .i64 a0_0, .int .i64 a0_1, .string a0_2, .int .i64 a0_3, .slice A0_4 l0_4.length c0_4, .string a0_5, .string a0_6, .int .i64 a0_7, .slice A0_8 l0_8.length c0_8, .slice A0_9 l0_9.length c0_9, .slice A0_10 l0_10.length c0_10], .int .i64 a1] ?_; (with_reducible refine (dioramaref03_Needs.calls k a0_0 a0_1 a0_2 a0_3 _ _ l0_4 a0_5 a0_6 a0_7 _ _ l0_8 _ _ l0_9 _ _ l0_10 a1 t186 t189 _ ?side1 ?side2 ?side3 ?side4 ?side5 ?side6 ?side7 ?side8 A6.out).mono ?_); (case side1 => exact cz HR0_4); (case side2 => exact HC0_4.out); (case side3 => exact cz HR0_8); (case side4 => exact HC0_8.out); (case side5 => exact cz HR0_9); (case side6 => exact HC0_9.out); (case side7 => exact cz HR0_10); (case side8 => exact HC0_10.out); rintro e w35 ⟨v187, rfl, ho0, hb⟩; refine ⟨_, rfl, ?_⟩; have HO188 := Aside0.mk (Kd.R_lower (Kd.R_new' ho0 (Kd.R_lt (rz HO184))) sz); replace HO184 := Aside0.mk (Kd.R_elder' (rz HO184) (Kd.R_base ho0) hb); replace BK180 := kb BK180 hb; replace HB := bp hb; clear hb ho0; have hcz36_0 : w35.cell? ⟨gb180, 0, none⟩ = some (.int .i64 a0_0) := ct BK180 0; have hcz36_1 : w35.cell? ⟨gb180, 1, none⟩ = some (.int .i64 a0_1) := ct BK180 1; have hcz36_2 : w35.cell? ⟨gb180, 2, none⟩ = some (.string a0_2) := ct BK180 2; have hcz36_3 : w35.cell? ⟨gb180, 3, none⟩ = some (.int .i64 a0_3) := ct BK180 3; have hcz36_4 : w35.cell? ⟨gb180, 4, none⟩ = some (.slice A0_4 l0_4.length c0_4) := ct BK180 4; have hcz36_5 : w35.cell? ⟨gb180, 5, none⟩ = some (.string a0_5) := ct BK180 5; have hcz36_6 : w35.cell? ⟨gb180, 6, none⟩ = some (.string a0_6) := ct BK180 6; have hcz36_7 : w35.cell? ⟨gb180, 7, none⟩ = some (.int .i64 a0_7) := ct BK180 7; have hcz36_8 : w35.cell? ⟨gb180, 8, none⟩ = some (.slice A0_8 l0_8.length c0_8) := ct BK180 8; have hcz36_9 : w35.cell? ⟨gb180, 9, none⟩ = some (.slice A0_9 l0_9.length c0_9) := ct BK180 9; have hcz36_10 : w35.cell? ⟨gb180, 10, none⟩ = some (.slice A0_10 l0_10.length c0_10) := ct BK180 10; have hfz36_0 := blk_frozen BK180.out 0; have hfz36_1 := blk_frozen BK180.out 1; have hfz36_2 := blk_frozen BK180.out 2; have hfz36_3 := blk_frozen BK180.out 3; have hfz36_4 := blk_frozen BK180.out 4; have hfz36_5 := blk_frozen BK180.out 5; have hfz36_6 := blk_frozen BK180.out 6; have hfz36_7 := blk_frozen BK180.out 7; have hfz36_8 := blk_frozen BK180.out 8; have hfz36_9 := blk_frozen BK180.out 9; have hfz36_10 := blk_frozen BK180.out 10) | ((with_reducible refine gate_callee (f := 18) rfl ?_); refine zC 33 Try.func18 #[.agg #[.int .i64 a0_0, .int .i64 a0_1, .string a0_2, .int .i64 a0_3, .slice A0_4 l0_4.length c0_4, .string a0_5, .string a0_6, .int .i64 a0_7, .slice A0_8 l0_8.length c0_8, .slice A0_9 l0_9.length c0_9, .slice A0_10 l0_10.length c0_10], .int .i64 a1] ?_; (with_reducible refine (model_Start.calls k a0_0 a0_1 a0_2 a0_3 _ _ l0_4 a0_5 a0_6 a0_7 _ _ l0_8 _ _ l0_9 _ _ l0_10 a1 t190 t191 _ ?side1 ?side2 ?side3 ?side4 ?side5 ?side6 ?side7 ?side8 A7.out).mono ?_); (case side1 => exact cz HR0_4); (case side2 => exact HC0_4.out); (case side3 => exact cz HR0_8); (case side4 => exact HC0_8.out); (case side5 => exact cz HR0_9); (case side6 => exact HC0_9.out); (case side7 => exact cz HR0_10); (case side8 => exact HC0_10.out); rintro e w37 ⟨rfl, hb⟩; refine ⟨_, rfl, ?_⟩; replace HO184 := Aside0.mk (Kd.R_below (rz HO184) hb); replace HO188 := Aside0.mk (Kd.R_below (rz HO188) hb); replace BK180 := kb BK180 hb; replace HB := bp hb; clear hb; have hcz38_0 : w37.cell? ⟨gb180, 0, none⟩ = some (.int .i64 a0_0) := ct BK180 0; have hcz38_1 : w37.cell? ⟨gb180, 1, none⟩ = some (.int .i64 a0_1) := ct BK180 1; have hcz38_2 : w37.cell? ⟨gb180, 2, none⟩ = some (.string a0_2) := ct BK180 2; have hcz38_3 : w37.cell? ⟨gb180, 3, none⟩ = some (.int .i64 a0_3) := ct BK180 3; have hcz38_4 : w37.cell? ⟨gb180, 4, none⟩ = some (.slice A0_4 l0_4.length c0_4) := ct BK180 4; have hcz38_5 : w37.cell? ⟨gb180, 5, none⟩ = some (.string a0_5) := ct BK180 5; have hcz38_6 : w37.cell? ⟨gb180, 6, none⟩ = some (.string a0_6) := ct BK180 6; have hcz38_7 : w37.cell? ⟨gb180, 7, none⟩ = some (.int .i64 a0_7) := ct BK180 7; have hcz38_8 : w37.cell? ⟨gb180, 8, none⟩ = some (.slice A0_8 l0_8.length c0_8) := ct BK180 8; have hcz38_9 : w37.cell? ⟨gb180, 9, none⟩ = some (.slice A0_9 l0_9.length c0_9) := ct BK180 9; have hcz38_10 : w37.cell? ⟨gb180, 10, none⟩ = some (.slice A0_10 l0_10.length c0_10) := ct BK180 10; have hfz38_0 := blk_frozen BK180.out 0; have hfz38_1 := blk_frozen BK180.out 1; have hfz38_2 := blk_frozen BK180.out 2; have hfz38_3 := blk_frozen BK180.out 3; have hfz38_4 := blk_frozen BK180.out 4; have hfz38_5 := blk_frozen BK180.out 5; have hfz38_6 := blk_frozen BK180.out 6; have hfz38_7 := blk_frozen BK180.out 7; have hfz38_8 := blk_frozen BK180.out 8; have hfz38_9 := blk_frozen BK180.out 9; have hfz38_10 := blk_frozen BK180.out 10) | ((with_reducible refine gate_callee (f := 19) rfl ?_); refine zC 39 Try.func19 #[.agg #[.int .i64 a0_0, .int .i64 a0_1, .string a0_2, .int .i64 a0_3, .slice A0_4 l0_4.length c0_4, .string a0_5, .string a0_6, .int .i64 a0_7, .slice A0_8 l0_8.length c0_8, .slice A0_9 l0_9.length c0_9, .slice A0_10 l0_10.length c0_10], .int .i64 a1] ?_; (with_reducible refine (dioramaref03_Start.calls k a0_0 a0_1 a0_2 a0_3 _ _ l0_4 a0_5 a0_6 a0_7 _ _ l0_8 _ _ l0_9 _ _ l0_10 a1 t192 t193 _ ?side1 ?side2 ?side3 ?side4 ?side5 ?side6 ?side7 ?side8 A8.out).mono ?_); (case side1 => exact cz HR0_4); (case side2 => exact HC0_4.out); (case side3 => exact cz HR0_8); (case side4 => exact HC0_8.out); (case side5 => exact cz HR0_9); (case side6 => exact HC0_9.out); (case side7 => exact cz HR0_10); (case side8 => exact HC0_10.out); rintro e w39 ⟨rfl, hb⟩; refine ⟨_, rfl, ?_⟩; replace HO184 := Aside0.mk (Kd.R_below (rz HO184) hb); replace HO188 := Aside0.mk (Kd.R_below (rz HO188) hb); replace BK180 := kb BK180 hb; replace HB := bp hb; clear hb; obtain ⟨Ao40, co40, eo40⟩ := Kd.R_slice HO184.out; subst eo40; obtain ⟨Ao41, co41, eo41⟩ := Kd.R_slice HO188.out; subst eo41) | ((with_reducible refine gate_callee (f := 20) rfl ?_); refine zC 44 Try.func20 #[.slice Ao40 t182.length co40, .slice Ao41 t186.length co41] ?_; (with_reducible refine (dioramaref00_EqInts.calls k _ _ t182 _ _ t186 true _ ?side1 ?side2 ?side3 ?side4 A9.out).mono ?_); (case side1 => exact cr HO184); (case side2 => exact (Kd.R_reads' HO184.out).2.1); (case side3 => exact cr HO188); (case side4 => exact (Kd.R_reads' HO188.out).2.1); rintro e w' ⟨rfl, ⟨nd, rfl⟩⟩; refine ⟨_, rfl, ?_⟩))
      go_ret
      exact ⟨ez, bz⟩
    ·rw [if_neg c12] at H; have c12b0 : (t190 == t192) = false := beq_eq_false_iff_ne.mpr c12; have c12b1 : (t190 != t192) = true := bne_iff_ne.mpr c12; obtain rfl := Option.some.inj H
     go_enter Try.func4, Try.ntmps4
     go_wp2_with (first | ((with_reducible refine gate_dst (N := 2) rfl ?_); refine zB 2 40 #[.int .i64 a0_0, .int .i64 a0_1, .string a0_2, .int .i64 a0_3, .slice A0_4 l0_4.length c0_4, .string a0_5, .string a0_6, .int .i64 a0_7, .slice A0_8 l0_8.length c0_8, .slice A0_9 l0_9.length c0_9, .slice A0_10 l0_10.length c0_10] ?_; intro gb180 hg w42 hbox hb; have BK180 := Aside0.mk hbox; have GW180 := gz hg; have GE180 := gz hg; replace HB := bp hb; clear hb hbox hg; have hcz43_0 : w42.cell? ⟨gb180, 0, none⟩ = some (.int .i64 a0_0) := ct BK180 0; have hcz43_1 : w42.cell? ⟨gb180, 1, none⟩ = some (.int .i64 a0_1) := ct BK180 1; have hcz43_2 : w42.cell? ⟨gb180, 2, none⟩ = some (.string a0_2) := ct BK180 2; have hcz43_3 : w42.cell? ⟨gb180, 3, none⟩ = some (.int .i64 a0_3) := ct BK180 3; have hcz43_4 : w42.cell? ⟨gb180, 4, none⟩ = some (.slice A0_4 l0_4.length c0_4) := ct BK180 4; have hcz43_5 : w42.cell? ⟨gb180, 5, none⟩ = some (.string a0_5) := ct BK180 5; have hcz43_6 : w42.cell? ⟨gb180, 6, none⟩ = some (.string a0_6) := ct BK180 6; have hcz43_7 : w42.cell? ⟨gb180, 7, none⟩ = some (.int .i64 a0_7) := ct BK180 7; have hcz43_8 : w42.cell? ⟨gb180, 8, none⟩ = some (.slice A0_8 l0_8.length c0_8) := ct BK180 8; have hcz43_9 : w42.cell? ⟨gb180, 9, none⟩ = some (.slice A0_9 l0_9.length c0_9) := ct BK180 9; have hcz43_10 : w42.cell? ⟨gb180, 10, none⟩ = some (.slice A0_10 l0_10.length c0_10) := ct BK180 10; have hfz43_0 := blk_frozen BK180.out 0; have hfz43_1 := blk_frozen BK180.out 1; have hfz43_2 := blk_frozen BK180.out 2; have hfz43_3 := blk_frozen BK180.out 3; have hfz43_4 := blk_frozen BK180.out 4; have hfz43_5 := blk_frozen BK180.out 5; have hfz43_6 := blk_frozen BK180.out 6; have hfz43_7 := blk_frozen BK180.out 7; have hfz43_8 := blk_frozen BK180.out 8; have hfz43_9 := blk_frozen BK180.out 9; have hfz43_10 := blk_frozen BK180.out 10) | ((with_reducible refine gate_dst (N := 14) rfl ?_); refine Gv.zS 14 40 #[.int .i64 a0_0, .int .i64 a0_1, .string a0_2, .int .i64 a0_3, .slice A0_4 l0_4.length c0_4, .string a0_5, .string a0_6, .int .i64 a0_7, .slice A0_8 l0_8.length c0_8, .slice A0_9 l0_9.length c0_9, .slice A0_10 l0_10.length c0_10] ?_; intro gs hgs w44s hsb hsl; replace BK180 := kb BK180 hsl; replace HB := bp hsl; have BSS := Aside0.mk hsb; clear hsb hsl hgs) | ((with_reducible refine gate_callee (f := 8) rfl ?_); refine zC 16 Try.func8 #[.agg #[.int .i64 0, .string (⟨#[]⟩ : ByteArray), .slice (some ⟨gs, 0, none⟩) 1 1, .slice none 0 0, .slice none 0 0, .slice none 0 0], .int .i64 500] ?_; (with_reducible refine (small_one a0_0 a0_1 a0_2 a0_3 _ _ l0_4 a0_5 a0_6 a0_7 _ _ l0_8 _ _ l0_9 _ _ l0_10 500 true gs _ ?side1 ?side2 ?side3 ?side4 ?side5 ?side6 ?side7 ?side8 BSS.out A3.out).mono ?_); (case side1 => exact cz HR0_4); (case side2 => exact HC0_4.out); (case side3 => exact cz HR0_8); (case side4 => exact HC0_8.out); (case side5 => exact cz HR0_9); (case side6 => exact HC0_9.out); (case side7 => exact cz HR0_10); (case side8 => exact HC0_10.out); rintro e w44 ⟨rfl, hb⟩; refine ⟨_, rfl, ?_⟩; clear BSS; replace BK180 := kb BK180 hb; replace HB := bp hb; clear hb; have hcz45_0 : w44.cell? ⟨gb180, 0, none⟩ = some (.int .i64 a0_0) := ct BK180 0; have hcz45_1 : w44.cell? ⟨gb180, 1, none⟩ = some (.int .i64 a0_1) := ct BK180 1; have hcz45_2 : w44.cell? ⟨gb180, 2, none⟩ = some (.string a0_2) := ct BK180 2; have hcz45_3 : w44.cell? ⟨gb180, 3, none⟩ = some (.int .i64 a0_3) := ct BK180 3; have hcz45_4 : w44.cell? ⟨gb180, 4, none⟩ = some (.slice A0_4 l0_4.length c0_4) := ct BK180 4; have hcz45_5 : w44.cell? ⟨gb180, 5, none⟩ = some (.string a0_5) := ct BK180 5; have hcz45_6 : w44.cell? ⟨gb180, 6, none⟩ = some (.string a0_6) := ct BK180 6; have hcz45_7 : w44.cell? ⟨gb180, 7, none⟩ = some (.int .i64 a0_7) := ct BK180 7; have hcz45_8 : w44.cell? ⟨gb180, 8, none⟩ = some (.slice A0_8 l0_8.length c0_8) := ct BK180 8; have hcz45_9 : w44.cell? ⟨gb180, 9, none⟩ = some (.slice A0_9 l0_9.length c0_9) := ct BK180 9; have hcz45_10 : w44.cell? ⟨gb180, 10, none⟩ = some (.slice A0_10 l0_10.length c0_10) := ct BK180 10; have hfz45_0 := blk_frozen BK180.out 0; have hfz45_1 := blk_frozen BK180.out 1; have hfz45_2 := blk_frozen BK180.out 2; have hfz45_3 := blk_frozen BK180.out 3; have hfz45_4 := blk_frozen BK180.out 4; have hfz45_5 := blk_frozen BK180.out 5; have hfz45_6 := blk_frozen BK180.out 6; have hfz45_7 := blk_frozen BK180.out 7; have hfz45_8 := blk_frozen BK180.out 8; have hfz45_9 := blk_frozen BK180.out 9; have hfz45_10 := blk_frozen BK180.out 10) | ((with_reducible refine gate_callee (f := 16) rfl ?_); refine zC 21 Try.func16 #[.agg #[.int .i64 a0_0, .int .i64 a0_1, .string a0_2, .int .i64 a0_3, .slice A0_4 l0_4.length c0_4, .string a0_5, .string a0_6, .int .i64 a0_7, .slice A0_8 l0_8.length c0_8, .slice A0_9 l0_9.length c0_9, .slice A0_10 l0_10.length c0_10], .int .i64 a1] ?_; (with_reducible refine (model_Needs.calls a0_0 a0_1 a0_2 a0_3 _ _ l0_4 a0_5 a0_6 a0_7 _ _ l0_8 _ _ l0_9 _ _ l0_10 a1 t182 t185 _ ?side1 ?side2 ?side3 ?side4 ?side5 ?side6 ?side7 ?side8 A5.out).mono ?_); (case side1 => exact cz HR0_4); (case side2 => exact HC0_4.out); (case side3 => exact cz HR0_8); (case side4 => exact HC0_8.out); (case side5 => exact cz HR0_9); (case side6 => exact HC0_9.out); (case side7 => exact cz HR0_10); (case side8 => exact HC0_10.out); rintro e w46 ⟨v183, rfl, ho0, hb⟩; refine ⟨_, rfl, ?_⟩; have HO184 := Aside0.mk (Kd.R_lower ho0 sz); replace BK180 := kb BK180 hb; replace HB := bp hb; clear hb ho0; have hcz47_0 : w46.cell? ⟨gb180, 0, none⟩ = some (.int .i64 a0_0) := ct BK180 0; have hcz47_1 : w46.cell? ⟨gb180, 1, none⟩ = some (.int .i64 a0_1) := ct BK180 1; have hcz47_2 : w46.cell? ⟨gb180, 2, none⟩ = some (.string a0_2) := ct BK180 2; have hcz47_3 : w46.cell? ⟨gb180, 3, none⟩ = some (.int .i64 a0_3) := ct BK180 3; have hcz47_4 : w46.cell? ⟨gb180, 4, none⟩ = some (.slice A0_4 l0_4.length c0_4) := ct BK180 4; have hcz47_5 : w46.cell? ⟨gb180, 5, none⟩ = some (.string a0_5) := ct BK180 5; have hcz47_6 : w46.cell? ⟨gb180, 6, none⟩ = some (.string a0_6) := ct BK180 6; have hcz47_7 : w46.cell? ⟨gb180, 7, none⟩ = some (.int .i64 a0_7) := ct BK180 7; have hcz47_8 : w46.cell? ⟨gb180, 8, none⟩ = some (.slice A0_8 l0_8.length c0_8) := ct BK180 8; have hcz47_9 : w46.cell? ⟨gb180, 9, none⟩ = some (.slice A0_9 l0_9.length c0_9) := ct BK180 9; have hcz47_10 : w46.cell? ⟨gb180, 10, none⟩ = some (.slice A0_10 l0_10.length c0_10) := ct BK180 10; have hfz47_0 := blk_frozen BK180.out 0; have hfz47_1 := blk_frozen BK180.out 1; have hfz47_2 := blk_frozen BK180.out 2; have hfz47_3 := blk_frozen BK180.out 3; have hfz47_4 := blk_frozen BK180.out 4; have hfz47_5 := blk_frozen BK180.out 5; have hfz47_6 := blk_frozen BK180.out 6; have hfz47_7 := blk_frozen BK180.out 7; have hfz47_8 := blk_frozen BK180.out 8; have hfz47_9 := blk_frozen BK180.out 9; have hfz47_10 := blk_frozen BK180.out 10) | ((with_reducible refine gate_callee (f := 17) rfl ?_); refine zC 27 Try.func17 #[.agg #[.int .i64 a0_0, .int .i64 a0_1, .string a0_2, .int .i64 a0_3, .slice A0_4 l0_4.length c0_4, .string a0_5, .string a0_6, .int .i64 a0_7, .slice A0_8 l0_8.length c0_8, .slice A0_9 l0_9.length c0_9, .slice A0_10 l0_10.length c0_10], .int .i64 a1] ?_; (with_reducible refine (dioramaref03_Needs.calls k a0_0 a0_1 a0_2 a0_3 _ _ l0_4 a0_5 a0_6 a0_7 _ _ l0_8 _ _ l0_9 _ _ l0_10 a1 t186 t189 _ ?side1 ?side2 ?side3 ?side4 ?side5 ?side6 ?side7 ?side8 A6.out).mono ?_); (case side1 => exact cz HR0_4); (case side2 => exact HC0_4.out); (case side3 => exact cz HR0_8); (case side4 => exact HC0_8.out); (case side5 => exact cz HR0_9); (case side6 => exact HC0_9.out); (case side7 => exact cz HR0_10); (case side8 => exact HC0_10.out); rintro e w48 ⟨v187, rfl, ho0, hb⟩; refine ⟨_, rfl, ?_⟩; have HO188 := Aside0.mk (Kd.R_lower (Kd.R_new' ho0 (Kd.R_lt (rz HO184))) sz); replace HO184 := Aside0.mk (Kd.R_elder' (rz HO184) (Kd.R_base ho0) hb); replace BK180 := kb BK180 hb; replace HB := bp hb; clear hb ho0; have hcz49_0 : w48.cell? ⟨gb180, 0, none⟩ = some (.int .i64 a0_0) := ct BK180 0; have hcz49_1 : w48.cell? ⟨gb180, 1, none⟩ = some (.int .i64 a0_1) := ct BK180 1; have hcz49_2 : w48.cell? ⟨gb180, 2, none⟩ = some (.string a0_2) := ct BK180 2; have hcz49_3 : w48.cell? ⟨gb180, 3, none⟩ = some (.int .i64 a0_3) := ct BK180 3; have hcz49_4 : w48.cell? ⟨gb180, 4, none⟩ = some (.slice A0_4 l0_4.length c0_4) := ct BK180 4; have hcz49_5 : w48.cell? ⟨gb180, 5, none⟩ = some (.string a0_5) := ct BK180 5; have hcz49_6 : w48.cell? ⟨gb180, 6, none⟩ = some (.string a0_6) := ct BK180 6; have hcz49_7 : w48.cell? ⟨gb180, 7, none⟩ = some (.int .i64 a0_7) := ct BK180 7; have hcz49_8 : w48.cell? ⟨gb180, 8, none⟩ = some (.slice A0_8 l0_8.length c0_8) := ct BK180 8; have hcz49_9 : w48.cell? ⟨gb180, 9, none⟩ = some (.slice A0_9 l0_9.length c0_9) := ct BK180 9; have hcz49_10 : w48.cell? ⟨gb180, 10, none⟩ = some (.slice A0_10 l0_10.length c0_10) := ct BK180 10; have hfz49_0 := blk_frozen BK180.out 0; have hfz49_1 := blk_frozen BK180.out 1; have hfz49_2 := blk_frozen BK180.out 2; have hfz49_3 := blk_frozen BK180.out 3; have hfz49_4 := blk_frozen BK180.out 4; have hfz49_5 := blk_frozen BK180.out 5; have hfz49_6 := blk_frozen BK180.out 6; have hfz49_7 := blk_frozen BK180.out 7; have hfz49_8 := blk_frozen BK180.out 8; have hfz49_9 := blk_frozen BK180.out 9; have hfz49_10 := blk_frozen BK180.out 10) | ((with_reducible refine gate_callee (f := 18) rfl ?_); refine zC 33 Try.func18 #[.agg #[.int .i64 a0_0, .int .i64 a0_1, .string a0_2, .int .i64 a0_3, .slice A0_4 l0_4.length c0_4, .string a0_5, .string a0_6, .int .i64 a0_7, .slice A0_8 l0_8.length c0_8, .slice A0_9 l0_9.length c0_9, .slice A0_10 l0_10.length c0_10], .int .i64 a1] ?_; (with_reducible refine (model_Start.calls k a0_0 a0_1 a0_2 a0_3 _ _ l0_4 a0_5 a0_6 a0_7 _ _ l0_8 _ _ l0_9 _ _ l0_10 a1 t190 t191 _ ?side1 ?side2 ?side3 ?side4 ?side5 ?side6 ?side7 ?side8 A7.out).mono ?_); (case side1 => exact cz HR0_4); (case side2 => exact HC0_4.out); (case side3 => exact cz HR0_8); (case side4 => exact HC0_8.out); (case side5 => exact cz HR0_9); (case side6 => exact HC0_9.out); (case side7 => exact cz HR0_10); (case side8 => exact HC0_10.out); rintro e w50 ⟨rfl, hb⟩; refine ⟨_, rfl, ?_⟩; replace HO184 := Aside0.mk (Kd.R_below (rz HO184) hb); replace HO188 := Aside0.mk (Kd.R_below (rz HO188) hb); replace BK180 := kb BK180 hb; replace HB := bp hb; clear hb; have hcz51_0 : w50.cell? ⟨gb180, 0, none⟩ = some (.int .i64 a0_0) := ct BK180 0; have hcz51_1 : w50.cell? ⟨gb180, 1, none⟩ = some (.int .i64 a0_1) := ct BK180 1; have hcz51_2 : w50.cell? ⟨gb180, 2, none⟩ = some (.string a0_2) := ct BK180 2; have hcz51_3 : w50.cell? ⟨gb180, 3, none⟩ = some (.int .i64 a0_3) := ct BK180 3; have hcz51_4 : w50.cell? ⟨gb180, 4, none⟩ = some (.slice A0_4 l0_4.length c0_4) := ct BK180 4; have hcz51_5 : w50.cell? ⟨gb180, 5, none⟩ = some (.string a0_5) := ct BK180 5; have hcz51_6 : w50.cell? ⟨gb180, 6, none⟩ = some (.string a0_6) := ct BK180 6; have hcz51_7 : w50.cell? ⟨gb180, 7, none⟩ = some (.int .i64 a0_7) := ct BK180 7; have hcz51_8 : w50.cell? ⟨gb180, 8, none⟩ = some (.slice A0_8 l0_8.length c0_8) := ct BK180 8; have hcz51_9 : w50.cell? ⟨gb180, 9, none⟩ = some (.slice A0_9 l0_9.length c0_9) := ct BK180 9; have hcz51_10 : w50.cell? ⟨gb180, 10, none⟩ = some (.slice A0_10 l0_10.length c0_10) := ct BK180 10; have hfz51_0 := blk_frozen BK180.out 0; have hfz51_1 := blk_frozen BK180.out 1; have hfz51_2 := blk_frozen BK180.out 2; have hfz51_3 := blk_frozen BK180.out 3; have hfz51_4 := blk_frozen BK180.out 4; have hfz51_5 := blk_frozen BK180.out 5; have hfz51_6 := blk_frozen BK180.out 6; have hfz51_7 := blk_frozen BK180.out 7; have hfz51_8 := blk_frozen BK180.out 8; have hfz51_9 := blk_frozen BK180.out 9; have hfz51_10 := blk_frozen BK180.out 10) | ((with_reducible refine gate_callee (f := 19) rfl ?_); refine zC 39 Try.func19 #[.agg #[.int .i64 a0_0, .int .i64 a0_1, .string a0_2, .int .i64 a0_3, .slice A0_4 l0_4.length c0_4, .string a0_5, .string a0_6, .int .i64 a0_7, .slice A0_8 l0_8.length c0_8, .slice A0_9 l0_9.length c0_9, .slice A0_10 l0_10.length c0_10], .int .i64 a1] ?_; (with_reducible refine (dioramaref03_Start.calls k a0_0 a0_1 a0_2 a0_3 _ _ l0_4 a0_5 a0_6 a0_7 _ _ l0_8 _ _ l0_9 _ _ l0_10 a1 t192 t193 _ ?side1 ?side2 ?side3 ?side4 ?side5 ?side6 ?side7 ?side8 A8.out).mono ?_); (case side1 => exact cz HR0_4); (case side2 => exact HC0_4.out); (case side3 => exact cz HR0_8); (case side4 => exact HC0_8.out); (case side5 => exact cz HR0_9); (case side6 => exact HC0_9.out); (case side7 => exact cz HR0_10); (case side8 => exact HC0_10.out); rintro e w52 ⟨rfl, hb⟩; refine ⟨_, rfl, ?_⟩; replace HO184 := Aside0.mk (Kd.R_below (rz HO184) hb); replace HO188 := Aside0.mk (Kd.R_below (rz HO188) hb); replace BK180 := kb BK180 hb; replace HB := bp hb; clear hb; obtain ⟨Ao53, co53, eo53⟩ := Kd.R_slice HO184.out; subst eo53; obtain ⟨Ao54, co54, eo54⟩ := Kd.R_slice HO188.out; subst eo54) | ((with_reducible refine gate_callee (f := 20) rfl ?_); refine zC 44 Try.func20 #[.slice Ao53 t182.length co53, .slice Ao54 t186.length co54] ?_; (with_reducible refine (dioramaref00_EqInts.calls k _ _ t182 _ _ t186 true _ ?side1 ?side2 ?side3 ?side4 A9.out).mono ?_); (case side1 => exact cr HO184); (case side2 => exact (Kd.R_reads' HO184.out).2.1); (case side3 => exact cr HO188); (case side4 => exact (Kd.R_reads' HO188.out).2.1); rintro e w' ⟨rfl, ⟨nd, rfl⟩⟩; refine ⟨_, rfl, ?_⟩))
     go_ret
     exact ⟨ez, bz⟩
   ·rw [if_neg c11] at H; have c11b0 : (t185 == t189) = false := beq_eq_false_iff_ne.mpr c11; have c11b1 : (t185 != t189) = true := bne_iff_ne.mpr c11; obtain rfl := Option.some.inj H
    go_enter Try.func4, Try.ntmps4
    go_wp2_with (first | ((with_reducible refine gate_dst (N := 2) rfl ?_); refine zB 2 40 #[.int .i64 a0_0, .int .i64 a0_1, .string a0_2, .int .i64 a0_3, .slice A0_4 l0_4.length c0_4, .string a0_5, .string a0_6, .int .i64 a0_7, .slice A0_8 l0_8.length c0_8, .slice A0_9 l0_9.length c0_9, .slice A0_10 l0_10.length c0_10] ?_; intro gb180 hg w55 hbox hb; have BK180 := Aside0.mk hbox; have GW180 := gz hg; have GE180 := gz hg; replace HB := bp hb; clear hb hbox hg; have hcz56_0 : w55.cell? ⟨gb180, 0, none⟩ = some (.int .i64 a0_0) := ct BK180 0; have hcz56_1 : w55.cell? ⟨gb180, 1, none⟩ = some (.int .i64 a0_1) := ct BK180 1; have hcz56_2 : w55.cell? ⟨gb180, 2, none⟩ = some (.string a0_2) := ct BK180 2; have hcz56_3 : w55.cell? ⟨gb180, 3, none⟩ = some (.int .i64 a0_3) := ct BK180 3; have hcz56_4 : w55.cell? ⟨gb180, 4, none⟩ = some (.slice A0_4 l0_4.length c0_4) := ct BK180 4; have hcz56_5 : w55.cell? ⟨gb180, 5, none⟩ = some (.string a0_5) := ct BK180 5; have hcz56_6 : w55.cell? ⟨gb180, 6, none⟩ = some (.string a0_6) := ct BK180 6; have hcz56_7 : w55.cell? ⟨gb180, 7, none⟩ = some (.int .i64 a0_7) := ct BK180 7; have hcz56_8 : w55.cell? ⟨gb180, 8, none⟩ = some (.slice A0_8 l0_8.length c0_8) := ct BK180 8; have hcz56_9 : w55.cell? ⟨gb180, 9, none⟩ = some (.slice A0_9 l0_9.length c0_9) := ct BK180 9; have hcz56_10 : w55.cell? ⟨gb180, 10, none⟩ = some (.slice A0_10 l0_10.length c0_10) := ct BK180 10; have hfz56_0 := blk_frozen BK180.out 0; have hfz56_1 := blk_frozen BK180.out 1; have hfz56_2 := blk_frozen BK180.out 2; have hfz56_3 := blk_frozen BK180.out 3; have hfz56_4 := blk_frozen BK180.out 4; have hfz56_5 := blk_frozen BK180.out 5; have hfz56_6 := blk_frozen BK180.out 6; have hfz56_7 := blk_frozen BK180.out 7; have hfz56_8 := blk_frozen BK180.out 8; have hfz56_9 := blk_frozen BK180.out 9; have hfz56_10 := blk_frozen BK180.out 10) | ((with_reducible refine gate_dst (N := 14) rfl ?_); refine Gv.zS 14 40 #[.int .i64 a0_0, .int .i64 a0_1, .string a0_2, .int .i64 a0_3, .slice A0_4 l0_4.length c0_4, .string a0_5, .string a0_6, .int .i64 a0_7, .slice A0_8 l0_8.length c0_8, .slice A0_9 l0_9.length c0_9, .slice A0_10 l0_10.length c0_10] ?_; intro gs hgs w57s hsb hsl; replace BK180 := kb BK180 hsl; replace HB := bp hsl; have BSS := Aside0.mk hsb; clear hsb hsl hgs) | ((with_reducible refine gate_callee (f := 8) rfl ?_); refine zC 16 Try.func8 #[.agg #[.int .i64 0, .string (⟨#[]⟩ : ByteArray), .slice (some ⟨gs, 0, none⟩) 1 1, .slice none 0 0, .slice none 0 0, .slice none 0 0], .int .i64 500] ?_; (with_reducible refine (small_one a0_0 a0_1 a0_2 a0_3 _ _ l0_4 a0_5 a0_6 a0_7 _ _ l0_8 _ _ l0_9 _ _ l0_10 500 true gs _ ?side1 ?side2 ?side3 ?side4 ?side5 ?side6 ?side7 ?side8 BSS.out A3.out).mono ?_); (case side1 => exact cz HR0_4); (case side2 => exact HC0_4.out); (case side3 => exact cz HR0_8); (case side4 => exact HC0_8.out); (case side5 => exact cz HR0_9); (case side6 => exact HC0_9.out); (case side7 => exact cz HR0_10); (case side8 => exact HC0_10.out); rintro e w57 ⟨rfl, hb⟩; refine ⟨_, rfl, ?_⟩; clear BSS; replace BK180 := kb BK180 hb; replace HB := bp hb; clear hb; have hcz58_0 : w57.cell? ⟨gb180, 0, none⟩ = some (.int .i64 a0_0) := ct BK180 0; have hcz58_1 : w57.cell? ⟨gb180, 1, none⟩ = some (.int .i64 a0_1) := ct BK180 1; have hcz58_2 : w57.cell? ⟨gb180, 2, none⟩ = some (.string a0_2) := ct BK180 2; have hcz58_3 : w57.cell? ⟨gb180, 3, none⟩ = some (.int .i64 a0_3) := ct BK180 3; have hcz58_4 : w57.cell? ⟨gb180, 4, none⟩ = some (.slice A0_4 l0_4.length c0_4) := ct BK180 4; have hcz58_5 : w57.cell? ⟨gb180, 5, none⟩ = some (.string a0_5) := ct BK180 5; have hcz58_6 : w57.cell? ⟨gb180, 6, none⟩ = some (.string a0_6) := ct BK180 6; have hcz58_7 : w57.cell? ⟨gb180, 7, none⟩ = some (.int .i64 a0_7) := ct BK180 7; have hcz58_8 : w57.cell? ⟨gb180, 8, none⟩ = some (.slice A0_8 l0_8.length c0_8) := ct BK180 8; have hcz58_9 : w57.cell? ⟨gb180, 9, none⟩ = some (.slice A0_9 l0_9.length c0_9) := ct BK180 9; have hcz58_10 : w57.cell? ⟨gb180, 10, none⟩ = some (.slice A0_10 l0_10.length c0_10) := ct BK180 10; have hfz58_0 := blk_frozen BK180.out 0; have hfz58_1 := blk_frozen BK180.out 1; have hfz58_2 := blk_frozen BK180.out 2; have hfz58_3 := blk_frozen BK180.out 3; have hfz58_4 := blk_frozen BK180.out 4; have hfz58_5 := blk_frozen BK180.out 5; have hfz58_6 := blk_frozen BK180.out 6; have hfz58_7 := blk_frozen BK180.out 7; have hfz58_8 := blk_frozen BK180.out 8; have hfz58_9 := blk_frozen BK180.out 9; have hfz58_10 := blk_frozen BK180.out 10) | ((with_reducible refine gate_callee (f := 16) rfl ?_); refine zC 21 Try.func16 #[.agg #[.int .i64 a0_0, .int .i64 a0_1, .string a0_2, .int .i64 a0_3, .slice A0_4 l0_4.length c0_4, .string a0_5, .string a0_6, .int .i64 a0_7, .slice A0_8 l0_8.length c0_8, .slice A0_9 l0_9.length c0_9, .slice A0_10 l0_10.length c0_10], .int .i64 a1] ?_; (with_reducible refine (model_Needs.calls a0_0 a0_1 a0_2 a0_3 _ _ l0_4 a0_5 a0_6 a0_7 _ _ l0_8 _ _ l0_9 _ _ l0_10 a1 t182 t185 _ ?side1 ?side2 ?side3 ?side4 ?side5 ?side6 ?side7 ?side8 A5.out).mono ?_); (case side1 => exact cz HR0_4); (case side2 => exact HC0_4.out); (case side3 => exact cz HR0_8); (case side4 => exact HC0_8.out); (case side5 => exact cz HR0_9); (case side6 => exact HC0_9.out); (case side7 => exact cz HR0_10); (case side8 => exact HC0_10.out); rintro e w59 ⟨v183, rfl, ho0, hb⟩; refine ⟨_, rfl, ?_⟩; have HO184 := Aside0.mk (Kd.R_lower ho0 sz); replace BK180 := kb BK180 hb; replace HB := bp hb; clear hb ho0; have hcz60_0 : w59.cell? ⟨gb180, 0, none⟩ = some (.int .i64 a0_0) := ct BK180 0; have hcz60_1 : w59.cell? ⟨gb180, 1, none⟩ = some (.int .i64 a0_1) := ct BK180 1; have hcz60_2 : w59.cell? ⟨gb180, 2, none⟩ = some (.string a0_2) := ct BK180 2; have hcz60_3 : w59.cell? ⟨gb180, 3, none⟩ = some (.int .i64 a0_3) := ct BK180 3; have hcz60_4 : w59.cell? ⟨gb180, 4, none⟩ = some (.slice A0_4 l0_4.length c0_4) := ct BK180 4; have hcz60_5 : w59.cell? ⟨gb180, 5, none⟩ = some (.string a0_5) := ct BK180 5; have hcz60_6 : w59.cell? ⟨gb180, 6, none⟩ = some (.string a0_6) := ct BK180 6; have hcz60_7 : w59.cell? ⟨gb180, 7, none⟩ = some (.int .i64 a0_7) := ct BK180 7; have hcz60_8 : w59.cell? ⟨gb180, 8, none⟩ = some (.slice A0_8 l0_8.length c0_8) := ct BK180 8; have hcz60_9 : w59.cell? ⟨gb180, 9, none⟩ = some (.slice A0_9 l0_9.length c0_9) := ct BK180 9; have hcz60_10 : w59.cell? ⟨gb180, 10, none⟩ = some (.slice A0_10 l0_10.length c0_10) := ct BK180 10; have hfz60_0 := blk_frozen BK180.out 0; have hfz60_1 := blk_frozen BK180.out 1; have hfz60_2 := blk_frozen BK180.out 2; have hfz60_3 := blk_frozen BK180.out 3; have hfz60_4 := blk_frozen BK180.out 4; have hfz60_5 := blk_frozen BK180.out 5; have hfz60_6 := blk_frozen BK180.out 6; have hfz60_7 := blk_frozen BK180.out 7; have hfz60_8 := blk_frozen BK180.out 8; have hfz60_9 := blk_frozen BK180.out 9; have hfz60_10 := blk_frozen BK180.out 10) | ((with_reducible refine gate_callee (f := 17) rfl ?_); refine zC 27 Try.func17 #[.agg #[.int .i64 a0_0, .int .i64 a0_1, .string a0_2, .int .i64 a0_3, .slice A0_4 l0_4.length c0_4, .string a0_5, .string a0_6, .int .i64 a0_7, .slice A0_8 l0_8.length c0_8, .slice A0_9 l0_9.length c0_9, .slice A0_10 l0_10.length c0_10], .int .i64 a1] ?_; (with_reducible refine (dioramaref03_Needs.calls k a0_0 a0_1 a0_2 a0_3 _ _ l0_4 a0_5 a0_6 a0_7 _ _ l0_8 _ _ l0_9 _ _ l0_10 a1 t186 t189 _ ?side1 ?side2 ?side3 ?side4 ?side5 ?side6 ?side7 ?side8 A6.out).mono ?_); (case side1 => exact cz HR0_4); (case side2 => exact HC0_4.out); (case side3 => exact cz HR0_8); (case side4 => exact HC0_8.out); (case side5 => exact cz HR0_9); (case side6 => exact HC0_9.out); (case side7 => exact cz HR0_10); (case side8 => exact HC0_10.out); rintro e w61 ⟨v187, rfl, ho0, hb⟩; refine ⟨_, rfl, ?_⟩; have HO188 := Aside0.mk (Kd.R_lower (Kd.R_new' ho0 (Kd.R_lt (rz HO184))) sz); replace HO184 := Aside0.mk (Kd.R_elder' (rz HO184) (Kd.R_base ho0) hb); replace BK180 := kb BK180 hb; replace HB := bp hb; clear hb ho0; have hcz62_0 : w61.cell? ⟨gb180, 0, none⟩ = some (.int .i64 a0_0) := ct BK180 0; have hcz62_1 : w61.cell? ⟨gb180, 1, none⟩ = some (.int .i64 a0_1) := ct BK180 1; have hcz62_2 : w61.cell? ⟨gb180, 2, none⟩ = some (.string a0_2) := ct BK180 2; have hcz62_3 : w61.cell? ⟨gb180, 3, none⟩ = some (.int .i64 a0_3) := ct BK180 3; have hcz62_4 : w61.cell? ⟨gb180, 4, none⟩ = some (.slice A0_4 l0_4.length c0_4) := ct BK180 4; have hcz62_5 : w61.cell? ⟨gb180, 5, none⟩ = some (.string a0_5) := ct BK180 5; have hcz62_6 : w61.cell? ⟨gb180, 6, none⟩ = some (.string a0_6) := ct BK180 6; have hcz62_7 : w61.cell? ⟨gb180, 7, none⟩ = some (.int .i64 a0_7) := ct BK180 7; have hcz62_8 : w61.cell? ⟨gb180, 8, none⟩ = some (.slice A0_8 l0_8.length c0_8) := ct BK180 8; have hcz62_9 : w61.cell? ⟨gb180, 9, none⟩ = some (.slice A0_9 l0_9.length c0_9) := ct BK180 9; have hcz62_10 : w61.cell? ⟨gb180, 10, none⟩ = some (.slice A0_10 l0_10.length c0_10) := ct BK180 10; have hfz62_0 := blk_frozen BK180.out 0; have hfz62_1 := blk_frozen BK180.out 1; have hfz62_2 := blk_frozen BK180.out 2; have hfz62_3 := blk_frozen BK180.out 3; have hfz62_4 := blk_frozen BK180.out 4; have hfz62_5 := blk_frozen BK180.out 5; have hfz62_6 := blk_frozen BK180.out 6; have hfz62_7 := blk_frozen BK180.out 7; have hfz62_8 := blk_frozen BK180.out 8; have hfz62_9 := blk_frozen BK180.out 9; have hfz62_10 := blk_frozen BK180.out 10) | ((with_reducible refine gate_callee (f := 18) rfl ?_); refine zC 33 Try.func18 #[.agg #[.int .i64 a0_0, .int .i64 a0_1, .string a0_2, .int .i64 a0_3, .slice A0_4 l0_4.length c0_4, .string a0_5, .string a0_6, .int .i64 a0_7, .slice A0_8 l0_8.length c0_8, .slice A0_9 l0_9.length c0_9, .slice A0_10 l0_10.length c0_10], .int .i64 a1] ?_; (with_reducible refine (model_Start.calls k a0_0 a0_1 a0_2 a0_3 _ _ l0_4 a0_5 a0_6 a0_7 _ _ l0_8 _ _ l0_9 _ _ l0_10 a1 t190 t191 _ ?side1 ?side2 ?side3 ?side4 ?side5 ?side6 ?side7 ?side8 A7.out).mono ?_); (case side1 => exact cz HR0_4); (case side2 => exact HC0_4.out); (case side3 => exact cz HR0_8); (case side4 => exact HC0_8.out); (case side5 => exact cz HR0_9); (case side6 => exact HC0_9.out); (case side7 => exact cz HR0_10); (case side8 => exact HC0_10.out); rintro e w63 ⟨rfl, hb⟩; refine ⟨_, rfl, ?_⟩; replace HO184 := Aside0.mk (Kd.R_below (rz HO184) hb); replace HO188 := Aside0.mk (Kd.R_below (rz HO188) hb); replace BK180 := kb BK180 hb; replace HB := bp hb; clear hb; have hcz64_0 : w63.cell? ⟨gb180, 0, none⟩ = some (.int .i64 a0_0) := ct BK180 0; have hcz64_1 : w63.cell? ⟨gb180, 1, none⟩ = some (.int .i64 a0_1) := ct BK180 1; have hcz64_2 : w63.cell? ⟨gb180, 2, none⟩ = some (.string a0_2) := ct BK180 2; have hcz64_3 : w63.cell? ⟨gb180, 3, none⟩ = some (.int .i64 a0_3) := ct BK180 3; have hcz64_4 : w63.cell? ⟨gb180, 4, none⟩ = some (.slice A0_4 l0_4.length c0_4) := ct BK180 4; have hcz64_5 : w63.cell? ⟨gb180, 5, none⟩ = some (.string a0_5) := ct BK180 5; have hcz64_6 : w63.cell? ⟨gb180, 6, none⟩ = some (.string a0_6) := ct BK180 6; have hcz64_7 : w63.cell? ⟨gb180, 7, none⟩ = some (.int .i64 a0_7) := ct BK180 7; have hcz64_8 : w63.cell? ⟨gb180, 8, none⟩ = some (.slice A0_8 l0_8.length c0_8) := ct BK180 8; have hcz64_9 : w63.cell? ⟨gb180, 9, none⟩ = some (.slice A0_9 l0_9.length c0_9) := ct BK180 9; have hcz64_10 : w63.cell? ⟨gb180, 10, none⟩ = some (.slice A0_10 l0_10.length c0_10) := ct BK180 10; have hfz64_0 := blk_frozen BK180.out 0; have hfz64_1 := blk_frozen BK180.out 1; have hfz64_2 := blk_frozen BK180.out 2; have hfz64_3 := blk_frozen BK180.out 3; have hfz64_4 := blk_frozen BK180.out 4; have hfz64_5 := blk_frozen BK180.out 5; have hfz64_6 := blk_frozen BK180.out 6; have hfz64_7 := blk_frozen BK180.out 7; have hfz64_8 := blk_frozen BK180.out 8; have hfz64_9 := blk_frozen BK180.out 9; have hfz64_10 := blk_frozen BK180.out 10) | ((with_reducible refine gate_callee (f := 19) rfl ?_); refine zC 39 Try.func19 #[.agg #[.int .i64 a0_0, .int .i64 a0_1, .string a0_2, .int .i64 a0_3, .slice A0_4 l0_4.length c0_4, .string a0_5, .string a0_6, .int .i64 a0_7, .slice A0_8 l0_8.length c0_8, .slice A0_9 l0_9.length c0_9, .slice A0_10 l0_10.length c0_10], .int .i64 a1] ?_; (with_reducible refine (dioramaref03_Start.calls k a0_0 a0_1 a0_2 a0_3 _ _ l0_4 a0_5 a0_6 a0_7 _ _ l0_8 _ _ l0_9 _ _ l0_10 a1 t192 t193 _ ?side1 ?side2 ?side3 ?side4 ?side5 ?side6 ?side7 ?side8 A8.out).mono ?_); (case side1 => exact cz HR0_4); (case side2 => exact HC0_4.out); (case side3 => exact cz HR0_8); (case side4 => exact HC0_8.out); (case side5 => exact cz HR0_9); (case side6 => exact HC0_9.out); (case side7 => exact cz HR0_10); (case side8 => exact HC0_10.out); rintro e w65 ⟨rfl, hb⟩; refine ⟨_, rfl, ?_⟩; replace HO184 := Aside0.mk (Kd.R_below (rz HO184) hb); replace HO188 := Aside0.mk (Kd.R_below (rz HO188) hb); replace BK180 := kb BK180 hb; replace HB := bp hb; clear hb; obtain ⟨Ao66, co66, eo66⟩ := Kd.R_slice HO184.out; subst eo66; obtain ⟨Ao67, co67, eo67⟩ := Kd.R_slice HO188.out; subst eo67) | ((with_reducible refine gate_callee (f := 20) rfl ?_); refine zC 44 Try.func20 #[.slice Ao66 t182.length co66, .slice Ao67 t186.length co67] ?_; (with_reducible refine (dioramaref00_EqInts.calls k _ _ t182 _ _ t186 true _ ?side1 ?side2 ?side3 ?side4 A9.out).mono ?_); (case side1 => exact cr HO184); (case side2 => exact (Kd.R_reads' HO184.out).2.1); (case side3 => exact cr HO188); (case side4 => exact (Kd.R_reads' HO188.out).2.1); rintro e w' ⟨rfl, ⟨nd, rfl⟩⟩; refine ⟨_, rfl, ?_⟩))
    go_ret
    exact ⟨ez, bz⟩
  ·obtain rfl := bf c10; rw [if_neg (show ¬ (false = true) by decide)] at H; obtain rfl := Option.some.inj H
   go_enter Try.func4, Try.ntmps4
   go_wp2_with (first | ((with_reducible refine gate_dst (N := 2) rfl ?_); refine zB 2 40 #[.int .i64 a0_0, .int .i64 a0_1, .string a0_2, .int .i64 a0_3, .slice A0_4 l0_4.length c0_4, .string a0_5, .string a0_6, .int .i64 a0_7, .slice A0_8 l0_8.length c0_8, .slice A0_9 l0_9.length c0_9, .slice A0_10 l0_10.length c0_10] ?_; intro gb180 hg w68 hbox hb; have BK180 := Aside0.mk hbox; have GW180 := gz hg; have GE180 := gz hg; replace HB := bp hb; clear hb hbox hg; have hcz69_0 : w68.cell? ⟨gb180, 0, none⟩ = some (.int .i64 a0_0) := ct BK180 0; have hcz69_1 : w68.cell? ⟨gb180, 1, none⟩ = some (.int .i64 a0_1) := ct BK180 1; have hcz69_2 : w68.cell? ⟨gb180, 2, none⟩ = some (.string a0_2) := ct BK180 2; have hcz69_3 : w68.cell? ⟨gb180, 3, none⟩ = some (.int .i64 a0_3) := ct BK180 3; have hcz69_4 : w68.cell? ⟨gb180, 4, none⟩ = some (.slice A0_4 l0_4.length c0_4) := ct BK180 4; have hcz69_5 : w68.cell? ⟨gb180, 5, none⟩ = some (.string a0_5) := ct BK180 5; have hcz69_6 : w68.cell? ⟨gb180, 6, none⟩ = some (.string a0_6) := ct BK180 6; have hcz69_7 : w68.cell? ⟨gb180, 7, none⟩ = some (.int .i64 a0_7) := ct BK180 7; have hcz69_8 : w68.cell? ⟨gb180, 8, none⟩ = some (.slice A0_8 l0_8.length c0_8) := ct BK180 8; have hcz69_9 : w68.cell? ⟨gb180, 9, none⟩ = some (.slice A0_9 l0_9.length c0_9) := ct BK180 9; have hcz69_10 : w68.cell? ⟨gb180, 10, none⟩ = some (.slice A0_10 l0_10.length c0_10) := ct BK180 10; have hfz69_0 := blk_frozen BK180.out 0; have hfz69_1 := blk_frozen BK180.out 1; have hfz69_2 := blk_frozen BK180.out 2; have hfz69_3 := blk_frozen BK180.out 3; have hfz69_4 := blk_frozen BK180.out 4; have hfz69_5 := blk_frozen BK180.out 5; have hfz69_6 := blk_frozen BK180.out 6; have hfz69_7 := blk_frozen BK180.out 7; have hfz69_8 := blk_frozen BK180.out 8; have hfz69_9 := blk_frozen BK180.out 9; have hfz69_10 := blk_frozen BK180.out 10) | ((with_reducible refine gate_dst (N := 14) rfl ?_); refine Gv.zS 14 40 #[.int .i64 a0_0, .int .i64 a0_1, .string a0_2, .int .i64 a0_3, .slice A0_4 l0_4.length c0_4, .string a0_5, .string a0_6, .int .i64 a0_7, .slice A0_8 l0_8.length c0_8, .slice A0_9 l0_9.length c0_9, .slice A0_10 l0_10.length c0_10] ?_; intro gs hgs w70s hsb hsl; replace BK180 := kb BK180 hsl; replace HB := bp hsl; have BSS := Aside0.mk hsb; clear hsb hsl hgs) | ((with_reducible refine gate_callee (f := 8) rfl ?_); refine zC 16 Try.func8 #[.agg #[.int .i64 0, .string (⟨#[]⟩ : ByteArray), .slice (some ⟨gs, 0, none⟩) 1 1, .slice none 0 0, .slice none 0 0, .slice none 0 0], .int .i64 500] ?_; (with_reducible refine (small_one a0_0 a0_1 a0_2 a0_3 _ _ l0_4 a0_5 a0_6 a0_7 _ _ l0_8 _ _ l0_9 _ _ l0_10 500 true gs _ ?side1 ?side2 ?side3 ?side4 ?side5 ?side6 ?side7 ?side8 BSS.out A3.out).mono ?_); (case side1 => exact cz HR0_4); (case side2 => exact HC0_4.out); (case side3 => exact cz HR0_8); (case side4 => exact HC0_8.out); (case side5 => exact cz HR0_9); (case side6 => exact HC0_9.out); (case side7 => exact cz HR0_10); (case side8 => exact HC0_10.out); rintro e w70 ⟨rfl, hb⟩; refine ⟨_, rfl, ?_⟩; clear BSS; replace BK180 := kb BK180 hb; replace HB := bp hb; clear hb; have hcz71_0 : w70.cell? ⟨gb180, 0, none⟩ = some (.int .i64 a0_0) := ct BK180 0; have hcz71_1 : w70.cell? ⟨gb180, 1, none⟩ = some (.int .i64 a0_1) := ct BK180 1; have hcz71_2 : w70.cell? ⟨gb180, 2, none⟩ = some (.string a0_2) := ct BK180 2; have hcz71_3 : w70.cell? ⟨gb180, 3, none⟩ = some (.int .i64 a0_3) := ct BK180 3; have hcz71_4 : w70.cell? ⟨gb180, 4, none⟩ = some (.slice A0_4 l0_4.length c0_4) := ct BK180 4; have hcz71_5 : w70.cell? ⟨gb180, 5, none⟩ = some (.string a0_5) := ct BK180 5; have hcz71_6 : w70.cell? ⟨gb180, 6, none⟩ = some (.string a0_6) := ct BK180 6; have hcz71_7 : w70.cell? ⟨gb180, 7, none⟩ = some (.int .i64 a0_7) := ct BK180 7; have hcz71_8 : w70.cell? ⟨gb180, 8, none⟩ = some (.slice A0_8 l0_8.length c0_8) := ct BK180 8; have hcz71_9 : w70.cell? ⟨gb180, 9, none⟩ = some (.slice A0_9 l0_9.length c0_9) := ct BK180 9; have hcz71_10 : w70.cell? ⟨gb180, 10, none⟩ = some (.slice A0_10 l0_10.length c0_10) := ct BK180 10; have hfz71_0 := blk_frozen BK180.out 0; have hfz71_1 := blk_frozen BK180.out 1; have hfz71_2 := blk_frozen BK180.out 2; have hfz71_3 := blk_frozen BK180.out 3; have hfz71_4 := blk_frozen BK180.out 4; have hfz71_5 := blk_frozen BK180.out 5; have hfz71_6 := blk_frozen BK180.out 6; have hfz71_7 := blk_frozen BK180.out 7; have hfz71_8 := blk_frozen BK180.out 8; have hfz71_9 := blk_frozen BK180.out 9; have hfz71_10 := blk_frozen BK180.out 10) | ((with_reducible refine gate_callee (f := 16) rfl ?_); refine zC 21 Try.func16 #[.agg #[.int .i64 a0_0, .int .i64 a0_1, .string a0_2, .int .i64 a0_3, .slice A0_4 l0_4.length c0_4, .string a0_5, .string a0_6, .int .i64 a0_7, .slice A0_8 l0_8.length c0_8, .slice A0_9 l0_9.length c0_9, .slice A0_10 l0_10.length c0_10], .int .i64 a1] ?_; (with_reducible refine (model_Needs.calls a0_0 a0_1 a0_2 a0_3 _ _ l0_4 a0_5 a0_6 a0_7 _ _ l0_8 _ _ l0_9 _ _ l0_10 a1 t182 t185 _ ?side1 ?side2 ?side3 ?side4 ?side5 ?side6 ?side7 ?side8 A5.out).mono ?_); (case side1 => exact cz HR0_4); (case side2 => exact HC0_4.out); (case side3 => exact cz HR0_8); (case side4 => exact HC0_8.out); (case side5 => exact cz HR0_9); (case side6 => exact HC0_9.out); (case side7 => exact cz HR0_10); (case side8 => exact HC0_10.out); rintro e w72 ⟨v183, rfl, ho0, hb⟩; refine ⟨_, rfl, ?_⟩; have HO184 := Aside0.mk (Kd.R_lower ho0 sz); replace BK180 := kb BK180 hb; replace HB := bp hb; clear hb ho0; have hcz73_0 : w72.cell? ⟨gb180, 0, none⟩ = some (.int .i64 a0_0) := ct BK180 0; have hcz73_1 : w72.cell? ⟨gb180, 1, none⟩ = some (.int .i64 a0_1) := ct BK180 1; have hcz73_2 : w72.cell? ⟨gb180, 2, none⟩ = some (.string a0_2) := ct BK180 2; have hcz73_3 : w72.cell? ⟨gb180, 3, none⟩ = some (.int .i64 a0_3) := ct BK180 3; have hcz73_4 : w72.cell? ⟨gb180, 4, none⟩ = some (.slice A0_4 l0_4.length c0_4) := ct BK180 4; have hcz73_5 : w72.cell? ⟨gb180, 5, none⟩ = some (.string a0_5) := ct BK180 5; have hcz73_6 : w72.cell? ⟨gb180, 6, none⟩ = some (.string a0_6) := ct BK180 6; have hcz73_7 : w72.cell? ⟨gb180, 7, none⟩ = some (.int .i64 a0_7) := ct BK180 7; have hcz73_8 : w72.cell? ⟨gb180, 8, none⟩ = some (.slice A0_8 l0_8.length c0_8) := ct BK180 8; have hcz73_9 : w72.cell? ⟨gb180, 9, none⟩ = some (.slice A0_9 l0_9.length c0_9) := ct BK180 9; have hcz73_10 : w72.cell? ⟨gb180, 10, none⟩ = some (.slice A0_10 l0_10.length c0_10) := ct BK180 10; have hfz73_0 := blk_frozen BK180.out 0; have hfz73_1 := blk_frozen BK180.out 1; have hfz73_2 := blk_frozen BK180.out 2; have hfz73_3 := blk_frozen BK180.out 3; have hfz73_4 := blk_frozen BK180.out 4; have hfz73_5 := blk_frozen BK180.out 5; have hfz73_6 := blk_frozen BK180.out 6; have hfz73_7 := blk_frozen BK180.out 7; have hfz73_8 := blk_frozen BK180.out 8; have hfz73_9 := blk_frozen BK180.out 9; have hfz73_10 := blk_frozen BK180.out 10) | ((with_reducible refine gate_callee (f := 17) rfl ?_); refine zC 27 Try.func17 #[.agg #[.int .i64 a0_0, .int .i64 a0_1, .string a0_2, .int .i64 a0_3, .slice A0_4 l0_4.length c0_4, .string a0_5, .string a0_6, .int .i64 a0_7, .slice A0_8 l0_8.length c0_8, .slice A0_9 l0_9.length c0_9, .slice A0_10 l0_10.length c0_10], .int .i64 a1] ?_; (with_reducible refine (dioramaref03_Needs.calls k a0_0 a0_1 a0_2 a0_3 _ _ l0_4 a0_5 a0_6 a0_7 _ _ l0_8 _ _ l0_9 _ _ l0_10 a1 t186 t189 _ ?side1 ?side2 ?side3 ?side4 ?side5 ?side6 ?side7 ?side8 A6.out).mono ?_); (case side1 => exact cz HR0_4); (case side2 => exact HC0_4.out); (case side3 => exact cz HR0_8); (case side4 => exact HC0_8.out); (case side5 => exact cz HR0_9); (case side6 => exact HC0_9.out); (case side7 => exact cz HR0_10); (case side8 => exact HC0_10.out); rintro e w74 ⟨v187, rfl, ho0, hb⟩; refine ⟨_, rfl, ?_⟩; have HO188 := Aside0.mk (Kd.R_lower (Kd.R_new' ho0 (Kd.R_lt (rz HO184))) sz); replace HO184 := Aside0.mk (Kd.R_elder' (rz HO184) (Kd.R_base ho0) hb); replace BK180 := kb BK180 hb; replace HB := bp hb; clear hb ho0; have hcz75_0 : w74.cell? ⟨gb180, 0, none⟩ = some (.int .i64 a0_0) := ct BK180 0; have hcz75_1 : w74.cell? ⟨gb180, 1, none⟩ = some (.int .i64 a0_1) := ct BK180 1; have hcz75_2 : w74.cell? ⟨gb180, 2, none⟩ = some (.string a0_2) := ct BK180 2; have hcz75_3 : w74.cell? ⟨gb180, 3, none⟩ = some (.int .i64 a0_3) := ct BK180 3; have hcz75_4 : w74.cell? ⟨gb180, 4, none⟩ = some (.slice A0_4 l0_4.length c0_4) := ct BK180 4; have hcz75_5 : w74.cell? ⟨gb180, 5, none⟩ = some (.string a0_5) := ct BK180 5; have hcz75_6 : w74.cell? ⟨gb180, 6, none⟩ = some (.string a0_6) := ct BK180 6; have hcz75_7 : w74.cell? ⟨gb180, 7, none⟩ = some (.int .i64 a0_7) := ct BK180 7; have hcz75_8 : w74.cell? ⟨gb180, 8, none⟩ = some (.slice A0_8 l0_8.length c0_8) := ct BK180 8; have hcz75_9 : w74.cell? ⟨gb180, 9, none⟩ = some (.slice A0_9 l0_9.length c0_9) := ct BK180 9; have hcz75_10 : w74.cell? ⟨gb180, 10, none⟩ = some (.slice A0_10 l0_10.length c0_10) := ct BK180 10; have hfz75_0 := blk_frozen BK180.out 0; have hfz75_1 := blk_frozen BK180.out 1; have hfz75_2 := blk_frozen BK180.out 2; have hfz75_3 := blk_frozen BK180.out 3; have hfz75_4 := blk_frozen BK180.out 4; have hfz75_5 := blk_frozen BK180.out 5; have hfz75_6 := blk_frozen BK180.out 6; have hfz75_7 := blk_frozen BK180.out 7; have hfz75_8 := blk_frozen BK180.out 8; have hfz75_9 := blk_frozen BK180.out 9; have hfz75_10 := blk_frozen BK180.out 10) | ((with_reducible refine gate_callee (f := 18) rfl ?_); refine zC 33 Try.func18 #[.agg #[.int .i64 a0_0, .int .i64 a0_1, .string a0_2, .int .i64 a0_3, .slice A0_4 l0_4.length c0_4, .string a0_5, .string a0_6, .int .i64 a0_7, .slice A0_8 l0_8.length c0_8, .slice A0_9 l0_9.length c0_9, .slice A0_10 l0_10.length c0_10], .int .i64 a1] ?_; (with_reducible refine (model_Start.calls k a0_0 a0_1 a0_2 a0_3 _ _ l0_4 a0_5 a0_6 a0_7 _ _ l0_8 _ _ l0_9 _ _ l0_10 a1 t190 t191 _ ?side1 ?side2 ?side3 ?side4 ?side5 ?side6 ?side7 ?side8 A7.out).mono ?_); (case side1 => exact cz HR0_4); (case side2 => exact HC0_4.out); (case side3 => exact cz HR0_8); (case side4 => exact HC0_8.out); (case side5 => exact cz HR0_9); (case side6 => exact HC0_9.out); (case side7 => exact cz HR0_10); (case side8 => exact HC0_10.out); rintro e w76 ⟨rfl, hb⟩; refine ⟨_, rfl, ?_⟩; replace HO184 := Aside0.mk (Kd.R_below (rz HO184) hb); replace HO188 := Aside0.mk (Kd.R_below (rz HO188) hb); replace BK180 := kb BK180 hb; replace HB := bp hb; clear hb; have hcz77_0 : w76.cell? ⟨gb180, 0, none⟩ = some (.int .i64 a0_0) := ct BK180 0; have hcz77_1 : w76.cell? ⟨gb180, 1, none⟩ = some (.int .i64 a0_1) := ct BK180 1; have hcz77_2 : w76.cell? ⟨gb180, 2, none⟩ = some (.string a0_2) := ct BK180 2; have hcz77_3 : w76.cell? ⟨gb180, 3, none⟩ = some (.int .i64 a0_3) := ct BK180 3; have hcz77_4 : w76.cell? ⟨gb180, 4, none⟩ = some (.slice A0_4 l0_4.length c0_4) := ct BK180 4; have hcz77_5 : w76.cell? ⟨gb180, 5, none⟩ = some (.string a0_5) := ct BK180 5; have hcz77_6 : w76.cell? ⟨gb180, 6, none⟩ = some (.string a0_6) := ct BK180 6; have hcz77_7 : w76.cell? ⟨gb180, 7, none⟩ = some (.int .i64 a0_7) := ct BK180 7; have hcz77_8 : w76.cell? ⟨gb180, 8, none⟩ = some (.slice A0_8 l0_8.length c0_8) := ct BK180 8; have hcz77_9 : w76.cell? ⟨gb180, 9, none⟩ = some (.slice A0_9 l0_9.length c0_9) := ct BK180 9; have hcz77_10 : w76.cell? ⟨gb180, 10, none⟩ = some (.slice A0_10 l0_10.length c0_10) := ct BK180 10; have hfz77_0 := blk_frozen BK180.out 0; have hfz77_1 := blk_frozen BK180.out 1; have hfz77_2 := blk_frozen BK180.out 2; have hfz77_3 := blk_frozen BK180.out 3; have hfz77_4 := blk_frozen BK180.out 4; have hfz77_5 := blk_frozen BK180.out 5; have hfz77_6 := blk_frozen BK180.out 6; have hfz77_7 := blk_frozen BK180.out 7; have hfz77_8 := blk_frozen BK180.out 8; have hfz77_9 := blk_frozen BK180.out 9; have hfz77_10 := blk_frozen BK180.out 10) | ((with_reducible refine gate_callee (f := 19) rfl ?_); refine zC 39 Try.func19 #[.agg #[.int .i64 a0_0, .int .i64 a0_1, .string a0_2, .int .i64 a0_3, .slice A0_4 l0_4.length c0_4, .string a0_5, .string a0_6, .int .i64 a0_7, .slice A0_8 l0_8.length c0_8, .slice A0_9 l0_9.length c0_9, .slice A0_10 l0_10.length c0_10], .int .i64 a1] ?_; (with_reducible refine (dioramaref03_Start.calls k a0_0 a0_1 a0_2 a0_3 _ _ l0_4 a0_5 a0_6 a0_7 _ _ l0_8 _ _ l0_9 _ _ l0_10 a1 t192 t193 _ ?side1 ?side2 ?side3 ?side4 ?side5 ?side6 ?side7 ?side8 A8.out).mono ?_); (case side1 => exact cz HR0_4); (case side2 => exact HC0_4.out); (case side3 => exact cz HR0_8); (case side4 => exact HC0_8.out); (case side5 => exact cz HR0_9); (case side6 => exact HC0_9.out); (case side7 => exact cz HR0_10); (case side8 => exact HC0_10.out); rintro e w78 ⟨rfl, hb⟩; refine ⟨_, rfl, ?_⟩; replace HO184 := Aside0.mk (Kd.R_below (rz HO184) hb); replace HO188 := Aside0.mk (Kd.R_below (rz HO188) hb); replace BK180 := kb BK180 hb; replace HB := bp hb; clear hb; obtain ⟨Ao79, co79, eo79⟩ := Kd.R_slice HO184.out; subst eo79; obtain ⟨Ao80, co80, eo80⟩ := Kd.R_slice HO188.out; subst eo80) | ((with_reducible refine gate_callee (f := 20) rfl ?_); refine zC 44 Try.func20 #[.slice Ao79 t182.length co79, .slice Ao80 t186.length co80] ?_; (with_reducible refine (dioramaref00_EqInts.calls k _ _ t182 _ _ t186 false _ ?side1 ?side2 ?side3 ?side4 A9.out).mono ?_); (case side1 => exact cr HO184); (case side2 => exact (Kd.R_reads' HO184.out).2.1); (case side3 => exact cr HO188); (case side4 => exact (Kd.R_reads' HO188.out).2.1); rintro e w' ⟨rfl, ⟨nd, rfl⟩⟩; refine ⟨_, rfl, ?_⟩))
   go_ret
   exact ⟨ez, bz⟩
 ·obtain rfl := bf c4; rw [if_neg (show ¬ (false = true) by decide)] at H; obtain rfl := Option.some.inj H
  go_enter Try.func4, Try.ntmps4
  go_wp2_with (first | ((with_reducible refine gate_dst (N := 2) rfl ?_); refine zB 2 40 #[.int .i64 a0_0, .int .i64 a0_1, .string a0_2, .int .i64 a0_3, .slice A0_4 l0_4.length c0_4, .string a0_5, .string a0_6, .int .i64 a0_7, .slice A0_8 l0_8.length c0_8, .slice A0_9 l0_9.length c0_9, .slice A0_10 l0_10.length c0_10] ?_; intro gb180 hg w81 hbox hb; have BK180 := Aside0.mk hbox; have GW180 := gz hg; have GE180 := gz hg; replace HB := bp hb; clear hb hbox hg; have hcz82_0 : w81.cell? ⟨gb180, 0, none⟩ = some (.int .i64 a0_0) := ct BK180 0; have hcz82_1 : w81.cell? ⟨gb180, 1, none⟩ = some (.int .i64 a0_1) := ct BK180 1; have hcz82_2 : w81.cell? ⟨gb180, 2, none⟩ = some (.string a0_2) := ct BK180 2; have hcz82_3 : w81.cell? ⟨gb180, 3, none⟩ = some (.int .i64 a0_3) := ct BK180 3; have hcz82_4 : w81.cell? ⟨gb180, 4, none⟩ = some (.slice A0_4 l0_4.length c0_4) := ct BK180 4; have hcz82_5 : w81.cell? ⟨gb180, 5, none⟩ = some (.string a0_5) := ct BK180 5; have hcz82_6 : w81.cell? ⟨gb180, 6, none⟩ = some (.string a0_6) := ct BK180 6; have hcz82_7 : w81.cell? ⟨gb180, 7, none⟩ = some (.int .i64 a0_7) := ct BK180 7; have hcz82_8 : w81.cell? ⟨gb180, 8, none⟩ = some (.slice A0_8 l0_8.length c0_8) := ct BK180 8; have hcz82_9 : w81.cell? ⟨gb180, 9, none⟩ = some (.slice A0_9 l0_9.length c0_9) := ct BK180 9; have hcz82_10 : w81.cell? ⟨gb180, 10, none⟩ = some (.slice A0_10 l0_10.length c0_10) := ct BK180 10; have hfz82_0 := blk_frozen BK180.out 0; have hfz82_1 := blk_frozen BK180.out 1; have hfz82_2 := blk_frozen BK180.out 2; have hfz82_3 := blk_frozen BK180.out 3; have hfz82_4 := blk_frozen BK180.out 4; have hfz82_5 := blk_frozen BK180.out 5; have hfz82_6 := blk_frozen BK180.out 6; have hfz82_7 := blk_frozen BK180.out 7; have hfz82_8 := blk_frozen BK180.out 8; have hfz82_9 := blk_frozen BK180.out 9; have hfz82_10 := blk_frozen BK180.out 10) | ((with_reducible refine gate_dst (N := 14) rfl ?_); refine Gv.zS 14 40 #[.int .i64 a0_0, .int .i64 a0_1, .string a0_2, .int .i64 a0_3, .slice A0_4 l0_4.length c0_4, .string a0_5, .string a0_6, .int .i64 a0_7, .slice A0_8 l0_8.length c0_8, .slice A0_9 l0_9.length c0_9, .slice A0_10 l0_10.length c0_10] ?_; intro gs hgs w83s hsb hsl; replace BK180 := kb BK180 hsl; replace HB := bp hsl; have BSS := Aside0.mk hsb; clear hsb hsl hgs) | ((with_reducible refine gate_callee (f := 8) rfl ?_); refine zC 16 Try.func8 #[.agg #[.int .i64 0, .string (⟨#[]⟩ : ByteArray), .slice (some ⟨gs, 0, none⟩) 1 1, .slice none 0 0, .slice none 0 0, .slice none 0 0], .int .i64 500] ?_; (with_reducible refine (small_one a0_0 a0_1 a0_2 a0_3 _ _ l0_4 a0_5 a0_6 a0_7 _ _ l0_8 _ _ l0_9 _ _ l0_10 500 false gs _ ?side1 ?side2 ?side3 ?side4 ?side5 ?side6 ?side7 ?side8 BSS.out A3.out).mono ?_); (case side1 => exact cz HR0_4); (case side2 => exact HC0_4.out); (case side3 => exact cz HR0_8); (case side4 => exact HC0_8.out); (case side5 => exact cz HR0_9); (case side6 => exact HC0_9.out); (case side7 => exact cz HR0_10); (case side8 => exact HC0_10.out); rintro e w83 ⟨rfl, hb⟩; refine ⟨_, rfl, ?_⟩; clear BSS; replace BK180 := kb BK180 hb; replace HB := bp hb; clear hb))
  go_ret
  exact ⟨ez, bz⟩
end Go.Proofs.Ytknklchmpohjfaa.E

namespace Go.Proofs.Ytknklchmpohjfaa.Gn
open Go.RowKit Go Go.Proofs.YtknklchmpohjfaaW.PrintWords Go.Proofs.YtknklchmpohjfaaW.PrintLast Go.Proofs.YtknklchmpohjfaaW.PrintMore Go.Proofs.Ytknklchmpohjfaa.Mn Go.Proofs.Ytknklchmpohjfaa.E Go.Proofs.Ytknklchmpohjfaa.Tk Go.Proofs.Ytknklchmpohjfaa.Nx Go.Proofs.Ytknklchmpohjfaa.Ny Go.Proofs.Ytknklchmpohjfaa.Gt
set_option linter.unusedVariables false
set_option linter.unusedSimpArgs false
def sS (l : List Bool) (j : Int) : Bool := decide (0 ≤ j) && rdOf false l j
theorem sS_at {l : List Bool} {j : Int} (h : 0 ≤ j) : sS l j = rdOf false l j := by unfold sS; rw [decide_eq_true h, Bool.true_and]
theorem sS_set {l : List Bool} {d : Int} (h0 : 0 ≤ d) (h1 : d < (l.length : Int)) (j : Int) : sS (l.set d.toNat true) j = (decide (j = d) || sS l j) := by
 unfold sS rdOf
 by_cases hj : 0 ≤ j
 ·rw [decide_eq_true hj, Bool.true_and, Bool.true_and]
  simp only [List.getD_eq_getElem?_getD, List.getElem?_set]
  by_cases he : j = d
  ·subst he
   rw [if_pos rfl, if_pos (by omega), decide_eq_true rfl, Bool.true_or]
   rfl
  ·rw [if_neg (by omega), decide_eq_false he, Bool.false_or]
 ·rw [decide_eq_false hj, Bool.false_and, Bool.false_and, decide_eq_false (by omega), Bool.false_or]
variable {dp : Int → List Int} {i : Int}
structure Inv (dp : Int → List Int) (i : Int) (l : List Bool) (k : Int) : Prop where
 len : (l.length : Int) = i + 1
 self : sS l i = true
 only : ∀ j, sS l j = true → rc dp i j = true
 closed : ∀ j, k < j → j ≤ i → sS l j = true → ∀ d ∈ dp j, sS l d = true
theorem Inv.put {l : List Bool} {k d : Int} (h : Inv dp i l k) (h0 : 0 ≤ d) (h1 : d ≤ k) (hk : k ≤ i) (hr : rc dp i d = true) : Inv dp i (l.set d.toNat true) k := by
 have hl := h.len
 have hs := fun j => sS_set (l := l) h0 (show d < (l.length : Int) by omega) j
 refine ⟨by simpa using hl, by rw [hs, h.self, Bool.or_true], fun j hj => ?_, fun j h2 h3 hj x hx => ?_⟩
 ·rw [hs] at hj
  rcases Bool.or_eq_true _ _ ▸ hj with hj | hj
  ·rw [decide_eq_true_eq] at hj
   subst hj
   exact hr
  ·exact h.only j hj
 ·rw [hs, decide_eq_false (show ¬ j = d by omega), Bool.false_or] at hj
  rw [hs, h.closed j h2 h3 hj x hx, Bool.or_true]
section
variable (id kind : Int) (codec : ByteArray) (scale : Int) (setup : List Int) (lang name : ByteArray) (pr : Int) (edits : List Ed') (refs : List Rf) (samples : List Sm)
theorem needs_l2 {m : Nat} (hm : m ≤ 400) {l : List Bool} (hl : l.length = m + 1) : ∀ (r n : Nat), n + r = m + 1 → Ev (fun k => dioramaref03_needs.l2 k (m : Int) l ((upto n).filter (sS l)) (n : Int)) ((upto (m + 1)).filter (sS l))
 | 0, n, h => by
  have : n = m + 1 := by omega
  subst this
  refine Ev.step (f := fun _ => some _) (fun k => ?_) (Ev.now _)
  rw [dioramaref03_needs.l2, if_neg (by omega)]
 | r + 1, n, h => by
  have ih := needs_l2 hm hl r (n + 1) (by omega)
  have hw : wrap64 ((n : Int) + 1) = ((n + 1 : Nat) : Int) := by
   rw [w64 (by omega) (by omega)]
   omega
  refine Ev.step (fun k => ?_) ih
  rw [dioramaref03_needs.l2, if_pos (by omega), if_pos (by omega), if_pos (by omega), hw]
  rw [upto_succ, List.filter_append]
  have hsn := sS_at (l := l) (j := (n : Int)) (by omega)
  by_cases hb : rdOf false l (n : Int) = true
  ·have hlen : ((upto n).filter (sS l)).length ≤ n := by
    refine Nat.le_trans (List.length_filter_le _ _) ?_
    simp [upto]
   rw [if_pos hb, if_pos (by omega)]
   simp [hsn, hb]
  ·rw [if_neg hb]
   simp [hsn, Bool.eq_false_iff.2 hb]
variable (hs : smsV 0 0 samples = 0) (hl : samples.length ≤ 400)
include hs hl
theorem needs_l1 (h1 : i < (samples.length : Int)) (R : List Int) (n : Nat) (hn : (n : Int) ≤ i) (ih : ∀ l, Inv (dps samples) i l ((n : Int) - 1) → Ev (fun k => dioramaref03_needs.l0 k i l ((n : Int) - 1) id kind codec scale setup lang name pr edits refs samples) R) :
  ∀ (rest pre : List Int) (l : List Bool), dps samples n = pre ++ rest → Inv (dps samples) i l n → sS l n = true → (∀ d ∈ pre, sS l d = true) → Ev (fun k => dioramaref03_needs.l1 k i l (n : Int) (pre.length : Int) id kind codec scale setup lang name pr edits refs samples) R
 | [], pre, l, h, hI, hS, hp => by
  have hd : (rd_T51 samples (n : Int)).f4 = pre := by
   have : dps samples n = pre := by rw [h]; simp
   exact this
  have hw : wrap64 ((n : Int) - 1) = (n : Int) - 1 := w64 (by omega) (by omega)
  refine Ev.step (fun k => ?_) (ih l ⟨hI.len, hI.self, hI.only, fun j h2 h3 hj d hd' => ?_⟩)
  ·rw [dioramaref03_needs.l1, if_pos (by omega), if_pos (by omega), hd, if_neg (by omega), hw]
  ·by_cases he : j = n
   ·subst he
    have : dps samples n = pre := by rw [h]; simp
    rw [this] at hd'
    exact hp d hd'
   ·exact hI.closed j (by omega) h3 hj d hd'
 | x :: t, pre, l, h, hI, hS, hp => by
  have hat := at_ok hs (show 0 ≤ (n : Int) by omega) (show (n : Int) < (samples.length : Int) by omega)
  have hx : x ∈ dps samples n := by rw [h]; simp
  have hb := dn_of hs n (by omega) (by omega) x hx
  have hr : rc (dps samples) i x = true := rc_trans (dn_of hs) (by omega) h1 (hI.only n hS) (rc_dep (dn_of hs) (by omega) (by omega) hx (rc_self x))
  have hI2 := hI.put hb.1 (by omega) hn hr
  have hset := fun j => sS_set (l := l) hb.1 (show x < (l.length : Int) by have := hI.len; omega) j
  have ih2 := needs_l1 h1 R n hn ih t (pre ++ [x]) (l.set x.toNat true) (by rw [h]; simp) hI2 (by rw [hset, hS, Bool.or_true]) (fun d hd => by
   rw [hset]
   rcases List.mem_append.1 hd with hd | hd
   ·rw [hp d hd, Bool.or_true]
   ·rw [List.mem_singleton] at hd
    subst hd
    simp)
  have hd : (rd_T51 samples (n : Int)).f4 = pre ++ x :: t := h
  have hlen : (dps samples n).length = pre.length + (t.length + 1) := by rw [h]; simp
  have hrd : rd (pre ++ x :: t) (pre.length : Int) = x := rd_mid
  have hw : wrap64 ((pre.length : Int) + 1) = ((pre ++ [x]).length : Int) := by
   rw [w64 (by omega) (by omega)]
   simp
  refine Ev.step (fun k => ?_) ih2
  rw [dioramaref03_needs.l1, if_pos (by omega), if_pos (by omega), hd, if_pos (by simp; omega), if_pos (by omega), hrd, if_pos (by omega), if_pos (by have := hI.len; omega), hw]
theorem needs_l0 (h0 : 0 ≤ i) (h1 : i < (samples.length : Int)) : ∀ (n : Nat), (n : Int) ≤ i + 1 → ∀ l, Inv (dps samples) i l ((n : Int) - 1) → Ev (fun k => dioramaref03_needs.l0 k i l ((n : Int) - 1) id kind codec scale setup lang name pr edits refs samples) ((upto (i.toNat + 1)).filter (rc (dps samples) i))
 | 0, hn, l, hI => by
  have hf : (upto (i.toNat + 1)).filter (rc (dps samples) i) = (upto (i.toNat + 1)).filter (sS l) := by
   refine List.filter_congr (fun j hj => ?_)
   have hj2 := mem_upto.1 hj
   exact (rc_of_closed (dn_of hs) h0 h1 hI.self hI.only (fun k h2 h3 hk d hd => hI.closed k (by omega) h3 hk d hd) j).symm
  have hll := hI.len
  have h2 := needs_l2 (m := i.toNat) (by omega) (l := l) (by omega) (i.toNat + 1) 0 (by omega)
  rw [show ((i.toNat : Nat) : Int) = i by omega] at h2
  rw [hf]
  refine Ev.step (fun k => ?_) h2
  rw [dioramaref03_needs.l0, if_neg (by omega)]
  rfl
 | n + 1, hn, l, hI => by
  have ih := needs_l0 h0 h1 n (by omega)
  have hx : ((n + 1 : Nat) : Int) - 1 = n := by omega
  rw [hx] at hI ⊢
  have hw : wrap64 ((n : Int) - 1) = (n : Int) - 1 := w64 (by omega) (by omega)
  have hsn := sS_at (l := l) (j := (n : Int)) (by omega)
  by_cases hb : rdOf false l (n : Int) = true
  ·have hl1 := needs_l1 id kind codec scale setup lang name pr edits refs samples hs hl h1 _ n (by omega) ih (dps samples n) [] l rfl hI (by rw [hsn, hb]) (by simp)
   refine Ev.step (fun k => ?_) hl1
   rw [dioramaref03_needs.l0, if_pos (by omega), if_pos (by omega), if_pos (by have := hI.len; omega), if_pos hb]
   rfl
  ·refine Ev.step (fun k => ?_) (ih l ⟨hI.len, hI.self, hI.only, fun j h2 h3 hj d hd => ?_⟩)
   ·rw [dioramaref03_needs.l0, if_pos (by omega), if_pos (by omega), if_pos (by have := hI.len; omega), if_neg hb, hw]
   ·by_cases he : j = n
    ·subst he
     rw [hsn] at hj
     exact absurd hj hb
    ·exact hI.closed j (by omega) h3 hj d hd
theorem rneeds_f (h0 : 0 ≤ i) (h1 : i < (samples.length : Int)) : Ev (fun k => dioramaref03_needs.f k id kind codec scale setup lang name pr edits refs samples i) (ndsL (dps samples) samples.length i) := by
 have hw : wrap64 (i + 1) = i + 1 := w64 (by omega) (by omega)
 have hrep : ∀ j, sS (List.replicate (i + 1).toNat false) j = false := by
  intro j
  unfold sS rdOf
  simp only [List.getD_eq_getElem?_getD, List.getElem?_replicate]
  split <;> simp
 have hset := fun j => sS_set (l := List.replicate (i + 1).toNat false) h0 (show i < ((List.replicate (i + 1).toNat false).length : Int) by simp; omega) j
 have hI : Inv (dps samples) i ((List.replicate (i + 1).toNat false).set i.toNat true) i := by
  refine ⟨by simp; omega, by rw [hset]; simp, fun j hj => ?_, fun j h2 h3 => by omega⟩
  rw [hset, hrep, Bool.or_false, decide_eq_true_eq] at hj
  subst hj
  exact rc_self _
 have h := needs_l0 id kind codec scale setup lang name pr edits refs samples hs hl h0 h1 (i.toNat + 1) (by omega) _ (by rw [show (((i.toNat + 1 : Nat) : Int) - 1) = i by omega]; exact hI)
 rw [show (((i.toNat + 1 : Nat) : Int) - 1) = i by omega, ← nds_ref (dn_of hs) h0 h1] at h
 refine Ev.congr (fun k => ?_) h
 unfold dioramaref03_needs.f
 rw [hw, if_pos (by omega), if_pos (by omega)]
 simp only [Option.bind_some]
 rw [if_pos h0, if_pos (by simp; omega)]
end
end Go.Proofs.Ytknklchmpohjfaa.Gn
namespace Go.Proofs.Ytknklchmpohjfaa.Gp
open Go.RowKit Go Go.Proofs.YtknklchmpohjfaaW.PrintWords Go.Proofs.YtknklchmpohjfaaW.PrintLast Go.Proofs.YtknklchmpohjfaaW.PrintMore Go.Proofs.Ytknklchmpohjfaa.Mn Go.Proofs.Ytknklchmpohjfaa.E Go.Proofs.Ytknklchmpohjfaa.Tk Go.Proofs.Ytknklchmpohjfaa.Tw Go.Proofs.Ytknklchmpohjfaa.Nx Go.Proofs.Ytknklchmpohjfaa.Ny Go.Proofs.Ytknklchmpohjfaa.Gt Go.Proofs.Ytknklchmpohjfaa.Gn
set_option linter.unusedVariables false
set_option linter.unusedSimpArgs false
theorem eqI_l {l : List Int} (hl : l.length ≤ 1000) : ∀ (r n : Nat), n + r = l.length → Ev (fun k => dioramaref00_EqInts.l0 k l l (n : Int)) true
 | 0, n, h => by
  refine Ev.step (f := fun _ => some _) (fun k => ?_) (Ev.now _)
  rw [dioramaref00_EqInts.l0, if_neg (by omega)]
 | r + 1, n, h => by
  have hw : wrap64 ((n : Int) + 1) = ((n + 1 : Nat) : Int) := by
   rw [w64 (by omega) (by omega)]
   omega
  refine Ev.step (fun k => ?_) (eqI_l hl r (n + 1) (by omega))
  rw [dioramaref00_EqInts.l0, if_pos (by omega), if_pos (by omega), if_pos (by omega), if_pos rfl, hw]
theorem eqI_f {l : List Int} (hl : l.length ≤ 1000) : Ev (fun k => dioramaref00_EqInts.f k l l) true := by
 refine Ev.congr (fun k => ?_) (eqI_l hl l.length 0 (by omega))
 unfold dioramaref00_EqInts.f
 rw [if_pos rfl]
 rfl
def beg : Option Int → Int × Int
 | some s => (s, 0)
 | none => (0, 5)
section
variable (id kind : Int) (codec : ByteArray) (scale : Int) (setup : List Int) (lang name : ByteArray) (pr : Int) (edits : List Ed') (refs : List Rf) (samples : List Sm)
def rdyV (i : Int) : Int := if chkT id kind codec scale setup lang name pr edits refs samples = 0 then (if i < 0 then 1 else if i ≥ (samples.length : Int) then 1 else 0) else chkT id kind codec scale setup lang name pr edits refs samples
def ndV (i : Int) : List Int × Int := if rdyV id kind codec scale setup lang name pr edits refs samples i = 0 then (ndsL (dps samples) samples.length i, 0) else ([], rdyV id kind codec scale setup lang name pr edits refs samples i)
def stS (i : Int) : Int × Int := if rdyV id kind codec scale setup lang name pr edits refs samples i = 0 then beg (stV (syn samples) ((rd (ndsL (dps samples) samples.length i) 0).toNat + 1)) else (0, rdyV id kind codec scale setup lang name pr edits refs samples i)
theorem rdy_is {i : Int} (h : rdyV id kind codec scale setup lang name pr edits refs samples i = 0) : chkT id kind codec scale setup lang name pr edits refs samples = 0 ∧ 0 ≤ i ∧ i < (samples.length : Int) := by
 unfold rdyV at h
 by_cases hc : chkT id kind codec scale setup lang name pr edits refs samples = 0
 ·rw [if_pos hc] at h
  split at h
  ·cases h
  ·split at h
   ·cases h
   ·exact ⟨hc, by omega, by omega⟩
 ·rw [if_neg hc] at h
  exact absurd h hc
theorem nd_len (i : Int) : (ndV id kind codec scale setup lang name pr edits refs samples i).1.length ≤ 1000 := by
 unfold ndV
 split
 ·rename_i h
  have h1 := nds_len (dp := dps samples) (n := samples.length) i
  have h2 := chk_smp (rdy_is id kind codec scale setup lang name pr edits refs samples h).1
  show (ndsL (dps samples) samples.length i).length ≤ 1000
  omega
 ·simp
theorem nd_head {i : Int} (h : rdyV id kind codec scale setup lang name pr edits refs samples i = 0) : ∃ d t, ndsL (dps samples) samples.length i = d :: t ∧ rd (ndsL (dps samples) samples.length i) 0 = d ∧ 0 ≤ d ∧ d < (samples.length : Int) ∧ d ≤ i := by
 obtain ⟨hc, h0, h1⟩ := rdy_is id kind codec scale setup lang name pr edits refs samples h
 obtain ⟨d, t, hl, a, b, c, _⟩ := nds_cons (dp := dps samples) h0 h1
 exact ⟨d, t, hl, by rw [hl]; rfl, a, b, c⟩
theorem start_l (hn : samples.length ≤ 400) : ∀ n : Nat, n ≤ samples.length → Ev (fun k => model_Start.l0 k ((n : Int) - 1) id kind codec scale setup lang name pr edits refs samples) (beg (stV (syn samples) n))
 | 0, h => by
  refine Ev.step (f := fun _ => some _) (fun k => ?_) (Ev.now _)
  rw [model_Start.l0, if_neg (by omega)]
  rfl
 | n + 1, h => by
  have ih := start_l hn n (by omega)
  have hx : ((n + 1 : Nat) : Int) - 1 = n := by omega
  have hw : wrap64 ((n : Int) - 1) = (n : Int) - 1 := w64 (by omega) (by omega)
  rw [hx, stV]
  by_cases hs : syn samples (n : Int) = true
  ·have hs2 : (rd_T51 samples (n : Int)).f3 = true := hs
   rw [if_pos hs]
   refine Ev.step (f := fun _ => some _) (fun k => ?_) (Ev.now _)
   rw [model_Start.l0, if_pos (by omega), if_pos (by omega), if_pos (by omega), if_pos hs2]
   rfl
  ·have hs2 : ¬ (rd_T51 samples (n : Int)).f3 = true := hs
   rw [if_neg hs]
   refine Ev.step (fun k => ?_) ih
   rw [model_Start.l0, if_pos (by omega), if_pos (by omega), if_pos (by omega), if_neg hs2, hw]
theorem rstart_l (hn : samples.length ≤ 400) : ∀ n : Nat, n ≤ samples.length → Ev (fun k => dioramaref03_Start.l0 k ((n : Int) - 1) id kind codec scale setup lang name pr edits refs samples) (beg (stV (syn samples) n))
 | 0, h => by
  refine Ev.step (f := fun _ => some _) (fun k => ?_) (Ev.now _)
  rw [dioramaref03_Start.l0, if_neg (by omega)]
  rfl
 | n + 1, h => by
  have ih := rstart_l hn n (by omega)
  have hx : ((n + 1 : Nat) : Int) - 1 = n := by omega
  have hw : wrap64 ((n : Int) - 1) = (n : Int) - 1 := w64 (by omega) (by omega)
  rw [hx, stV]
  by_cases hs : syn samples (n : Int) = true
  ·have hs2 : (rd_T51 samples (n : Int)).f3 = true := hs
   rw [if_pos hs]
   refine Ev.step (f := fun _ => some _) (fun k => ?_) (Ev.now _)
   rw [dioramaref03_Start.l0, if_pos (by omega), if_pos (by omega), if_pos (by omega), if_pos hs2]
   rfl
  ·have hs2 : ¬ (rd_T51 samples (n : Int)).f3 = true := hs
   rw [if_neg hs]
   refine Ev.step (fun k => ?_) ih
   rw [dioramaref03_Start.l0, if_pos (by omega), if_pos (by omega), if_pos (by omega), if_neg hs2, hw]
theorem nd_of {i : Int} (h : rdyV id kind codec scale setup lang name pr edits refs samples i = 0) : model_needs.f id kind codec scale setup lang name pr edits refs samples i = some (ndsL (dps samples) samples.length i) := by
 obtain ⟨hc, h0, h1⟩ := rdy_is id kind codec scale setup lang name pr edits refs samples h
 have h2 := chk_smp hc
 unfold model_needs.f
 rw [if_pos]
 unfold ndsOk
 simp only [Bool.and_eq_true, decide_eq_true_eq]
 exact ⟨h2.2, h2.1, h0, h1⟩
variable (hok : okB codec lang name refs = true)
include hok
theorem ready_f (i : Int) : model_ready.f id kind codec scale setup lang name pr edits refs samples i = some (rdyV id kind codec scale setup lang name pr edits refs samples i) := by
 unfold model_ready.f model_CheckTrack.f rdyV
 rw [if_pos hok]
 simp only [Option.bind_some]
 split
 ·split
  ·rfl
  ·split <;> rfl
 ·rfl
theorem Needs_f (i : Int) : model_Needs.f id kind codec scale setup lang name pr edits refs samples i = some (ndV id kind codec scale setup lang name pr edits refs samples i) := by
 unfold model_Needs.f
 rw [ready_f id kind codec scale setup lang name pr edits refs samples hok]
 simp only [Option.bind_some]
 unfold ndV
 by_cases h : rdyV id kind codec scale setup lang name pr edits refs samples i = 0
 ·rw [if_pos h, if_pos h, nd_of id kind codec scale setup lang name pr edits refs samples h]
  rfl
 ·rw [if_neg h, if_neg h]
theorem Start_f (i : Int) : Ev (fun k => model_Start.f k id kind codec scale setup lang name pr edits refs samples i) (stS id kind codec scale setup lang name pr edits refs samples i) := by
 unfold model_Start.f stS
 rw [ready_f id kind codec scale setup lang name pr edits refs samples hok]
 simp only [Option.bind_some]
 by_cases h : rdyV id kind codec scale setup lang name pr edits refs samples i = 0
 ·rw [if_pos h, nd_of id kind codec scale setup lang name pr edits refs samples h]
  obtain ⟨d, t, hl, hd, a, b, c⟩ := nd_head id kind codec scale setup lang name pr edits refs samples h
  have h2 := chk_smp (rdy_is id kind codec scale setup lang name pr edits refs samples h).1
  have hs := start_l id kind codec scale setup lang name pr edits refs samples h2.1 (d.toNat + 1) (by omega)
  rw [show (((d.toNat + 1 : Nat) : Int) - 1) = d by omega] at hs
  rw [hd]
  refine Ev.congr (fun k => ?_) hs
  rw [if_pos h]
  simp only [Option.bind_some]
  rw [hd, if_pos (by rw [hl]; simp)]
 ·rw [if_neg h]
  refine Ev.congr (fun k => ?_) (Ev.now _)
  rw [if_neg h]
theorem rchk_f : Ev (fun k => dioramaref03_CheckTrack.f k id kind codec scale setup lang name pr edits refs samples) (chkT id kind codec scale setup lang name pr edits refs samples) := by
 have hb := hok
 unfold okB at hb
 simp only [Bool.and_eq_true, decide_eq_true_eq, List.all_eq_true] at hb
 exact rCheckTrack_f id kind codec scale setup lang name pr edits refs samples hb.1 hb.2.1 hb.2.2.1 hb.2.2.2.1 hb.2.2.2.2
theorem rNeeds_f (i : Int) : Ev (fun k => dioramaref03_Needs.f k id kind codec scale setup lang name pr edits refs samples i) (ndV id kind codec scale setup lang name pr edits refs samples i) := by
 unfold dioramaref03_Needs.f
 refine Ev.bind (rchk_f id kind codec scale setup lang name pr edits refs samples hok) ?_
 unfold ndV
 by_cases h : rdyV id kind codec scale setup lang name pr edits refs samples i = 0
 ·obtain ⟨hc, h0, h1⟩ := rdy_is id kind codec scale setup lang name pr edits refs samples h
  have h2 := chk_smp hc
  rw [if_pos h]
  refine Ev.congr (fun k => if_pos hc) (Ev.congr (fun k => if_neg (by omega)) (Ev.congr (fun k => if_neg (by omega)) ?_))
  exact Ev.bind (rneeds_f id kind codec scale setup lang name pr edits refs samples h2.2 h2.1 h0 h1) (Ev.now _)
 ·rw [if_neg h]
  unfold rdyV at h ⊢
  by_cases hc : chkT id kind codec scale setup lang name pr edits refs samples = 0
  ·rw [if_pos hc] at h ⊢
   refine Ev.congr (fun k => if_pos hc) ?_
   by_cases h1 : i < 0
   ·rw [if_pos h1]
    exact Ev.congr (fun k => if_pos h1) (Ev.now _)
   ·rw [if_neg h1] at h ⊢
    refine Ev.congr (fun k => if_neg h1) ?_
    by_cases h2 : i ≥ (samples.length : Int)
    ·rw [if_pos h2]
     exact Ev.congr (fun k => if_pos h2) (Ev.now _)
    ·rw [if_neg h2] at h
     exact absurd rfl h
  ·rw [if_neg hc]
   exact Ev.congr (fun k => if_neg hc) (Ev.now _)
theorem rStart_f (i : Int) : Ev (fun k => dioramaref03_Start.f k id kind codec scale setup lang name pr edits refs samples i) (stS id kind codec scale setup lang name pr edits refs samples i) := by
 unfold dioramaref03_Start.f
 refine Ev.bind (rNeeds_f id kind codec scale setup lang name pr edits refs samples hok i) ?_
 by_cases h : rdyV id kind codec scale setup lang name pr edits refs samples i = 0
 ·obtain ⟨d, t, hl, hd, a, b, c⟩ := nd_head id kind codec scale setup lang name pr edits refs samples h
  have h2 := chk_smp (rdy_is id kind codec scale setup lang name pr edits refs samples h).1
  have hs := rstart_l id kind codec scale setup lang name pr edits refs samples h2.1 (d.toNat + 1) (by omega)
  rw [show (((d.toNat + 1 : Nat) : Int) - 1) = d by omega] at hs
  have hv : ndV id kind codec scale setup lang name pr edits refs samples i = (ndsL (dps samples) samples.length i, 0) := if_pos h
  have hv2 : stS id kind codec scale setup lang name pr edits refs samples i = beg (stV (syn samples) (d.toNat + 1)) := by
   unfold stS
   rw [if_pos h, hd]
  rw [hv, hv2]
  refine Ev.congr (fun k => (if_pos rfl).trans (if_pos (show (0 : Int) < ((ndsL (dps samples) samples.length i).length : Int) by rw [hl]; simp))) ?_
  show Ev (fun k => dioramaref03_Start.l0 k (rd (ndsL (dps samples) samples.length i) 0) id kind codec scale setup lang name pr edits refs samples) _
  rw [hd]
  exact hs
 ·have hv : ndV id kind codec scale setup lang name pr edits refs samples i = ([], rdyV id kind codec scale setup lang name pr edits refs samples i) := if_neg h
  have hv2 : stS id kind codec scale setup lang name pr edits refs samples i = (0, rdyV id kind codec scale setup lang name pr edits refs samples i) := if_neg h
  rw [hv, hv2]
  exact Ev.congr (fun k => if_neg h) (Ev.now _)
end
end Go.Proofs.Ytknklchmpohjfaa.Gp
namespace Go.Proofs.Ytknklchmpohjfaa.Hn
open Go.RowKit Go Go.Proofs.YtknklchmpohjfaaW.PrintWords Go.Proofs.YtknklchmpohjfaaW.PrintLast Go.Proofs.YtknklchmpohjfaaW.PrintMore Go.Proofs.Ytknklchmpohjfaa.Mn Go.Proofs.Ytknklchmpohjfaa.E Go.Proofs.Ytknklchmpohjfaa.Tk Go.Proofs.Ytknklchmpohjfaa.Tw Go.Proofs.Ytknklchmpohjfaa.Gp Go.Proofs.Ytknklchmpohjfaa.Ho
set_option linter.unusedVariables false
set_option linter.unusedSimpArgs false
theorem pure_Hn (id kind : Int) (codec : ByteArray) (scale : Int) (setup : List Int) (lang name : ByteArray) (pr : Int) (edits : List Ed') (refs : List Rf) (samples : List Sm) (i : Int) (hok : okB codec lang name refs = true) : Ev (fun k => dioramalaw03_ModelNeeds.f k id kind codec scale setup lang name pr edits refs samples i) true := by
 unfold dioramalaw03_ModelNeeds.f model_Order.f
 simp only [Option.bind_some]
 split
 ·rw [Needs_f id kind codec scale setup lang name pr edits refs samples hok]
  simp only [Option.bind_some]
  refine Ev.bind (rNeeds_f id kind codec scale setup lang name pr edits refs samples hok i) ?_
  refine Ev.bind (Start_f id kind codec scale setup lang name pr edits refs samples hok i) ?_
  refine Ev.bind (rStart_f id kind codec scale setup lang name pr edits refs samples hok i) ?_
  refine Ev.bind (eqI_f (nd_len id kind codec scale setup lang name pr edits refs samples i)) ?_
  simp only [if_true]
  exact Ev.now _
 ·exact Ev.now _
theorem walk_Hn (id kind : Int) (codec : ByteArray) (scale : Int) (A4 : Option Addr) (c4 : Nat) (setup : List Int) (lang name : ByteArray) (pr : Int) (A8 : Option Addr) (c8 : Nat) (edits : List Ed') (A9 : Option Addr) (c9 : Nat) (refs : List Rf) (A10 : Option Addr) (c10 : Nat) (samples : List Sm) (i : Int) (w : World) (h : Tr w codec A4 c4 setup lang name A8 c8 edits A9 c9 refs A10 c10 samples) (_ : (Lit.int .i64 i).wf = true) :
  Calls Try.prog 4 #[.agg #[.int .i64 id, .int .i64 kind, .string codec, .int .i64 scale, .slice A4 setup.length c4, .string lang, .string name, .int .i64 pr, .slice A8 edits.length c8, .slice A9 refs.length c9, .slice A10 samples.length c10], .int .i64 i] w (fun e w' => e = .returned (.bool true) ∧ Below w.heap.size w w') := by
 obtain ⟨k, hk⟩ := (pure_Hn id kind codec scale setup lang name pr edits refs samples i h.ok).rounds
 exact dioramalaw03_ModelNeeds.calls k id kind codec scale A4 c4 setup lang name pr A8 c8 edits A9 c9 refs A10 c10 samples i true w h.h.s h.c4 h.h.e h.c8 h.h.r h.c9 h.h.p h.c10 hk
end Go.Proofs.Ytknklchmpohjfaa.Hn

/-
  touching and join: neighbours put together. The draws of a run are never told back: whatever step of the machine counts on. A comparison whose contract tells only what lies below serves the shelf's sort. A block that holds spans: opened, written, sorted. The shelf's sort at this program: the table of numbers, and that its bodies are the shelf's (plain words, printed by the shelf's tool). Spans sorted: the comparison, and slices.SortFunc at it. join at touching: neighbours of a sorted list put together. exact.clean: filter, lowest terms, sort, join. exact.Add as a sum of rational numbers; the law's awake. exact.Shift: spans moved. exact.Has: whether a time is in spans. Plain laws of clean lists and of moved ones. The reference's spans: which are spans, which times are in them, their ends, and what is joined. The reference's ends and what it joins. What chosen computes, as a plain value: the stretches between sorted ends that are told to be in, put together. exact's add by numbers of any size, Add, Sub, Mul, Div, Lowest as values of whole numbers. exact.Total: how long spans are together. exact.Clean. The reference's functions of spans: what they tell.
-/
import Derived.Test.YtekommcfpjonmaaGreatQRExactTotalsc
import Derived.Outline
import Derived.Calls
import GoSem.Step
import Derived.Below
import Derived.Shelf.SlSortCmp.InsertionK
import Derived.Shelf.SlSortCmp.WholeK
import Derived.Test.YtekommcfpjonmaaGreatProg
namespace Go.Proofs.YtekommcfpjonmaaGreat.Xj
open Go.RowKit Go Go.Proofs.YtekommcfpjonmaaGreatW.PrintWords Go.Proofs.YtekommcfpjonmaaGreatW.PrintLast Go.Proofs.YtekommcfpjonmaaGreatW.PrintMore Go.Proofs.YtekommcfpjonmaaGreat.Mn Go.Proofs.YtekommcfpjonmaaGreat.Nd Go.Proofs.YtekommcfpjonmaaGreat.Z Go.Proofs.YtekommcfpjonmaaGreat.Rf Go.Proofs.YtekommcfpjonmaaGreat.E Go.Proofs.YtekommcfpjonmaaGreat.Sg Go.Proofs.YtekommcfpjonmaaGreat.Sx Go.Proofs.YtekommcfpjonmaaGreat.Sy Go.Proofs.YtekommcfpjonmaaGreat.Xv
set_option linter.unusedVariables false
set_option linter.unusedSimpArgs false
def snO (s : Sn) : Obj := .cells #[.int .i64 s.f0.f0, .int .i64 s.f0.f1, .int .i64 s.f1.f0, .int .i64 s.f1.f1] 53 (0, 0)
theorem sn_at {w : World} {g : Nat} {s : Sn} (h : w.heap[g]? = some (snO s)) : w.cell? ⟨g, 0, none⟩ = some (.int .i64 s.f0.f0) ∧ w.cell? ⟨g, 1, none⟩ = some (.int .i64 s.f0.f1) ∧ w.cell? ⟨g, 2, none⟩ = some (.int .i64 s.f1.f0) ∧ w.cell? ⟨g, 3, none⟩ = some (.int .i64 s.f1.f1) := sn_cells h
theorem sn_free {w : World} {g : Nat} {s : Sn} (h : w.heap[g]? = some (snO s)) : w.frozen? ⟨g, 0, none⟩ = false ∧ w.frozen? ⟨g, 1, none⟩ = false ∧ w.frozen? ⟨g, 2, none⟩ = false ∧ w.frozen? ⟨g, 3, none⟩ = false :=
 ⟨blk_frozen h 0, blk_frozen h 1, blk_frozen h 2, blk_frozen h 3⟩
theorem blk_four {w : World} {g : Nat} {t : TypeId} {a b c d x y z u : Value} (h : w.heap[g]? = some (.cells #[a, b, c, d] t (0, 0))) : ((((w.setCell ⟨g, 0, none⟩ x).setCell ⟨g, 1, none⟩ y).setCell ⟨g, 2, none⟩ z).setCell ⟨g, 3, none⟩ u).heap[g]? = some (.cells #[x, y, z, u] t (0, 0)) :=
 blk_put (cs := #[x, y, z, d]) (blk_put (cs := #[x, y, c, d]) (blk_put (cs := #[x, b, c, d]) (blk_put (cs := #[a, b, c, d]) h 0 x rfl) 1 y rfl) 2 z rfl) 3 u rfl
structure Tb (w W : World) (a b z : Sn) : Prop where
 a : W.heap[w.heap.size]? = some (snO a)
 b : W.heap[w.heap.size + 1]? = some (snO b)
 z : W.heap[w.heap.size + 1 + 1]? = some (snO z)
 below : Below w.heap.size w W
theorem Tb.start (w : World) (a b z : Sn) : Tb w (((w.alloc (snO a)).alloc (snO b)).alloc (snO z)) a b z := by
 have e1 : (w.alloc (snO a)).heap.size = w.heap.size + 1 := by simp
 have e2 : ((w.alloc (snO a)).alloc (snO b)).heap.size = w.heap.size + 1 + 1 := by simp
 have k2 := blk_new (w.alloc (snO a)) (snO b)
 have k3 := blk_new ((w.alloc (snO a)).alloc (snO b)) (snO z)
 rw [e1] at k2
 rw [e2] at k3
 exact ⟨blk_alloc (blk_alloc (blk_new w _) _) _, blk_alloc k2 _, k3, below_alloc (below_alloc (below_alloc (Below.refl _ w) _) _) _⟩
theorem Tb.step {w W W2 : World} {a b z : Sn} (h : Tb w W a b z) (hb : Below W.heap.size W W2) : Tb w W2 a b z :=
 ⟨blk_below h.a hb, blk_below h.b hb, blk_below h.z hb, h.below.trans (hb.mono h.below.size)⟩
def tcR (r : Sn × Bool) : Value := .tuple #[.agg #[.int .i64 r.1.f0.f0, .int .i64 r.1.f0.f1, .int .i64 r.1.f1.f0, .int .i64 r.1.f1.f1], .bool r.2]
def z4 : Sn := ⟨⟨0, 0⟩, ⟨0, 0⟩⟩
set_option maxHeartbeats 8000000 in
set_option maxRecDepth 100000 in
theorem touching_n (a b : Sn) (w : World) (ha : vS a = true) (hb : vS b = true) :
  Calls Tryz.prog 94 #[.agg #[.int .i64 a.f0.f0, .int .i64 a.f0.f1, .int .i64 a.f1.f0, .int .i64 a.f1.f1], .agg #[.int .i64 b.f0.f0, .int .i64 b.f0.f1, .int .i64 b.f1.f0, .int .i64 b.f1.f1]] w (ValP w (tcR (tch a b))) := by
 have hu := Tryz.underlying53
 have hu2 := Tryz.underlying24
 have HA := Aside0.mk (And.intro (vS_is ha) (vS_is hb))
 have hT := Aside0.mk (Tb.start w a b z4)
 unfold snO z4 at hT
 have HV := Aside0.mk (show tcR (tch a b) = if qT a.f1 < qT b.f0 then tcR (a, false) else (if qT a.f1 < qT b.f1 then tcR (⟨a.f0, b.f1⟩, true) else tcR (a, true)) by
  unfold tch
  split
  ·rfl
  ·split <;> rfl)
 generalize tcR (tch a b) = V at *
 clear ha hb
 go_enter Tryz.func94, Tryz.ntmps94
 go_upto_region 1 with fail
 generalize World.alloc (World.alloc (World.alloc _ _) _) _ = W at *
 have HT : Aside0 (Tb w W a b z4) := ⟨hT.out⟩
 clear hT
 obtain ⟨p0, p1, p2, p3⟩ := sn_at HT.out.a
 obtain ⟨q0, q1, q2, q3⟩ := sn_at HT.out.b
 go_wp2_with fail
 refine (cmpT_n HA.out.2.1 HA.out.1.2.1 W).mono ?_
 rintro e w2 ⟨rfl, hb2⟩
 have HT2 := Aside0.mk (HT.out.step hb2)
 clear hb2 HT p0 p1 p2 p3 q0 q1 q2 q3
 obtain ⟨p0, p1, p2, p3⟩ := sn_at HT2.out.a
 obtain ⟨q0, q1, q2, q3⟩ := sn_at HT2.out.b
 obtain ⟨z0, z1, z2, z3⟩ := sn_at HT2.out.z
 obtain ⟨f0, f1, f2, f3⟩ := sn_free HT2.out.z
 by_cases hc : qT a.f1 < qT b.f0
 ·rw [cq_gt hc]
  have HV2 := Aside0.mk (show V = tcR (a, false) by rw [HV.out, if_pos hc])
  clear HV hc
  go_wp2_with fail
  refine bodyPost_ret (results_ct rfl _ _ (w.heap.size + 1 + 1) 53 #[.int .i64 a.f0.f0, .int .i64 a.f0.f1, .int .i64 a.f1.f0, .int .i64 a.f1.f1] (0, 0) _ rfl (blk_four HT2.out.z) Tryz.underlying53 rfl (by kernel_rfl)) rfl ?_
  exact ⟨by rw [HV2.out]; rfl, (((HT2.out.below.setCell (show w.heap.size ≤ w.heap.size + 1 + 1 by omega) _).setCell (show w.heap.size ≤ w.heap.size + 1 + 1 by omega) _).setCell (show w.heap.size ≤ w.heap.size + 1 + 1 by omega) _).setCell (show w.heap.size ≤ w.heap.size + 1 + 1 by omega) _⟩
 ·obtain ⟨c, hc0, ec⟩ := cq_le hc
  rw [ec]
  have HV2 := Aside0.mk (show V = if qT a.f1 < qT b.f1 then tcR (⟨a.f0, b.f1⟩, true) else tcR (a, true) by rw [HV.out, if_neg hc])
  have hd : decide (c > 0) = false := decide_eq_false (by omega)
  clear HV hc ec z0 z1 z2 z3 f0 f1 f2 f3
  go_wp2_with fail
  refine (cmpT_n HA.out.2.2.1 HA.out.1.2.1 w2).mono ?_
  rintro e w3 ⟨rfl, hb3⟩
  have HT3 := Aside0.mk (HT2.out.step hb3)
  clear hb3 HT2 p0 p1 p2 p3 q0 q1 q2 q3 hd hc0
  obtain ⟨p0, p1, p2, p3⟩ := sn_at HT3.out.a
  obtain ⟨g0, g1, g2, g3⟩ := sn_free HT3.out.a
  obtain ⟨q0, q1, q2, q3⟩ := sn_at HT3.out.b
  obtain ⟨z0, z1, z2, z3⟩ := sn_at HT3.out.z
  obtain ⟨f0, f1, f2, f3⟩ := sn_free HT3.out.z
  by_cases hc : qT a.f1 < qT b.f1
  ·rw [cq_gt hc]
   have HV3 := Aside0.mk (show V = tcR (⟨a.f0, b.f1⟩, true) by rw [HV2.out, if_pos hc])
   clear HV2 hc
   go_upto_region 5 with fail
   generalize hW4 : World.setCell (World.setCell w3 _ _) _ _ = W4
   have HT4 := Aside0.mk (show Tb w W4 ⟨a.f0, b.f1⟩ b z4 by
    rw [← hW4]
    refine ⟨blk_put (cs := #[.int .i64 a.f0.f0, .int .i64 a.f0.f1, .int .i64 b.f1.f0, .int .i64 a.f1.f1]) (blk_put (cs := #[.int .i64 a.f0.f0, .int .i64 a.f0.f1, .int .i64 a.f1.f0, .int .i64 a.f1.f1]) HT3.out.a 2 _ rfl) 3 _ rfl, ?_, ?_, (HT3.out.below.setCell (Nat.le_refl _) _).setCell (Nat.le_refl _) _⟩
    ·rw [Below.heap_setCell _ _ _ _ (by simp), Below.heap_setCell _ _ _ _ (by simp)]
     exact HT3.out.b
    ·rw [Below.heap_setCell _ _ _ _ (by simp; omega), Below.heap_setCell _ _ _ _ (by simp; omega)]
     exact HT3.out.z)
   clear hW4 HT3 p0 p1 p2 p3 q0 q1 q2 q3 g0 g1 g2 g3 z0 z1 z2 z3 f0 f1 f2 f3
   obtain ⟨p0, p1, p2, p3⟩ := sn_at HT4.out.a
   obtain ⟨z0, z1, z2, z3⟩ := sn_at HT4.out.z
   obtain ⟨f0, f1, f2, f3⟩ := sn_free HT4.out.z
   go_wp2_with fail
   refine bodyPost_ret (results_ct rfl _ _ (w.heap.size + 1 + 1) 53 #[.int .i64 a.f0.f0, .int .i64 a.f0.f1, .int .i64 b.f1.f0, .int .i64 b.f1.f1] (0, 0) _ rfl (blk_four HT4.out.z) Tryz.underlying53 rfl (by kernel_rfl)) rfl ?_
   exact ⟨by rw [HV3.out]; rfl, (((HT4.out.below.setCell (show w.heap.size ≤ w.heap.size + 1 + 1 by omega) _).setCell (show w.heap.size ≤ w.heap.size + 1 + 1 by omega) _).setCell (show w.heap.size ≤ w.heap.size + 1 + 1 by omega) _).setCell (show w.heap.size ≤ w.heap.size + 1 + 1 by omega) _⟩
  ·obtain ⟨c, hc0, ec⟩ := cq_le hc
   rw [ec]
   have HV3 := Aside0.mk (show V = tcR (a, true) by rw [HV2.out, if_neg hc])
   have hd : decide (c > 0) = false := decide_eq_false (by omega)
   clear HV2 hc ec
   go_wp2_with fail
   refine bodyPost_ret (results_ct rfl _ _ (w.heap.size + 1 + 1) 53 #[.int .i64 a.f0.f0, .int .i64 a.f0.f1, .int .i64 a.f1.f0, .int .i64 a.f1.f1] (0, 0) _ rfl (blk_four HT3.out.z) Tryz.underlying53 rfl (by kernel_rfl)) rfl ?_
   exact ⟨by rw [HV3.out]; rfl, (((HT3.out.below.setCell (show w.heap.size ≤ w.heap.size + 1 + 1 by omega) _).setCell (show w.heap.size ≤ w.heap.size + 1 + 1 by omega) _).setCell (show w.heap.size ≤ w.heap.size + 1 + 1 by omega) _).setCell (show w.heap.size ≤ w.heap.size + 1 + 1 by omega) _⟩
end Go.Proofs.YtekommcfpjonmaaGreat.Xj
namespace Go.Proofs.YtekommcfpjonmaaGreat.Dm
open Go
set_option linter.unusedVariables false
set_option linter.unusedSimpArgs false
def Rup {α : Type} (d : Nat) : Result α → Prop
 | .ok _ w => d ≤ w.drawn
 | .halt _ w => d ≤ w.drawn
theorem Rup.le {α : Type} {d d' : Nat} {r : Result α} (h : Rup d r) (hd : d' ≤ d) : Rup d' r := by
 cases r <;> exact Nat.le_trans hd h
theorem view_drawn {P : Program} {w : World} {a : Addr} {u : TypeId} {k : Addr} {v : Value} {b : Bool} {w' : World} {l : List Addr} (h : w.viewStore P a u k v b = .ok (w', l)) : w'.drawn = w.drawn := by
 unfold World.viewStore at h
 simp only [bind, Except.bind, pure, Except.pure, throw, throwThe, MonadExceptOf.throw] at h
 repeat' split at h
 all_goals first | cases h; done | skip
 all_goals first | (cases h; rfl) | skip
theorem far_drawn {P : Program} {w : World} {a : Addr} {v : Value} {b : Bool} {w' : World} {l : List Addr} (h : w.farStore P a v b = .ok (w', l)) : w'.drawn = w.drawn := by
 unfold World.farStore at h
 split at h
 ·split at h
  ·rename_i r hr
   cases h
   exact view_drawn hr
  ·cases h
 ·cases h
theorem ask_up {α : Type} : ∀ (q : Ask α) (w : World), w.drawn ≤ (w.ask q).2.drawn
 | .done a, w => Nat.le_refl _
 | .ask what range k, w => by
  unfold World.ask
  simp only
  split
  ·exact ask_up _ w
  ·exact Nat.le_trans (Nat.le_succ _) (ask_up _ { w with drawn := w.drawn + 1 })
theorem sys_up (w : World) (c : Sys) : w.drawn ≤ (w.sys c).2.drawn := by
 unfold World.sys
 have h := ask_up (Kernel.perform c w.os) w
 split
 ·exact Nat.le_refl _
 ·rename_i r os w1 he
  rw [he] at h
  exact h
theorem run_up (P : Program) {α : Type} (s : Sem α) : ∀ w : World, Rup w.drawn (s.run P w) := by
 induction s with
 | pure a => intro w; exact Nat.le_refl _
 | load m a k ih =>
  intro w
  unfold Sem.run
  split
  ·exact ih _ w
  ·split
   ·exact ih _ w
   ·exact Nat.le_refl _
 | store m a v k ih =>
  intro w
  have key : ∀ u : Value, Rup w.drawn (match w.cell? a with
   | some _ => if w.frozen? a then Result.halt (.unsupported (.unsafePointer "a write to bytes that a string shares")) w else k.run P (w.setCell a u)
   | none => match w.farStore P a u (m == .atomic) with
    | .ok (w, _) => k.run P w
    | .error h => .halt h w) := by
   intro u
   split
   ·split
    ·exact Nat.le_refl _
    ·exact ih (w.setCell a u)
   ·split
    ·rename_i w1 l h
     exact (ih w1).le (Nat.le_of_eq (far_drawn h).symm)
    ·exact Nat.le_refl _
  cases v <;> simp only [Sem.run] <;> first | exact Nat.le_refl _ | exact key _
 | new o k ih => intro w; unfold Sem.run; exact ih _ _
 | shape r k ih => intro w; unfold Sem.run; exact ih _ _
 | freeze a n k ih =>
  intro w
  unfold Sem.run
  refine (ih (w.freeze a n)).le ?_
  unfold World.freeze
  split <;> exact Nat.le_refl _
 | frozen a k ih => intro w; unfold Sem.run; exact ih _ _
 | getObj r k ih =>
  intro w
  unfold Sem.run
  split
  ·exact Nat.le_refl _
  ·exact ih _ _
  ·exact Nat.le_refl _
 | setObj r o k ih =>
  intro w
  unfold Sem.run
  split
  ·exact Nat.le_refl _
  ·exact ih _
  ·exact Nat.le_refl _
 | choose q k ih =>
  intro w
  unfold Sem.run
  split
  ·exact ih _ _
  ·exact (ih _ { w with drawn := w.drawn + 1 }).le (Nat.le_succ _)
 | sys c k ih => intro w; unfold Sem.run; exact (ih _ _).le (sys_up w c)
 | program k ih => intro w; unfold Sem.run; exact ih _ _
 | mark m k ih => intro w; unfold Sem.run; exact ih _
 | halt h => intro w; exact Nat.le_refl _
theorem run_ok {P : Program} {α : Type} {s : Sem α} {w w1 : World} {a : α} (h : s.run P w = .ok a w1) : w.drawn ≤ w1.drawn := by
 have := run_up P s w
 rw [h] at this
 exact this
theorem run_halt {P : Program} {α : Type} {s : Sem α} {w w1 : World} {a : Halt} (h : s.run P w = .halt a w1) : w.drawn ≤ w1.drawn := by
 have := run_up P s w
 rw [h] at this
 exact this
theorem runT_up (P : Program) {α : Type} (s : Sem α) : ∀ (w : World) (es : Array Event), Rup w.drawn (s.runT P w es).1 := by
 induction s with
 | pure a => intro w es; exact Nat.le_refl _
 | load m a k ih =>
  intro w es
  unfold Sem.runT
  split
  ·exact ih _ w _
  ·split
   ·exact ih _ w _
   ·exact Nat.le_refl _
 | store m a v k ih =>
  intro w es
  have key : ∀ u : Value, Rup w.drawn (match w.cell? a with
   | some _ => if w.frozen? a then ((Result.halt (.unsupported (.unsafePointer "a write to bytes that a string shares")) w, es) : Result α × Array Event) else k.runT P (w.setCell a u) (es.push ⟨.cell a, true, m == Mode.atomic⟩)
   | none => match w.farStore P a u (m == Mode.atomic) with
    | .ok (w, touched) => k.runT P w (es ++ touched.toArray.map (fun x => (⟨.cell x, true, m == Mode.atomic⟩ : Event)))
    | .error h => (.halt h w, es)).1 := by
   intro u
   split
   ·split
    ·exact Nat.le_refl _
    ·exact ih (w.setCell a u) _
   ·split
    ·rename_i w1 l h
     exact (ih w1 _).le (Nat.le_of_eq (far_drawn h).symm)
    ·exact Nat.le_refl _
  cases v <;> simp only [Sem.runT] <;> first | exact Nat.le_refl _ | exact key _
 | new o k ih => intro w es; unfold Sem.runT; exact ih _ _ _
 | shape r k ih => intro w es; unfold Sem.runT; exact ih _ _ _
 | freeze a n k ih =>
  intro w es
  unfold Sem.runT
  refine (ih (w.freeze a n) es).le ?_
  unfold World.freeze
  split <;> exact Nat.le_refl _
 | frozen a k ih => intro w es; unfold Sem.runT; exact ih _ _ _
 | getObj r k ih =>
  intro w es
  unfold Sem.runT
  split
  ·exact Nat.le_refl _
  ·exact ih _ _ _
  ·exact Nat.le_refl _
 | setObj r o k ih =>
  intro w es
  unfold Sem.runT
  split
  ·exact Nat.le_refl _
  ·exact ih _ _
  ·exact Nat.le_refl _
 | choose q k ih =>
  intro w es
  unfold Sem.runT
  split
  ·exact ih _ _ _
  ·exact (ih _ { w with drawn := w.drawn + 1 } es).le (Nat.le_succ _)
 | sys c k ih => intro w es; unfold Sem.runT; exact (ih _ _ _).le (sys_up w c)
 | program k ih => intro w es; unfold Sem.runT; exact ih _ _ _
 | mark m k ih => intro w es; unfold Sem.runT; exact ih _ _
 | halt h => intro w es; exact Nat.le_refl _
def Gup (d : Nat) : GStep → Prop
 | .go _ w _ => d ≤ w.drawn
 | .comm _ _ _ _ w _ => d ≤ w.drawn
 | .spawn _ _ w _ => d ≤ w.drawn
 | .count _ w _ => d ≤ w.drawn
 | .timer _ _ w _ => d ≤ w.drawn
 | .alone _ _ w _ => d ≤ w.drawn
 | .newcoro _ _ _ w _ => d ≤ w.drawn
 | .coroswitch _ _ _ w _ => d ≤ w.drawn
 | .collect _ w _ => d ≤ w.drawn
 | .watch _ w _ => d ≤ w.drawn
 | .ended _ _ _ => True
theorem Gup.le {d d' : Nat} {g : GStep} (h : Gup d g) (hd : d' ≤ d) : Gup d' g := by
 cases g <;> first | exact Nat.le_trans hd h | trivial
theorem Gup.after {d : Nat} {g : GStep} (es : Array Event) (h : Gup d g) : Gup d (g.after es) := by
 cases g <;> exact h
theorem endWith_up (w : World) (fd : Nat) (t : ByteArray) (o : Outcome) (d : Nat) : Gup d (endWith w fd t o) := by
 unfold endWith
 simp only
 split
 ·split <;> trivial
 ·trivial
 ·trivial
theorem dieOf_up (fr : Frame) (l : List ByteArray) (m : String) (b : Bool) (w : World) : Gup w.drawn (dieOf fr l m b w) := Nat.le_refl _
theorem endThrow_up (fr : Frame) (m : String) (w : World) : Gup w.drawn (endThrow fr m w) := Nat.le_refl _
theorem endPrinting_up (P : Program) (fr : Frame) (v : Value) (w : World) : Gup w.drawn (endPrinting P fr v w) := by
 unfold endPrinting
 simp only
 split
 ·exact endThrow_up _ _ _
 ·trivial
theorem endFatal_up (P : Program) (fr : Frame) (cs : List Frame) (dy : Option Dying) (m : String) (w : World) : Gup w.drawn (endFatal P fr cs dy m w) := by
 unfold endFatal
 simp only
 split
 ·rename_i a b w1 h
  exact (dieOf_up fr _ m true w1).le (run_ok h)
 ·trivial
 ·trivial
theorem doReturn_up (P : Program) (main : Bool) (fr : Frame) (cs : List Frame) (dy : Option Dying) (v : Value) (w : World) : Gup w.drawn (doReturn P main fr cs dy v w) := by
 unfold doReturn
 simp only
 repeat' split
 all_goals first | exact Nat.le_refl _ | trivial
theorem ite_up {d : Nat} {c : Prop} [Decidable c] {a b : GStep} (ha : Gup d a) (hb : Gup d b) : Gup d (if c then a else b) := by
 split
 ·exact ha
 ·exact hb
theorem fst_ok {P : Program} {α : Type} {s : Sem α} {w w1 : World} {es : Array Event} {a : α} (h : (s.runT P w es).1 = .ok a w1) : w.drawn ≤ w1.drawn := by
 have := runT_up P s w es
 rw [h] at this
 exact this
theorem fst_halt {P : Program} {α : Type} {s : Sem α} {w w1 : World} {es : Array Event} {a : Halt} (h : (s.runT P w es).1 = .halt a w1) : w.drawn ≤ w1.drawn := by
 have := runT_up P s w es
 rw [h] at this
 exact this
theorem callDeferred_up (P : Program) (fr : Frame) (cs : List Frame) (dy : Option Dying) (dd : Deferred) (w : World) : Gup w.drawn (callDeferred P fr cs dy dd w) := by
 unfold callDeferred
 simp only
 refine ite_up trivial (Gup.after _ ?_)
 have h := runT_up P (invoke dd.target dd.args) w #[]
 generalize ((invoke dd.target dd.args).runT P w #[]).1 = r at h ⊢
 repeat' split
 all_goals first | exact h | trivial | exact (endThrow_up _ _ _).le h | exact (endFatal_up _ _ _ _ _ _).le h
theorem runT_ok {P : Program} {α : Type} {s : Sem α} {w w1 : World} {es es1 : Array Event} {a : α} (h : s.runT P w es = (.ok a w1, es1)) : w.drawn ≤ w1.drawn := by
 have := runT_up P s w es
 rw [h] at this
 exact this
theorem runT_halt {P : Program} {α : Type} {s : Sem α} {w w1 : World} {es es1 : Array Event} {a : Halt} (h : s.runT P w es = (.halt a w1, es1)) : w.drawn ≤ w1.drawn := by
 have := runT_up P s w es
 rw [h] at this
 exact this
theorem unwind_up (P : Program) (main : Bool) (fr : Frame) (cs : List Frame) (dy : Option Dying) (w : World) : Gup w.drawn (unwind P main fr cs dy w) := by
 unfold unwind
 split
 ·simp only
  refine Gup.after _ ?_
  split
  ·rename_i he
   exact fst_ok he
  ·trivial
 ·exact callDeferred_up _ _ _ _ _ _
 ·split
  ·trivial
  ·split
   ·trivial
   ·split
    ·exact Nat.le_refl _
    ·split
     ·split
      ·exact Nat.le_refl _
      ·rename_i chain _ _ _ _ _
       have h := run_up P (reportChain chain false) w
       split
       ·rename_i he
        exact run_ok he
       ·trivial
       ·trivial
     ·split
      ·exact endPrinting_up _ _ _ _
      ·trivial
  ·split
   ·exact doReturn_up _ _ _ _ _ _ _
   ·rename_i fn _
    simp only
    refine Gup.after _ ?_
    split
    ·rename_i he
     exact (doReturn_up _ _ _ _ _ _ _).le (fst_ok he)
    ·trivial
    ·trivial
theorem early_up (P : Program) (fr : Frame) (cs : List Frame) (dy : Option Dying) (g : Nat) (w : World) : Gup w.drawn (early P fr cs dy g w) := by
 have ny : ∀ W : World, Gup W.drawn (match W.heap[g]? with
   | some (.pending c elem) => GStep.go { frame := fr, callers := cs, status := .running, dying := dy } { W with heap := W.heap.setIfInBounds g (.cells c elem) }
   | _ => .ended (.stuck "early: the variable does not wait" (fr.pos P)) W) := by
  intro W
  split
  ·exact Nat.le_refl _
  ·trivial
 unfold early
 simp only
 split
 ·exact ny w
 ·split
  ·trivial
  ·rename_i f _
   split
   ·exact ny w
   ·split
    ·exact ny w
    ·split
     ·trivial
     ·exact Nat.le_refl _
     ·trivial
     ·exact ny w
     ·split
      ·exact Nat.le_refl _
      ·split
       ·exact ny w
       ·have h := run_up P (choose (.early g)) w
        split
        ·rename_i he
         exact (ny _).le (run_ok he)
        ·rename_i he
         exact run_ok he
        ·trivial
theorem writeOn_up (P : Program) (fr : Frame) (d : Dying) (f : Fatal) (w : World) : Gup w.drawn (writeOn P fr d f w) := by
 unfold writeOn
 simp only
 split
 ·trivial
 ·split
  ·rename_i he
   exact runT_ok he
  ·rename_i he
   exact runT_halt he
  ·trivial
  ·trivial
theorem die_up (P : Program) (fr : Frame) (d : Dying) (w : World) : Gup w.drawn (die P fr d w) := by
 unfold die
 split
 ·exact writeOn_up _ _ _ _ _
 ·split
  ·split
   ·exact Nat.le_refl _
   ·exact endWith_up _ _ _ _ _
  ·simp only
   split
   ·exact Nat.le_refl _
   ·rename_i s _
    have h := run_up P (withAddress s) w
    split
    ·rename_i he
     exact run_ok he
    ·trivial
   ·rename_i t recv name _
    have h := runT_up P (invoke (.fn (.method name) #[]) #[.iface t recv]) w #[]
    generalize (invoke (.fn (.method name) #[]) #[.iface t recv]).runT P w #[] = r at h ⊢
    obtain ⟨r, es⟩ := r
    refine Gup.after _ ?_
    simp only at h ⊢
    repeat' split
    all_goals first | exact h | trivial | exact (endPrinting_up _ _ _ _).le h
   ·trivial
theorem apply_up (P : Program) (listen : Bool) (fr : Frame) (cs : List Frame) (dy : Option Dying) (s : Sem Next) (w : World) : Gup w.drawn (stepG.apply P listen fr cs dy s w) := by
 unfold stepG.apply
 have h : Rup w.drawn (if listen then s.runT P w #[] else (s.run P w, #[])).1 := by
  split
  ·exact runT_up P s w #[]
  ·exact run_up P s w
 simp only
 generalize (if listen then s.runT P w #[] else (s.run P w, #[])) = r at h ⊢
 obtain ⟨r, es⟩ := r
 refine Gup.after _ ?_
 simp only at h ⊢
 repeat' split
 all_goals first | exact h | trivial | exact (endThrow_up _ _ _).le h | exact (endFatal_up _ _ _ _ _ _).le h | exact (early_up _ _ _ _ _ _).le h
theorem oper_up (P : Program) (listen : Bool) (fr : Frame) (cs : List Frame) (dy : Option Dying) (w : World) : Gup w.drawn (stepG.oper P listen fr cs dy w) := by
 unfold stepG.oper
 split
 ·trivial
 ·split
  ·exact apply_up _ _ _ _ _ _ _
  ·exact apply_up _ _ _ _ _ _ _
theorem leave_up (P : Program) (main : Bool) (fr : Frame) (cs : List Frame) (dy : Option Dying) (w : World) (jump : Option Code) {c : Prop} {hc : Decidable c} : Gup w.drawn (match fr.roundOf with
   | none => @ite _ c hc (GStep.go { frame := { fr with mode := .returning }, callers := cs, status := .running, dying := dy } w) (.ended (.stuck "exit, goto: no such block or label" (fr.pos P)) w)
   | some l => GStep.after (seen P fr.fn ((Instr.endRound l jump).runT P w #[]).2) (match ((Instr.endRound l jump).runT P w #[]).1 with
     | .ok v w => doReturn P main fr cs dy v w
     | .halt _ w => .ended (.stuck "range over a function: no such loop" (fr.pos P)) w)) := by
 split
 ·refine ite_up ?_ ?_
  ·exact Nat.le_refl _
  ·trivial
 ·refine Gup.after _ ?_
  split
  ·rename_i he
   exact (doReturn_up _ _ _ _ _ _ _).le (fst_ok he)
  ·trivial
theorem elim_up {α : Type} {d : Nat} {x : Option α} {a : GStep} {f : α → GStep} (ha : Gup d a) (hf : ∀ k, Gup d (f k)) : Gup d (x.elim a f) := by
 cases x with
 | none => exact ha
 | some k => exact hf k
theorem exec_up (P : Program) (main listen : Bool) (fr : Frame) (cs : List Frame) (dy : Option Dying) (w : World) : Gup w.drawn (stepG.exec P main listen fr cs dy w) := by
 unfold stepG.exec
 simp only
 split
 all_goals first | exact leave_up P main fr cs dy w _ | exact Nat.le_refl _ | exact apply_up _ _ _ _ _ _ _ | trivial | skip
 ·split
  ·exact Nat.le_refl _
  ·trivial
 ·refine elim_up (leave_up P main fr cs dy w _) (fun k => Nat.le_refl _)
 ·refine elim_up (leave_up P main fr cs dy w _) (fun k => Nat.le_refl _)
 ·refine Gup.after _ ?_
  split
  ·rename_i he
   exact (apply_up _ _ _ _ _ _ _).le (fst_ok he)
  ·trivial
 ·refine Gup.after _ ?_
  split
  ·rename_i he
   exact fst_ok he
  ·rename_i he
   exact fst_halt he
  ·trivial
 ·refine elim_up trivial (fun k => apply_up _ _ _ _ _ _ _)
 ·refine ite_up (Nat.le_refl _) ?_
  split
  ·rename_i he
   exact run_ok he
  ·trivial
 ·refine ite_up (oper_up _ _ _ _ _ _) (Nat.le_refl _)
theorem stepG_up (P : Program) (main : Bool) (g : Goroutine) (w : World) (listen : Bool) : Gup w.drawn (stepG P main g w listen) := by
 unfold stepG
 simp only
 split
 ·exact die_up _ _ _ _
 ·exact exec_up _ _ _ _ _ _ _
 ·exact unwind_up _ _ _ _ _ _
def Sup (d : Nat) : Stepped → Prop
 | .next m => d ≤ m.world.drawn
 | _ => True
theorem Sup.le {d d' : Nat} {s : Stepped} (h : Sup d s) (hd : d' ≤ d) : Sup d' s := by
 cases s <;> first | exact Nat.le_trans hd h | trivial
theorem waiting_up {rest : Rest} {cases : Array CommCase} {w w1 : World} (h : waitingAt rest cases w = some w1) : w.drawn ≤ w1.drawn := by
 unfold waitingAt at h
 repeat' split at h
 all_goals first | (cases h; exact Nat.le_refl _) | cases h
theorem communicate_up (P : Program) (rest : Rest) (gs : Array Goroutine) (i : Nat) (g : Goroutine) (cases : Array CommCase) (b : Bool) (sh : CommShape) (w : World) : Sup w.drawn (communicate P rest gs i g cases b sh w).1 := by
 unfold communicate
 simp only
 split
 ·trivial
 ·split
  ·split
   ·split
    ·rename_i he
     exact waiting_up he
    ·trivial
   ·exact Nat.le_refl _
  ·split
   ·trivial
   ·rename_i he
    have h1 := run_ok he
    clear he
    split
    ·split
     ·rename_i he
      exact Nat.le_trans h1 (run_halt he)
     ·trivial
    ·exact h1
    ·exact h1
    ·split
     ·exact h1
     ·split
      ·rename_i he
       have h2 := run_ok he
       exact Nat.le_trans h1 h2
      ·trivial
    ·exact h1
    ·exact h1
    ·trivial
theorem look_up (P : Program) (gs : Array Goroutine) (rest : Rest) (w : World) : Sup w.drawn (look P gs rest w) := by
 unfold look
 simp only
 split
 ·split
  ·trivial
  ·split
   ·trivial
   ·split
    ·rename_i he
     have h2 := run_ok he
     exact h2
    ·trivial
    ·trivial
 ·trivial
theorem serve_up (P : Program) (m : Machine) (k : Nat) : Sup m.world.drawn (serve P m k) := by
 unfold serve
 simp only
 repeat' split
 all_goals first | trivial | exact Nat.le_refl _
theorem drain_up (w : World) (c : Nat) : w.drawn ≤ (drain w c).2.drawn := by
 unfold drain
 split <;> exact Nat.le_refl _
theorem retime_up (m : Machine) (k : Nat) (t : Timer) (a b : Nat) : m.world.drawn ≤ (retime m k t a b).2.world.drawn := by
 unfold retime
 simp only
 split
 ·exact drain_up _ _
 ·exact Nat.le_refl _
theorem opened_up {m m1 : Machine} {var : Addr} (h : timerOp.opened m var = some m1) : m.world.drawn ≤ m1.world.drawn := by
 unfold timerOp.opened at h
 repeat' split at h
 all_goals first | (cases h; exact Nat.le_refl _) | cases h
theorem timerOp_up {m : Machine} {op : TimerOp} {v : Value} {m1 : Machine} (h : timerOp m op = .ok (v, m1)) : m.world.drawn ≤ m1.world.drawn := by
 cases op with
 | new t =>
  unfold timerOp at h
  simp only at h
  repeat' split at h
  all_goals first | (cases h; exact Nat.le_refl _) | cases h
 | stop var =>
  unfold timerOp timerOp.named at h
  simp only at h
  split at h
  ·cases h
   exact retime_up _ _ _ _ _
  ·cases h
 | reset var a b =>
  unfold timerOp timerOp.named at h
  simp only at h
  split at h
  ·rename_i m2 he
   split at h
   ·cases h
    exact Nat.le_trans (opened_up he) (retime_up _ _ _ _ _)
   ·cases h
  ·cases h
 | deadline c r w n =>
  unfold timerOp at h
  simp only at h
  cases h
  exact Nat.le_refl _
theorem runG_up (P : Program) (m : Machine) (i : Nat) (listen : Bool) : Sup m.world.drawn (Go.runT P m i listen).1 := by
 unfold Go.runT
 simp only
 have h := stepG_up P (i == 0) (m.gs.swapAt! i { (default : Goroutine) with status := .finished }).1 m.world listen
 generalize stepG P (i == 0) (m.gs.swapAt! i { (default : Goroutine) with status := .finished }).1 m.world listen = s at h ⊢
 generalize (m.gs.swapAt! i { (default : Goroutine) with status := .finished }).2 = gs
 cases s with
 | ended o w es => trivial
 | comm g cs b sh w es => exact (communicate_up _ _ _ _ _ _ _ _ _).le h
 | go g w es => exact h
 | spawn g c w es => exact h
 | count g w es =>
  simp only
  split
  ·trivial
  ·exact h
 | alone g on w es => exact h
 | collect g w es => exact (look_up _ _ _ _).le h
 | watch g w es => exact h
 | newcoro g c d w es => exact h
 | coroswitch g c e w es =>
  simp only
  split
  ·exact h
  ·exact h
  ·trivial
 | timer g op w es =>
  simp only
  split
  ·rename_i he
   exact Nat.le_trans h (timerOp_up he)
  ·exact h
  ·trivial
  ·trivial
def Mup (d : Nat) : Move → Prop
 | .goroutine m _ => d ≤ m.world.drawn
 | .machine s _ => Sup d s
theorem Mup.le {d d' : Nat} {s : Move} (h : Mup d s) (hd : d' ≤ d) : Mup d' s := by
 cases s with
 | goroutine m i => exact Nat.le_trans hd h
 | machine s ops => exact Sup.le h hd
theorem pick_up (P : Program) (m : Machine) (rs : List Nat) : Mup m.world.drawn (match (choose (.sched rs.length)).run P m.world with
   | .halt _ w => Move.machine (.ended (.stuck "sched" "") w)
   | .ok k world =>
    if rs.length ≤ 1 then .goroutine { m with world } (rs.getD k 0) else
    match (choose (.extern "sched.slice" 65536)).run P world with
    | .halt _ w => .machine (.ended (.stuck "sched.slice" "") w)
    | .ok n world => .goroutine { m with world, rest := { m.rest with slice := if n = 0 then none else some (rs.getD k 0, n) } } (rs.getD k 0)) := by
 split
 ·trivial
 ·rename_i he
  have h1 := run_ok he
  split
  ·exact h1
  ·split
   ·trivial
   ·rename_i he2
    have h2 := run_ok he2
    exact Nat.le_trans h1 h2
theorem askOn_up (P : Program) (m : Machine) : Mup m.world.drawn (askOn P m) := by
 unfold askOn
 simp only
 split
 ·trivial
 ·rename_i k world he
  have h1 : m.world.drawn ≤ world.drawn := run_ok he
  clear he
  split
  ·exact (serve_up P { m with world } _).le h1
  ·split
   ·split
    ·exact h1
    ·split
     ·exact h1
     ·split
      ·trivial
      ·trivial
   ·split
    ·exact (pick_up P { m with world } _).le h1
    ·split
     ·trivial
     ·rename_i he
      have h2 := run_ok he
      exact (pick_up P { m with world := _ } _).le (Nat.le_trans h1 h2)
     ·rename_i he
      have h2 := run_ok he
      exact Nat.le_trans h1 h2
     ·rename_i he
      have h2 := run_ok he
      exact (pick_up P (Machine.advanceTo { m with world := _ } _) _).le (Nat.le_trans h1 h2)
theorem ask_on_up (P : Program) (m : Machine) : Mup m.world.drawn (ask P m) := by
 unfold ask
 split
 ·split
  ·trivial
  ·rename_i world he
   have h1 := run_ok he
   have h2 := look_up P m.gs m.rest world
   split
   ·rename_i m1 hl
    rw [hl] at h2
    exact (askOn_up P m1).le (Nat.le_trans h1 h2)
   ·exact h2.le h1
  ·rename_i he
   have h1 := run_ok he
   exact (askOn_up P { m with world := _ }).le h1
 ·exact askOn_up P m
theorem move_up (P : Program) (m : Machine) : Mup m.world.drawn (move P m) := by
 unfold move
 split
 ·split
  ·exact Nat.le_refl _
  ·trivial
 ·split
  ·split
   ·exact Nat.le_refl _
   ·exact ask_on_up P { m with rest := { m.rest with slice := none } }
  ·exact ask_on_up P m
theorem step_up {P : Program} {m m1 : Machine} (h : step P m = .next m1) : m.world.drawn ≤ m1.world.drawn := by
 have h1 : Sup m.world.drawn (step P m) := by
  unfold step stepT
  have h2 := move_up P m
  generalize move P m = v at h2 ⊢
  cases v with
  | goroutine m2 i => exact (runG_up P m2 i true).le h2
  | machine s ops => exact h2
 rw [h] at h1
 exact h1
theorem steps_up {P : Program} {m m1 : Machine} (h : Steps P m m1) : m.world.drawn ≤ m1.world.drawn := by
 obtain ⟨n, hn⟩ := h
 revert m
 induction n with
 | zero =>
  intro m hn
  unfold runN at hn
  cases hn
  exact Nat.le_refl _
 | succ n ih =>
  intro m hn
  unfold runN at hn
  split at hn
  ·rename_i m2 he
   exact Nat.le_trans (step_up he) (ih hn)
  ·rename_i h1
   exact absurd hn (by
    intro h2
    exact h1 _ h2)
theorem drawn_up {P : Program} {f : FuncId} {args : Array Value} {w : World} {R : Ending → World → Prop} (h : Calls P f args w R) (hn : ∀ w', ¬ R .outgrown w') : Calls P f args w (fun e w' => R e w' ∧ w.drawn ≤ w'.drawn) := by
 intro cs
 obtain ⟨e, w', fr, hR, hC, hf, hl⟩ := h cs
 refine ⟨e, w', fr, ⟨hR, ?_⟩, hC, hf, hl⟩
 cases e with
 | returned v => exact steps_up hC
 | panicked c => exact steps_up hC
 | outgrown => exact absurd hR (hn w')
end Go.Proofs.YtekommcfpjonmaaGreat.Dm
namespace Go.Proofs.YtekommcfpjonmaaGreat.Sr
open Go.RowKit Go Go.Proofs.YtekommcfpjonmaaGreat.Dm
set_option linter.unusedVariables false
theorem grown_is {w w' : World} (hb : Below w.heap.size w w') (hd : w.drawn ≤ w'.drawn) : ∃ (q : Nat) (os : Array Obj), w' = Go.Sort.grow (w.drewN q) os := by
 refine ⟨w'.drawn - w.drawn, w'.heap.extract w.heap.size w'.heap.size, ?_⟩
 obtain ⟨h, t, d, o, p⟩ := w
 obtain ⟨h', t', d', o', p'⟩ := w'
 have h1 := hb.os
 have h2 := hb.tape
 have h3 := hb.output
 have h4 := hb.size
 have h5 := hb.block
 simp only at h1 h2 h3 h4 h5 hd
 subst h1 h2 h3
 unfold Go.Sort.grow World.drewN
 simp only [World.mk.injEq, true_and, and_true]
 refine ⟨?_, by omega⟩
 apply Array.ext
 ·simp
  omega
 ·intro i h6 h7
  by_cases hi : i < h.size
  ·have := h5 i hi
   rw [Array.getElem?_eq_getElem h6, Array.getElem?_eq_getElem hi] at this
   rw [Array.getElem_append_left hi]
   exact Option.some.inj this
  ·rw [Array.getElem_append_right (by omega)]
   simp only [Array.getElem_extract]
   congr 1
   omega
theorem grown_of {P : Program} {f : FuncId} {args : Array Value} {w : World} {v : Value} (h : Calls P f args w (fun e w' => e = .returned v ∧ Below w.heap.size w w')) :
  Calls P f args w (fun e w' => e = .returned v ∧ ∃ (q : Nat) (os : Array Obj), w' = Go.Sort.grow (w.drewN q) os) := by
 refine (drawn_up h (fun w' hr => by cases hr.1)).mono ?_
 rintro e w' ⟨⟨rfl, hb⟩, hd⟩
 exact ⟨rfl, grown_is hb hd⟩
end Go.Proofs.YtekommcfpjonmaaGreat.Sr
namespace Go.Proofs.YtekommcfpjonmaaGreat.Xk
open Go.RowKit Go Go.Proofs.YtekommcfpjonmaaGreatW.PrintWords Go.Proofs.YtekommcfpjonmaaGreatW.PrintLast Go.Proofs.YtekommcfpjonmaaGreatW.PrintMore Go.Proofs.YtekommcfpjonmaaGreat.Mn Go.Proofs.YtekommcfpjonmaaGreat.Nd Go.Proofs.YtekommcfpjonmaaGreat.Z Go.Proofs.YtekommcfpjonmaaGreat.Rf Go.Proofs.YtekommcfpjonmaaGreat.E Go.Proofs.YtekommcfpjonmaaGreat.Sg Go.Proofs.YtekommcfpjonmaaGreat.Sx Go.Proofs.YtekommcfpjonmaaGreat.Sy Go.Proofs.YtekommcfpjonmaaGreat.Xv Go.Proofs.YtekommcfpjonmaaGreat.Xj
set_option linter.unusedVariables false
set_option linter.unusedSimpArgs false
def encS (x : Sn) : List Value := [.int .i64 x.f0.f0, .int .i64 x.f0.f1, .int .i64 x.f1.f0, .int .i64 x.f1.f1]
def encL : List Sn → List Value
 | [] => []
 | x :: t => encS x ++ encL t
theorem encL_len : ∀ l : List Sn, (encL l).length = l.length * 4
 | [] => rfl
 | x :: t => by
  simp only [encL, List.length_append, encL_len t, List.length_cons]
  show 4 + t.length * 4 = (t.length + 1) * 4
  omega
theorem encL_at : ∀ (l : List Sn) (i j : Nat) (p : Sn), l[i]? = some p → j < 4 → (encL l)[i * 4 + j]? = (encS p)[j]?
 | x :: t, 0, j, p, h, hj => by
  obtain rfl : x = p := by simpa using h
  simp only [encL]
  rw [Nat.zero_mul, Nat.zero_add, List.getElem?_append_left (show j < 4 from hj)]
 | x :: t, i + 1, j, p, h, hj => by
  simp only [encL]
  rw [List.getElem?_append_right (show 4 ≤ (i + 1) * 4 + j by omega)]
  have e : (i + 1) * 4 + j - (encS x).length = i * 4 + j := by show (i + 1) * 4 + j - 4 = i * 4 + j; omega
  rw [e]
  exact encL_at t i j p (by simpa using h) hj
theorem encL_reps {W : World} {base : Nat} {ok : Nat → Prop} : ∀ l : List Sn, Reps (fun (x : Sn) cs => Kd.M k53 W base ok x cs) 4 l (encL l)
 | [] => Reps.none _ _
 | x :: t => Reps.c4 (k53_mkM W base ok x) (encL_reps t)
theorem reps_enc {W : World} {base : Nat} {ok : Nat → Prop} : ∀ (l : List Sn) (cs : List Value), Reps (fun (x : Sn) cs => Kd.M k53 W base ok x cs) 4 l cs → cs = encL l
 | [], cs, h => by
  have := h.1
  exact List.eq_nil_of_length_eq_zero (by simpa using this)
 | x :: t, cs, h => by
  have h0 := k53_openM (h.2 0 x rfl)
  rw [Nat.zero_mul, List.drop_zero] at h0
  have ht : Reps (fun (x : Sn) cs => Kd.M k53 W base ok x cs) 4 t (cs.drop 4) := by
   refine ⟨?_, fun j p hj => ?_⟩
   ·have := h.1
    rw [List.length_drop, this, List.length_cons]
    omega
   ·have := h.2 (j + 1) p (by simpa using hj)
    rwa [show (j + 1) * 4 = 4 + j * 4 by omega, ← List.drop_drop] at this
  have ih := reps_enc t _ ht
  rw [encL, ← ih]
  conv => lhs; rw [← List.take_append_drop 4 cs, h0]
  rfl
def Blk (W : World) (g : Nat) (X : List Sn) (cap : Nat) : Prop := ∃ rest : List Value, W.heap[g]? = some (.cells (encL X ++ rest).toArray 53 (0, 0)) ∧ (encL X ++ rest).length = cap * 4 ∧ X.length ≤ cap ∧ cap ≤ maxLen
theorem R_blk {W : World} {base : Nat} {ok : Nat → Prop} {v : Value} {X : List Sn} (h : Kd.R k53 53 W base ok v X) : (v = .slice none 0 0 ∧ X = []) ∨ ∃ g cap, v = .slice (some ⟨g, 0, none⟩) X.length cap ∧ base ≤ g ∧ Blk W g X cap := by
 obtain ⟨h0, inner, ⟨hl, ho⟩, hr⟩ := h
 have he := reps_enc X inner hr
 subst he
 rcases ho with ⟨rfl, hn⟩ | ⟨g, cap, cur, rfl, hb, hh, hc, hm, hs, ht⟩
 ·exact .inl ⟨rfl, List.eq_nil_of_length_eq_zero hn⟩
 ·refine .inr ⟨g, cap, rfl, hb, cur.toList.drop (X.length * 4), ?_, ?_, hc, hm⟩
  ·have ht' : cur.toList.take (X.length * 4) = encL X := ht
   rw [← ht', List.take_append_drop]
   exact hh
  ·have ht' : cur.toList.take (X.length * 4) = encL X := ht
   rw [← ht', List.take_append_drop]
   exact hs
theorem blk_R {W : World} {base : Nat} {g cap : Nat} {X : List Sn} (h : Blk W g X cap) (hb : base ≤ g) : Kd.R k53 53 W base (fun _ => True) (.slice (some ⟨g, 0, none⟩) X.length cap) X := by
 obtain ⟨rest, h1, h2, h3, h4⟩ := h
 refine ⟨fun _ _ => trivial, encL X, ⟨by rw [encL_len]; rfl, .inr ⟨g, cap, _, rfl, hb, h1, h3, h4, ?_, ?_⟩⟩, encL_reps X⟩
 ·show (encL X ++ rest).toArray.size = cap * 4
  simpa using h2
 ·show (encL X ++ rest).take (X.length * 4) = encL X
  rw [← encL_len, List.take_left]
theorem Blk.cells {W : World} {g cap : Nat} {X : List Sn} (h : Blk W g X cap) {i : Nat} {p : Sn} (hi : X[i]? = some p) : W.cell? ⟨g, i * 4, none⟩ = some (.int .i64 p.f0.f0) ∧ W.cell? ⟨g, i * 4 + 1, none⟩ = some (.int .i64 p.f0.f1) ∧ W.cell? ⟨g, i * 4 + 2, none⟩ = some (.int .i64 p.f1.f0) ∧ W.cell? ⟨g, i * 4 + 3, none⟩ = some (.int .i64 p.f1.f1) ∧ ∀ j, W.frozen? ⟨g, j, none⟩ = false := by
 obtain ⟨rest, h1, h2, h3, h4⟩ := h
 have hl : i < X.length := (List.getElem?_eq_some_iff.1 hi).1
 have key : ∀ j, j < 4 → W.cell? ⟨g, i * 4 + j, none⟩ = (encS p)[j]? := fun j hj => by
  rw [blk_cell h1, List.getElem?_toArray, List.getElem?_append_left (by rw [encL_len]; omega), encL_at X i j p hi hj]
 exact ⟨(key 0 (by decide)).trans rfl, (key 1 (by decide)).trans rfl, (key 2 (by decide)).trans rfl, (key 3 (by decide)).trans rfl, fun j => blk_frozen h1 j⟩
theorem Blk.below {W W2 : World} {g cap : Nat} {X : List Sn} (h : Blk W g X cap) (hb : Below W.heap.size W W2) : Blk W2 g X cap := by
 obtain ⟨rest, h1, h2⟩ := h
 exact ⟨rest, blk_below h1 hb, h2⟩
theorem Blk.lt {W : World} {g cap : Nat} {X : List Sn} (h : Blk W g X cap) : g < W.heap.size := by
 obtain ⟨rest, h1, h2⟩ := h
 exact lt_of_some h1
theorem encL_set : ∀ (l : List Sn) (i : Nat) (y : Sn), i < l.length → encL (l.set i y) = (encL l).take (i * 4) ++ encS y ++ (encL l).drop (i * 4 + 4)
 | x :: t, 0, y, h => by
  simp only [List.set_cons_zero, encL]
  rw [Nat.zero_mul, List.take_zero, List.nil_append, Nat.zero_add, show 4 = (encS x).length from rfl, List.drop_left]
 | x :: t, i + 1, y, h => by
  simp only [List.set_cons_succ, encL]
  rw [encL_set t i y (by simpa using h), show (i + 1) * 4 = (encS x).length + i * 4 by show (i + 1) * 4 = 4 + i * 4; omega, List.take_length_add_append, Nat.add_assoc, List.drop_length_add_append]
  simp
theorem Blk.set {W : World} {g cap : Nat} {X : List Sn} (h : Blk W g X cap) (i : Nat) (y : Sn) (hi : i < X.length) : Blk (W.setCells g (i * 4) (encS y)) g (X.set i y) cap := by
 obtain ⟨rest, h1, h2, h3, h4⟩ := h
 have hl := encL_len X
 have hsz : i * 4 + (encS y).length ≤ (encL X ++ rest).toArray.size := by
  show i * 4 + 4 ≤ _
  simp only [List.size_toArray, List.length_append, hl]
  omega
 obtain ⟨cur', c1, c2, c3⟩ := setCells_row (encS y) (i * 4) W _ h1 hsz
 have e1 : (encL X ++ rest).toArray.toList = encL X ++ rest := rfl
 rw [e1] at c3
 have e2 : cur'.toList = encL (X.set i y) ++ rest := by
  rw [c3, encL_set X i y hi, List.take_append_of_le_length (by omega)]
  show _ = List.take (i * 4) (encL X) ++ encS y ++ List.drop (i * 4 + 4) (encL X) ++ rest
  rw [show (encS y).length = 4 from rfl, List.drop_append_of_le_length (by omega)]
  simp
 refine ⟨rest, ?_, ?_, by rw [List.length_set]; exact h3, h4⟩
 ·rw [c1]
  congr 2
  rw [← e2]
 ·rw [← e2, Array.length_toList, c2]
  simpa using h2
open Go.Sort in
theorem Blk.holds {W : World} {g cap : Nat} {X : List Sn} (h : Blk W g X cap) [Inhabited Sn] : HoldsK encS 4 W g 0 X.toArray := by
 intro t ht
 rw [size_flatK] at ht
 have ht' : t < X.length * 4 := by simpa using ht
 have hi : t / 4 < X.length := by omega
 obtain ⟨q0, q1, q2, q3, hf⟩ := h.cells (i := t / 4) (List.getElem?_eq_getElem hi)
 rw [get_flatK encS 4 X.toArray t ht, Nat.zero_add]
 have hx : (X.toArray[t / 4]! : Sn) = X[t / 4] := by
  rw [getElem!_pos X.toArray (t / 4) (by simpa using hi)]
  rfl
 refine ⟨?_, hf t⟩
 rw [hx]
 have h4 : t % 4 < 4 := Nat.mod_lt _ (by decide)
 have e : t = t / 4 * 4 + t % 4 := (Nat.div_add_mod' t 4).symm
 generalize t % 4 = j at *
 generalize t / 4 = i at *
 subst e
 match j, h4 with
 | 0, _ => exact q0
 | 1, _ => exact q1
 | 2, _ => exact q2
 | 3, _ => exact q3
open Go.Sort in
theorem pc_get (fl a : Array Value) (k : Nat) (h : k < (putCells id 0 fl a).size) (h2 : k < a.size) : (putCells id 0 fl a)[k] = if k < fl.size then fl[k]! else a[k] := by
 simp [putCells]
open Go.Sort in
theorem sorted_blk {W : World} {g cap : Nat} {X : List Sn} (h : Blk W g X cap) [Inhabited Sn] (d : Array Sn) (hs : d.size = X.length) (n : Nat) (os : Array Obj) :
  Blk (sortWorldK encS 4 W g 0 n d os) g d.toList cap ∧ ∀ B, B ≤ g → Go.RowKit.Below B W (sortWorldK encS 4 W g 0 n d os) := by
 obtain ⟨rest, h1, h2, h3, h4⟩ := h
 have hg := lt_of_some h1
 have hh : (sortWorldK encS 4 W g 0 n d os).heap = (W.heap.modify g (onCells (putCells id 0 (flatK encS 4 d)))) ++ os := rfl
 have hlen : d.toList.length = X.length := by simpa using hs
 have hcells : (putCells id 0 (flatK encS 4 d) (encL X ++ rest).toArray) = (encL d.toList ++ rest).toArray := by
  apply Array.ext
  ·simp [putCells, encL_len, hs]
  ·intro k k1 k2
   have k3 : k < X.length * 4 + rest.length := by simpa [putCells, encL_len] using k1
   rw [pc_get (flatK encS 4 d) (encL X ++ rest).toArray k k1 (by simpa [encL_len] using k3)]
   simp only [size_flatK]
   by_cases hk : k < X.length * 4
   ·rw [if_pos (by rw [hs]; exact hk), get_flatK encS 4 d k (by rw [hs]; exact hk)]
    have hi : k / 4 < d.toList.length := by omega
    have hd : (d[k / 4]! : Sn) = d.toList[k / 4] := by
     rw [getElem!_pos d (k / 4) (by rw [hs]; omega)]
     rfl
    have ha := encL_at d.toList (k / 4) (k % 4) _ (List.getElem?_eq_getElem hi) (Nat.mod_lt _ (by decide))
    rw [Nat.div_add_mod' k 4] at ha
    rw [hd]
    have hb : (encL d.toList ++ rest).toArray[k]? = (encS d.toList[k / 4])[k % 4]? := by
     rw [List.getElem?_toArray, List.getElem?_append_left (by rw [encL_len]; omega), ha]
    have hc : k % 4 < (encS d.toList[k / 4]).length := Nat.mod_lt _ (by decide)
    rw [getElem!_pos (encS d.toList[k / 4]) (k % 4) hc]
    rw [Array.getElem?_eq_getElem k2, List.getElem?_eq_getElem hc] at hb
    exact (Option.some.inj hb).symm
   ·rw [if_neg (by rw [hs]; exact hk)]
    simp only [List.getElem_toArray]
    rw [List.getElem_append_right (by rw [encL_len]; omega), List.getElem_append_right (by rw [encL_len]; omega)]
    congr 1
    rw [encL_len, encL_len, hlen]
 refine ⟨⟨rest, ?_, ?_, by omega, h4⟩, fun B hB => ⟨rfl, rfl, rfl, ?_, fun k hk => ?_⟩⟩
 ·rw [hh, Array.getElem?_append_left (by simpa using hg), Array.getElem?_modify, if_pos rfl, h1]
  simp only [Option.map_some, onCells]
  rw [hcells]
 ·rw [List.length_append, encL_len, hlen, ← encL_len, ← List.length_append]
  exact h2
 ·rw [hh]
  simp
 ·rw [hh, Array.getElem?_append_left (by simp; omega), Array.getElem?_modify, if_neg (by omega)]
end Go.Proofs.YtekommcfpjonmaaGreat.Xk
namespace Go.Proofs.YtekommcfpjonmaaGreat.Xl
open Go.Proofs Go.Shelf
def lays_ren : Go.Shelf.Ren := ⟨fun | 6 => 91 | 15 => 140 | 14 => 139 | 28 => 168 | 29 => 169 | 20 => 160 | 21 => 161 | 22 => 162 | 23 => 163 | 24 => 164 | 25 => 165 | 26 => 166 | 27 => 167 | 46 => 182 | 47 => 183 | 48 => 184 | 49 => 185 | 50 => 186 | 57 => 190 | n => n, fun | 22 => 22 | 24 => 53 | 25 => 100 | 3 => 3 | 39 => 127 | 0 => 0 | 53 => 157 | 55 => 130 | 4 => 4 | 46 => 162 | 45 => 161 | 50 => 141 | 5 => 5 | 9 => 9 | 66 => 179 | 70 => 182 | 76 => 186 | 77 => 187 | n => n, fun | n => n⟩
theorem lays : Go.Proofs.SlLaysF0.n6 Tryz.prog lays_ren := {
 mixed := by kernel_rfl
 f6 := ⟨Tryz.f91.name, by decide, Tryz.func91.trans (congrArg some (by kernel_rfl))⟩
 f14 := ⟨Tryz.f139.name, by decide, Tryz.func139.trans (congrArg some (by kernel_rfl))⟩
 f15 := Tryz.func140.trans (congrArg some (by kernel_rfl))
 f20 := ⟨Tryz.f160.name, by decide, Tryz.func160.trans (congrArg some (by kernel_rfl))⟩
 f21 := ⟨Tryz.f161.name, by decide, Tryz.func161.trans (congrArg some (by kernel_rfl))⟩
 f22 := ⟨Tryz.f162.name, by decide, Tryz.func162.trans (congrArg some (by kernel_rfl))⟩
 f23 := ⟨Tryz.f163.name, by decide, Tryz.func163.trans (congrArg some (by kernel_rfl))⟩
 f24 := ⟨Tryz.f164.name, by decide, Tryz.func164.trans (congrArg some (by kernel_rfl))⟩
 f25 := ⟨Tryz.f165.name, by decide, Tryz.func165.trans (congrArg some (by kernel_rfl))⟩
 f26 := ⟨Tryz.f166.name, by decide, Tryz.func166.trans (congrArg some (by kernel_rfl))⟩
 f27 := ⟨Tryz.f167.name, by decide, Tryz.func167.trans (congrArg some (by kernel_rfl))⟩
 f28 := Tryz.func168.trans (congrArg some (by kernel_rfl))
 f29 := Tryz.func169.trans (congrArg some (by kernel_rfl))
 f46 := ⟨Tryz.f182.name, by decide, Tryz.func182.trans (congrArg some (by kernel_rfl))⟩
 f47 := Tryz.func183.trans (congrArg some (by kernel_rfl))
 f48 := Tryz.func184.trans (congrArg some (by kernel_rfl))
 f49 := ⟨Tryz.f185.name, by decide, Tryz.func185.trans (congrArg some (by kernel_rfl))⟩
 f50 := ⟨Tryz.f186.name, by decide, Tryz.func186.trans (congrArg some (by kernel_rfl))⟩
 f57 := ⟨Tryz.f190.name, by decide, Tryz.func190.trans (congrArg some (by kernel_rfl))⟩
 t0 := Tryz.underlying0
 a0 := Tryz.isAgg0
 z0 := Tryz.sizeOf0
 v0 := Tryz.zeroValue0
 t3 := Tryz.underlying3
 a3 := Tryz.isAgg3
 z3 := Tryz.sizeOf3
 v3 := Tryz.zeroValue3
 t4 := Tryz.underlying4
 a4 := Tryz.isAgg4
 z4 := Tryz.sizeOf4
 v4 := Tryz.zeroValue4
 t5 := Tryz.underlying5
 a5 := Tryz.isAgg5
 z5 := Tryz.sizeOf5
 v5 := Tryz.zeroValue5
 t9 := Tryz.underlying9
 a9 := Tryz.isAgg9
 z9 := Tryz.sizeOf9
 v9 := Tryz.zeroValue9
 t22 := Tryz.underlying22
 a22 := Tryz.isAgg22
 z22 := Tryz.sizeOf22
 v22 := Tryz.zeroValue22
 t25 := Tryz.underlying100
 a25 := Tryz.isAgg100
 z25 := Tryz.sizeOf100
 v25 := Tryz.zeroValue100
 t39 := Tryz.underlying127
 a39 := Tryz.isAgg127
 z39 := Tryz.sizeOf127
 v39 := Tryz.zeroValue127
 t45 := Tryz.underlying161
 a45 := Tryz.isAgg161
 z45 := Tryz.sizeOf161
 v45 := Tryz.zeroValue161
 t46 := Tryz.underlying162
 a46 := Tryz.isAgg162
 z46 := Tryz.sizeOf162
 v46 := Tryz.zeroValue162
 t50 := Tryz.underlying141
 a50 := Tryz.isAgg141
 z50 := Tryz.sizeOf141
 v50 := Tryz.zeroValue141
 t53 := Tryz.underlying157
 a53 := Tryz.isAgg157
 z53 := Tryz.sizeOf157
 v53 := Tryz.zeroValue157
 t55 := Tryz.underlying130
 a55 := Tryz.isAgg130
 z55 := Tryz.sizeOf130
 v55 := Tryz.zeroValue130
 t66 := Tryz.underlying179
 a66 := Tryz.isAgg179
 z66 := Tryz.sizeOf179
 v66 := Tryz.zeroValue179
 t70 := Tryz.underlying182
 a70 := Tryz.isAgg182
 z70 := Tryz.sizeOf182
 v70 := Tryz.zeroValue182
 t76 := Tryz.underlying186
 a76 := Tryz.isAgg186
 z76 := Tryz.sizeOf186
 v76 := Tryz.zeroValue186
 t77 := Tryz.underlying187
 a77 := Tryz.isAgg187
 z77 := Tryz.sizeOf187
 v77 := Tryz.zeroValue187 }
end Go.Proofs.YtekommcfpjonmaaGreat.Xl
namespace Go.Proofs.YtekommcfpjonmaaGreat.Xs
open Go.RowKit Go Go.Proofs.YtekommcfpjonmaaGreatW.PrintWords Go.Proofs.YtekommcfpjonmaaGreatW.PrintLast Go.Proofs.YtekommcfpjonmaaGreatW.PrintMore Go.Proofs.YtekommcfpjonmaaGreat.Mn Go.Proofs.YtekommcfpjonmaaGreat.Nd Go.Proofs.YtekommcfpjonmaaGreat.Z Go.Proofs.YtekommcfpjonmaaGreat.Rf Go.Proofs.YtekommcfpjonmaaGreat.E Go.Proofs.YtekommcfpjonmaaGreat.Sg Go.Proofs.YtekommcfpjonmaaGreat.Sx Go.Proofs.YtekommcfpjonmaaGreat.Sy Go.Proofs.YtekommcfpjonmaaGreat.Xv Go.Proofs.YtekommcfpjonmaaGreat.Xj Go.Proofs.YtekommcfpjonmaaGreat.Xk Go.Proofs.YtekommcfpjonmaaGreat.Xl
set_option linter.unusedVariables false
set_option linter.unusedSimpArgs false
structure Db (w W : World) (a b : Sn) : Prop where
 a : W.heap[w.heap.size]? = some (snO a)
 b : W.heap[w.heap.size + 1]? = some (snO b)
 below : Below w.heap.size w W
theorem Db.start (w : World) (a b : Sn) : Db w ((w.alloc (snO a)).alloc (snO b)) a b := by
 have e1 : (w.alloc (snO a)).heap.size = w.heap.size + 1 := by simp
 have k2 := blk_new (w.alloc (snO a)) (snO b)
 rw [e1] at k2
 exact ⟨blk_alloc (blk_new w _) _, k2, below_alloc (below_alloc (Below.refl _ w) _) _⟩
set_option maxHeartbeats 2000000 in
theorem less_n (a b : Sn) (w : World) (ha : vS a = true) (hb : vS b = true) :
  Calls Tryz.prog 92 #[.agg #[.int .i64 a.f0.f0, .int .i64 a.f0.f1, .int .i64 a.f1.f0, .int .i64 a.f1.f1], .agg #[.int .i64 b.f0.f0, .int .i64 b.f0.f1, .int .i64 b.f1.f0, .int .i64 b.f1.f1]] w (ValP w (.int .i64 (cmpQ (qT a.f0) (qT b.f0)))) := by
 have hu := Tryz.underlying53
 have hu2 := Tryz.underlying24
 have HA := Aside0.mk (And.intro (vS_is ha) (vS_is hb))
 have hT := Aside0.mk (Db.start w a b)
 unfold snO at hT
 clear ha hb
 go_enter Tryz.func92, Tryz.ntmps92
 go_upto_region 1 with fail
 generalize World.alloc (World.alloc _ _) _ = W at *
 have HT : Aside0 (Db w W a b) := ⟨hT.out⟩
 clear hT
 obtain ⟨p0, p1, p2, p3⟩ := sn_at HT.out.a
 obtain ⟨q0, q1, q2, q3⟩ := sn_at HT.out.b
 go_wp2_with fail
 refine (cmpT_n HA.out.1.1 HA.out.2.1 W).mono ?_
 rintro e w2 ⟨rfl, hb2⟩
 have HB := Aside0.mk (HT.out.below.trans (hb2.mono HT.out.below.size))
 generalize cmpQ (qT a.f0) (qT b.f0) = V at *
 clear hb2 HT p0 p1 p2 p3 q0 q1 q2 q3
 go_wp2_with fail
 go_ret
 exact ⟨rfl, HB.out⟩
set_option maxHeartbeats 2000000 in
theorem insertion_none (p : Option Addr) (cap : Nat) (fv : Value) (w : World) :
  Calls Tryz.prog 160 #[.slice p 0 cap, .int .i64 0, .int .i64 0, fv] w (ValP w (.tuple #[])) := by
 go_enter Tryz.func160, Tryz.ntmps160
 go_wp2
 refine wp_loop_rounds 1 ?_
 rw [rounds_succ]
 go_wp2
 go_end0
 exact ⟨rfl, Below.refl _ _⟩
set_option maxHeartbeats 2000000 in
theorem pdq_none (p : Option Addr) (cap : Nat) (lim : Int) (fv : Value) (w : World) :
  Calls Tryz.prog 139 #[.slice p 0 cap, .int .i64 0, .int .i64 0, .int .i64 lim, fv] w (ValP w (.tuple #[])) := by
 have hi := fun W => insertion_none p cap fv W
 go_enter Tryz.func139, Tryz.ntmps139
 go_wp2
 refine wp_loop_rounds 1 ?_
 rw [rounds_succ]
 go_wp2_with fail
 refine (hi _).mono ?_
 rintro e w' ⟨rfl, hb⟩
 go_wp2_with fail
 (try simp only [Exit.inBlock, Exit.then]); refine bodyPost_ret (results_none rfl _ _ _) rfl ?_
 exact ⟨rfl, hb⟩
theorem len0_n (w : World) : Calls Tryz.prog 140 #[.int .u64 0] w fun e w' => e = .returned (.int .i64 (Lib.bitLen 0 : Nat)) ∧ w' = w :=
 Any.bits_Len (SlLaysF0.n15.bits (P := Tryz.prog) (ρ := lays_ren) { lays with }) 0 w (by omega) (by omega)
set_option maxHeartbeats 2000000 in
theorem sort_none (p : Option Addr) (cap : Nat) (fv : Value) (w : World) :
  Calls Tryz.prog 91 #[.slice p 0 cap, fv] w (ValP w (.tuple #[])) := by
 have hp := fun lim W => pdq_none p cap lim fv W
 go_enter Tryz.func91, Tryz.ntmps91
 go_wp2_with fail
 refine (len0_n _).mono ?_
 rintro e w' ⟨rfl, rfl⟩
 go_wp2_with fail
 refine (hp _ _).mono ?_
 rintro e w2 ⟨rfl, hb⟩
 go_wp2_with fail
 go_end0
 exact ⟨rfl, hb⟩
abbrev Vs := {s : Sn // vS s = true}
def cfS (x y : Vs) : Int := cmpQ (qT x.1.f0) (qT y.1.f0)
def encV (x : Vs) : List Value := encS x.1
theorem lt_cf (x y : Vs) : Go.Proofs.ltOf cfS x y = decide (qT x.1.f0 < qT y.1.f0) := by
 unfold Go.Proofs.ltOf cfS cmpQ
 by_cases h1 : qT x.1.f0 < qT y.1.f0
 ·simp [h1]
 ·by_cases h2 : qT y.1.f0 < qT x.1.f0 <;> simp [h1, h2]
theorem swo_cf : Go.Sort.SWO (Go.Proofs.ltOf cfS) := {
 irrefl := fun x => by rw [lt_cf]; simp
 trans := fun x y z h1 h2 => by
  rw [lt_cf] at *
  simp only [decide_eq_true_eq] at *
  grind
 ntrans := fun x y z h1 h2 => by
  rw [lt_cf] at *
  simp only [decide_eq_false_iff_not] at *
  grind }
theorem v1 : vS ⟨⟨0, 1⟩, ⟨0, 1⟩⟩ = true := by simp [vS, vT, Ea.valid]
open Go.Sort in
theorem flat_val [Inhabited Vs] [Inhabited Sn] (d : Array Vs) : flatK encV 4 d = flatK encS 4 (d.map Subtype.val) := by
 unfold flatK
 rw [Array.size_map]
 refine Array.map_congr_left (fun t ht => ?_)
 have ht' : t < d.size * 4 := by simpa using ht
 have h1 : t / 4 < d.size := by omega
 rw [getElem!_pos d (t / 4) h1, getElem!_pos (d.map Subtype.val) (t / 4) (by simpa using h1), Array.getElem_map]
 rfl
set_option maxHeartbeats 1000000 in
theorem sort_n (g cap : Nat) (X : List Sn) (w : World) (h : Blk w g X cap) (hv : ∀ s ∈ X, vS s = true) (hl : X.length ≤ 1000000) :
  Calls Tryz.prog 91 #[.slice (some ⟨g, 0, none⟩) X.length cap, .func (.func 92) #[] #[]] w
   (fun e w' => e = .returned (.tuple #[]) ∧ ∃ d : List Sn, d.Perm X ∧ (∀ i j : Nat, i < j → ∀ x y, d[i]? = some x → d[j]? = some y → ¬ qT y.f0 < qT x.f0) ∧ Blk w' g d cap ∧ ∀ B, B ≤ g → Below B w w') := by
 haveI : Inhabited Vs := ⟨⟨_, v1⟩⟩
 haveI : Inhabited Sn := ⟨⟨⟨0, 1⟩, ⟨0, 1⟩⟩⟩
 have hd : ∃ d : Array Vs, d.map Subtype.val = X.toArray := ⟨(X.pmap Subtype.mk hv).toArray, by simp [List.map_pmap]⟩
 obtain ⟨d, hd⟩ := hd
 have hsz : d.size = X.length := by
  have := congrArg Array.size hd
  simpa using this
 have hH : Go.Sort.HoldsK encV 4 w g 0 d := by
  unfold Go.Sort.HoldsK
  rw [flat_val, hd]
  exact h.holds
 have hC : CmpLays Tryz.prog 92 #[] encV 4 cfS g 0 d.size w := by
  intro m os dk hs x y
  exact Sr.grown_of (less_n x.1 y.1 _ x.2 y.2)
 have hcon := AnyQ.slices_SortFunc lays 4 Tryz.isAgg53 Tryz.sizeOf53 encV (fun _ => rfl) (fun x v hv => by
  simp only [encV, encS, List.mem_cons, List.not_mem_nil, or_false] at hv
  rcases hv with rfl | rfl | rfl | rfl <;> rfl) cfS swo_cf 92 #[] g 0 cap d w (enters_of Tryz.func92 (by kernel_rfl) rfl) hC hH h.lt (by omega)
 rw [hsz] at hcon
 refine Calls.mono hcon ?_
 rintro e w' ⟨rfl, d', n, os, hp, hs, rfl⟩
 have hs' : d'.size = d.size := by rw [hp.1, hsz]
 have he : Go.Proofs.sortWorldK encV 4 w g 0 n d' os = Go.Proofs.sortWorldK encS 4 w g 0 n (d'.map Subtype.val) os := by
  unfold Go.Proofs.sortWorldK Go.Sort.putRowK
  rw [flat_val]
 rw [he]
 obtain ⟨k1, k2⟩ := sorted_blk h (d'.map Subtype.val) (by rw [Array.size_map, hs', hsz]) n os
 refine ⟨rfl, (d'.map Subtype.val).toList, ?_, ?_, k1, k2⟩
 ·have hp2 := hp.2.2
  rw [show (d'.extract 0 X.length) = d' by rw [← hsz, ← hs']; simp, show (d.extract 0 X.length) = d by rw [← hsz]; simp] at hp2
  have := hp2.map Subtype.val
  rw [← Array.toList_map, ← Array.toList_map, hd] at this
  exact this
 ·intro i j hij x y hx hy
  have hj : j < d'.size := by
   have := (List.getElem?_eq_some_iff.1 hy).1
   simpa using this
  have h0 := hs i j (Nat.zero_le _) hij (by omega)
  rw [lt_cf, getElem!_pos d' i (by omega), getElem!_pos d' j hj] at h0
  simp only [decide_eq_false_iff_not] at h0
  have ex : d'[i].1 = x := by simpa [List.getElem?_eq_getElem (show i < d'.size by omega)] using hx
  have ey : d'[j].1 = y := by simpa [List.getElem?_eq_getElem hj] using hy
  rw [ex, ey] at h0
  exact h0
end Go.Proofs.YtekommcfpjonmaaGreat.Xs
namespace Go.Proofs.YtekommcfpjonmaaGreat.Xn
open Go.RowKit Go Go.Proofs.YtekommcfpjonmaaGreatW.PrintWords Go.Proofs.YtekommcfpjonmaaGreatW.PrintLast Go.Proofs.YtekommcfpjonmaaGreatW.PrintMore Go.Proofs.YtekommcfpjonmaaGreat.Mn Go.Proofs.YtekommcfpjonmaaGreat.Nd Go.Proofs.YtekommcfpjonmaaGreat.Z Go.Proofs.YtekommcfpjonmaaGreat.Rf Go.Proofs.YtekommcfpjonmaaGreat.E Go.Proofs.YtekommcfpjonmaaGreat.Sg Go.Proofs.YtekommcfpjonmaaGreat.Sx Go.Proofs.YtekommcfpjonmaaGreat.Sy Go.Proofs.YtekommcfpjonmaaGreat.Xv Go.Proofs.YtekommcfpjonmaaGreat.Xj Go.Proofs.YtekommcfpjonmaaGreat.Xk Go.Proofs.YtekommcfpjonmaaGreat.Xs
set_option linter.unusedVariables false
set_option linter.unusedSimpArgs false
section
variable {P : Program} {ops : Array Oper} {Q : Exit → Act → World → Prop}
theorem goesV_ {oi : Oper} {N : Option Tmp} {a : Act} {w : World} {K : Act → World → Prop} {f : FuncId} {fn : Func} {ar : Array Operand} {ts : Array TypeId} (t : Tmp) (hf : P.funcs[f]? = some fn) (hname : (fn.name == "runtime.NumGoroutine") = false) (hb : fn.body.isSome = true) (args : Array Value)
  (hw : Region.wanted oi (yielded ops a.tmps) = true) (hN : oi.dst = N) (hop : oi.op = .call { callee := .value (.tmp t), args := ar, argTypes := ts }) (ht : a.eval (.tmp t) = .func (.func f) #[] #[]) (hargs : ar.map a.eval = args)
  (h : Calls P f args w fun e w' => ∃ v, e = .returned v ∧ K (a.put N v) w') : if Region.wanted oi (yielded ops a.tmps) = true then Oper.wp P oi a w K Q else K (a.put N undef) w := by
 refine call_ f args hw hN ?_ h
 have he := enters_ hf hname hb args w
 unfold execOp
 simp [hop, resolve, Deferred.ofValue, invoke, ht, hargs, he]
end
theorem tch_v {a b : Sn} (ha : vS a = true) (hb : vS b = true) : vS (tch a b).1 = true := by
 have h1 := vS_is ha
 have h2 := vS_is hb
 unfold tch
 split
 ·exact ha
 ·split
  ·unfold vS
   simp only [Bool.and_eq_true, Bool.not_eq_true', decide_eq_false_iff_not]
   exact ⟨h1.1, h2.2.1, by grind⟩
  ·exact ha
theorem touch2 (a b c : Sn) (t : Bool) (w : World) (ha : vS a = true) (hb : vS b = true) (h : tch a b = (c, t)) :
  Calls Tryz.prog 94 #[.agg #[.int .i64 a.f0.f0, .int .i64 a.f0.f1, .int .i64 a.f1.f0, .int .i64 a.f1.f1], .agg #[.int .i64 b.f0.f0, .int .i64 b.f0.f1, .int .i64 b.f1.f0, .int .i64 b.f1.f1]] w (fun e w' => ∃ _u : Nat, e = .returned (.tuple #[.agg #[.int .i64 c.f0.f0, .int .i64 c.f0.f1, .int .i64 c.f1.f0, .int .i64 c.f1.f1], .bool t]) ∧ Below w.heap.size w w') := by
 refine (touching_n a b w ha hb).mono ?_
 rintro e w' ⟨rfl, hb⟩
 rw [h]
 exact ⟨0, rfl, hb⟩
structure Js (w W : World) (v : Value) (out : List Sn) : Prop where
 r : Kd.R k53 53 W w.heap.size (fun _ => True) v out
 below : Below w.heap.size w W
set_option maxHeartbeats 8000000 in
set_option maxRecDepth 100000 in
theorem join_n (A0 : Option Addr) (c0 : Nat) (l : List Sn) (w : World) (hr : Kd.C k53 w A0 l.length l) (hl : l.length ≤ 1000000) (hv : ∀ s ∈ l, vS s = true) :
  Calls Tryz.prog 93 #[.slice A0 l.length c0, .func (.func 94) #[] #[]] w (fun e w' => ∃ v, e = .returned v ∧ Js w w' v (mrgS l)) := by
 have hu := Tryz.underlying53
 have hu2 := Tryz.underlying24
 have HR := Aside0.mk (And.intro hr (And.intro hl hv))
 obtain ⟨V, hV⟩ : ∃ V, V = mrgS l := ⟨_, rfl⟩
 rw [← hV]
 have HV := Aside0.mk hV
 clear hr hl hv hV
 go_enter Tryz.func93, Tryz.ntmps93
 go_wp2_with fail
 go_loopg [5, 13] l.length (fun kq v5 v13 w' => ∃ (out : List Sn) (i : Int), v13 = .int .i64 i ∧ Aside0 (0 ≤ i ∧ i + kq = l.length ∧ out.length ≤ i.toNat) ∧ Aside0 (Js w w' v5 out ∧ ∀ s ∈ out, vS s = true) ∧ Aside0 ((out = [] ∧ i = 0) ∨ ∃ pre a, out = pre ++ [a] ∧ V = pre ++ jnS a (l.drop i.toNat)))
 case atStart => exact ⟨[], 0, rfl, ⟨by simp, by simp, by simp⟩, ⟨⟨Kd.R_nil _ _ _ _ _, Below.refl _ _⟩, by simp⟩, ⟨.inl ⟨rfl, rfl⟩⟩⟩
 case round =>
  obtain ⟨out, i, rfl, hi, hM, hL⟩ := hrel
  by_cases hlt : i < (l.length : Int)
  ·have p0 := hi.out.1
   have HD := Aside0.mk (any_drop (fun _ => true) l p0 hlt).2
   have HE := Aside0.mk (show l.drop i.toNat = rd_T53 l i :: l.drop (i + 1).toNat by
    have hn : i.toNat < l.length := by omega
    have hi2 : (i + 1).toNat = i.toNat + 1 := by omega
    have hg : rd_T53 l i = l[i.toNat] := by
     unfold rd_T53
     rw [List.getD_eq_getElem?_getD, List.getElem?_eq_getElem hn]
     rfl
    rw [hi2, hg, List.drop_eq_getElem_cons hn])
   obtain ⟨ad, hA, q0, q1, q2, q3⟩ := at_T53 (Kd.C_below HR.out.1 hM.out.1.below) i p0 hlt
   obtain ⟨k1, rfl⟩ : ∃ k, gk = k + 1 := ⟨gk - 1, by have := hi.out.2; omega⟩
   have hwi : wrap64 (i + 1) = i + 1 := by
    have := HR.out.2.1
    exact w64 (by omega) (by omega)
   have HX := Aside0.mk (HR.out.2.2 _ HD.out)
   generalize rd_T53 l i = X at *
   replace p0 := eq_true p0
   replace hlt := eq_true hlt
   subst hA
   go_upto_region 5 with fail
   have hB := Aside0.mk (show Below wr.heap.size wr (wr.alloc (snO X)) from below_alloc (Below.refl _ wr) _)
   have hX := Aside0.mk (show (wr.alloc (snO X)).heap[wr.heap.size]? = some (snO X) from blk_new wr _)
   unfold snO at hB hX
   generalize hW1 : World.alloc wr _ = W1 at hB hX
   have HX1 := Aside0.mk (show W1.heap[wr.heap.size]? = some (snO X) from hX.out)
   have HJ := Aside0.mk (show Js w W1 u5 out from ⟨Kd.R_below hM.out.1.r hB.out, hM.out.1.below.trans (hB.out.mono hM.out.1.below.size)⟩)
   have HO := Aside0.mk hM.out.2
   have HN := Aside0.mk (show ∀ g cap, u5 = .slice (some ⟨g, 0, none⟩) out.length cap → g ≠ wr.heap.size from fun g cap he => by
    rcases R_blk hM.out.1.r with ⟨e, _⟩ | ⟨g', cap', e, _, hb⟩
    ·rw [e] at he
     cases he
    ·rw [e] at he
     have := hb.lt
     cases he
     omega)
   clear hX hB hM hW1 q0 q1 q2 q3
   generalize wr.heap.size = G at *
   rcases hL.out with ⟨h1, h2⟩ | ⟨pre, a, h1, h2⟩
   ·subst h1 h2
    obtain ⟨A1, c1, h3⟩ := Kd.R_slice HJ.out.r
    subst h3
    have HV3 := Aside0.mk (show V = [] ++ jnS X (l.drop ((0 : Int) + 1).toNat) by
     have he := HE.out
     rw [show ((0 : Int)).toNat = 0 from rfl, List.drop_zero] at he
     rw [HV.out, he]
     rfl)
    clear hL HN
    obtain ⟨x0, x1, x2, x3⟩ := sn_at HX1.out
    obtain ⟨n, hn⟩ : ∃ n : Nat, n = ([] : List Sn).length := ⟨_, rfl⟩
    rw [← hn]
    have hn0 : (0 < n) = False := eq_false (by rw [hn]; decide)
    have HFR := Aside0.mk (show Js w W1 (.slice A1 n c1) [] by rw [hn]; exact HJ.out)
    clear HJ hn
    go_wp2_with (first | ((with_reducible refine gate_builtin (b := .append) (xs := #[.tmp 38, .tmp 40]) rfl ?_); at_builtin; refine Kd.R_append k53 (w0 := w) w.heap.size rfl (.tmp 38) (.tmp 40) 22 53 (.agg #[(.int .i64 0), (.int .i64 0), (.int .i64 0), (.int .i64 0)]) 32 rfl Tryz.underlying22 info53 rfl (by decide) (by omega) (.slice A1 n c1) [] X [.int .i64 X.f0.f0, .int .i64 X.f0.f1, .int .i64 X.f1.f0, .int .i64 X.f1.f1] (fun _ => True) (fun _ => False) rfl (by first | (go_simp; done) | (go_simp; rfl)) (k53_mkM _ _ _ X) (fun _ hk => hk.elim) (fun k hk => trivial) HFR.out.r HFR.out.below HFR.out.below.size (by simp only [List.length_nil]; omega) ?_; intro v9 w9' ho hb hg hat; have HS6 := Aside0.mk (show Js w w9' v9 [X] from ⟨ho, hb⟩); clear ho hb hg hat))
    go_roundg k1
    case measure => omega
    case rel => exact ⟨[X], 0 + 1, rfl, ⟨by omega, by have := hi.out; omega, by simp⟩, ⟨HS6.out, fun s hs => by
     rw [List.mem_singleton.1 hs]
     exact HX.out⟩, ⟨.inr ⟨[], X, rfl, HV3.out⟩⟩⟩
   ·subst h1
    have HV2 := Aside0.mk h2
    rcases R_blk HJ.out.r with ⟨_, h3⟩ | ⟨g, cap, h3, hg, hblk⟩
    ·simp at h3
    subst h3
    have HG := Aside0.mk (And.intro hg (And.intro hblk (HN.out g cap rfl)))
    have HAV := Aside0.mk (HO.out a (by simp))
    obtain ⟨n, hn⟩ : ∃ n : Nat, n = (pre ++ [a]).length := ⟨_, rfl⟩
    obtain ⟨j, hj⟩ : ∃ j : Nat, j = pre.length := ⟨_, rfl⟩
    rw [← hn]
    have hn1 : n = j + 1 := by rw [hn, hj]; simp
    have hnp := eq_true (show 0 < n by omega)
    have hwj : wrap64 ((n : Int) - 1) = (j : Int) := by
     have := hi.out
     have := HR.out.2.1
     rw [w64 (by omega) (by omega)]
     omega
    have hj0 : (0 ≤ (j : Int)) = True := eq_true (by omega)
    have hj1 : ((j : Int) < (n : Int)) = True := eq_true (by omega)
    have HNJ := Aside0.mk (And.intro hn (And.intro hj hn1))
    obtain ⟨⟨B, tb⟩, hT⟩ : ∃ r, tch a X = r := ⟨_, rfl⟩
    have HT := Aside0.mk hT
    have HB := Aside0.mk (And.intro HG.out.2.1 HX1.out)
    have HC := Aside0.mk (fun W (hb : Below W1.heap.size W1 W) => And.intro (show W.cell? ⟨g, j * 4, none⟩ = some (.int .i64 a.f0.f0) ∧ W.cell? ⟨g, j * 4 + 1, none⟩ = some (.int .i64 a.f0.f1) ∧ W.cell? ⟨g, j * 4 + 2, none⟩ = some (.int .i64 a.f1.f0) ∧ W.cell? ⟨g, j * 4 + 3, none⟩ = some (.int .i64 a.f1.f1) from by
     have := (HG.out.2.1.below hb).cells (i := j) (p := a) (by rw [HNJ.out.2.1]; simp)
     exact ⟨this.1, this.2.1, this.2.2.1, this.2.2.2.1⟩) (sn_at (blk_below HX1.out hb)))
    clear hg hblk h2 hL hn hj hn1 hT
    go_upto_region 7 with fail
    have hb0 : Below W1.heap.size W1 W1.drew := below_drew' (Below.refl _ _)
    refine start_ (n := 14) (S := fun w' => w'.cell? ⟨g, j * 4, none⟩ = some (.int .i64 a.f0.f0) ∧ w'.cell? ⟨g, j * 4 + 1, none⟩ = some (.int .i64 a.f0.f1) ∧ w'.cell? ⟨g, j * 4 + 2, none⟩ = some (.int .i64 a.f1.f0) ∧ w'.cell? ⟨g, j * 4 + 3, none⟩ = some (.int .i64 a.f1.f1) ∧ w'.cell? ⟨G, 0, none⟩ = some (.int .i64 X.f0.f0) ∧ w'.cell? ⟨G, 1, none⟩ = some (.int .i64 X.f0.f1) ∧ w'.cell? ⟨G, 2, none⟩ = some (.int .i64 X.f1.f0) ∧ w'.cell? ⟨G, 3, none⟩ = some (.int .i64 X.f1.f1)) (ds := [12]) (bs 14 0) (by kernel_rfl) rfl rfl ⟨(HC.out _ hb0).1.1, (HC.out _ hb0).1.2.1, (HC.out _ hb0).1.2.2.1, (HC.out _ hb0).1.2.2.2, (HC.out _ hb0).2.1, (HC.out _ hb0).2.2.1, (HC.out _ hb0).2.2.2.1, (HC.out _ hb0).2.2.2.2⟩ (fun hHeld => ?_)
    refine zP 0 22 14 1 ?_
    refine zP 1 23 14 3 ?_
    refine zP 2 24 14 7 ?_
    refine zP 3 25 14 15 ?_
    refine zP 4 26 14 31 ?_
    refine zT 5 27 14 63 hHeld ?_
    refine zT 6 28 14 127 hHeld ?_
    refine join_ (σ := Nat × Nat) 2 (bs 14 4095) (fun ⟨u7, g11⟩ => [(29, .tuple #[.agg #[.int .i64 B.f0.f0, .int .i64 B.f0.f1, .int .i64 B.f1.f0, .int .i64 B.f1.f1], .bool tb]), (21, .tuple #[.agg #[.int .i64 B.f0.f0, .int .i64 B.f0.f1, .int .i64 B.f1.f0, .int .i64 B.f1.f1], .bool tb]), (30, .agg #[.int .i64 B.f0.f0, .int .i64 B.f0.f1, .int .i64 B.f1.f0, .int .i64 B.f1.f1]), (31, .bool tb), (9, .pointer (some ⟨g11, 0, none⟩))]) (fun ⟨u7, g11⟩ w' => Below W1.heap.size W1 w' ∧ (True) ∧ (W1.heap.size ≤ g11 ∧ w'.heap[g11]? = some (.cells #[.int .i64 0, .int .i64 0, .int .i64 0, .int .i64 0] 53))) ?_ (fun hq_7_8_9_10_11 => ?_)
    rotate_left
    ·
     refine join_ (σ := Nat × Nat) 3 (bs 14 2047) (fun ⟨u7, _⟩ => [(29, .tuple #[.agg #[.int .i64 B.f0.f0, .int .i64 B.f0.f1, .int .i64 B.f1.f0, .int .i64 B.f1.f1], .bool tb]), (21, .tuple #[.agg #[.int .i64 B.f0.f0, .int .i64 B.f0.f1, .int .i64 B.f1.f0, .int .i64 B.f1.f1], .bool tb]), (30, .agg #[.int .i64 B.f0.f0, .int .i64 B.f0.f1, .int .i64 B.f1.f0, .int .i64 B.f1.f1]), (31, .bool tb)]) (fun ⟨u7, _⟩ w' => Below W1.heap.size W1 w' ∧ (True)) ?_ (fun hq_7_8_9_10 => ?_)
     ·rintro ⟨u7, g11⟩ w' ⟨hB, f7⟩
      refine norm_ (a' := ?_) ?_ ?_; rotate_left; (· simp only [putAll, Act.put, List.setIfInBounds_toArray, List.set_cons_zero, List.set_cons_succ, i64_w, i32_w]; rfl)
      refine one_ (i := 11) (N := some 9) (bs 14 4095) rfl rfl (by kernel_rfl) (by decide) (fun K hK => ?_)
      ·
       refine value_ (v := .pointer (some ⟨w'.heap.size, 0, none⟩)) (w1 := w'.alloc (.cells #[.int .i64 0, .int .i64 0, .int .i64 0, .int .i64 0] 53)) (by rfl) rfl ?_ ?_
       ·go_simp
       have hb9 : Below w'.heap.size w' (w'.alloc (.cells #[.int .i64 0, .int .i64 0, .int .i64 0, .int .i64 0] 53)) := below_alloc (Below.refl _ _) _
       have n11 := blk_new w' (.cells #[.int .i64 0, .int .i64 0, .int .i64 0, .int .i64 0] 53)
       have hB9 := hB.trans (hb9.mono hB.size)
       refine hK.out _ _ ⟨(HC.out _ hB9).1.1, (HC.out _ hB9).1.2.1, (HC.out _ hB9).1.2.2.1, (HC.out _ hB9).1.2.2.2, (HC.out _ hB9).2.1, (HC.out _ hB9).2.2.1, (HC.out _ hB9).2.2.2.1, (HC.out _ hB9).2.2.2.2⟩ (fun hHeld => ?_)
       clear hK K
       refine norm_ ?_ (hq_7_8_9_10_11 ⟨u7, w'.heap.size⟩ _ ⟨hB9, trivial, ⟨hB.size, n11⟩⟩); (· simp only [putAll, Act.put, List.setIfInBounds_toArray, List.set_cons_zero, List.set_cons_succ, i64_w, i32_w])
     refine join_ (σ := Nat × Nat) 6 (bs 14 2175) (fun ⟨_, g11⟩ => [(9, .pointer (some ⟨g11, 0, none⟩))]) (fun ⟨_, g11⟩ w' => Below W1.heap.size W1 w' ∧ (W1.heap.size ≤ g11 ∧ w'.heap[g11]? = some (.cells #[.int .i64 0, .int .i64 0, .int .i64 0, .int .i64 0] 53))) ?_ (fun hq_11 => ?_)
     ·rintro ⟨u7, g11⟩ w' ⟨hB, f11⟩
      refine norm_ (a' := ?_) ?_ ?_; rotate_left; (· simp only [putAll, Act.put, List.setIfInBounds_toArray, List.set_cons_zero, List.set_cons_succ, i64_w, i32_w]; rfl)
      refine one_ (i := 7) (N := some 29) (bs 14 2303) rfl rfl (by kernel_rfl) (by decide) (fun K hK => ?_)
      ·
       refine goesV_ 22 Tryz.func94 (by kernel_rfl) rfl #[.agg #[.int .i64 a.f0.f0, .int .i64 a.f0.f1, .int .i64 a.f1.f0, .int .i64 a.f1.f1], .agg #[.int .i64 X.f0.f0, .int .i64 X.f0.f1, .int .i64 X.f1.f0, .int .i64 X.f1.f1]] (by rfl) rfl rfl (by rfl) (by simp only [List.map_toArray, List.map_cons, List.map_nil]; rfl) ?_
       with_reducible refine (touch2 a X B tb w' HAV.out HX.out HT.out).mono ?_
       rintro e w9 ⟨u7, rfl, hb9⟩
       refine ⟨_, rfl, ?_⟩
       have hB9 := hB.trans (hb9.mono hB.size)
       refine hK.out _ _ ⟨(HC.out _ hB9).1.1, (HC.out _ hB9).1.2.1, (HC.out _ hB9).1.2.2.1, (HC.out _ hB9).1.2.2.2, (HC.out _ hB9).2.1, (HC.out _ hB9).2.2.1, (HC.out _ hB9).2.2.2.1, (HC.out _ hB9).2.2.2.2⟩ (fun hHeld => ?_)
       clear hK K
       refine norm_ (a' := ?_) ?_ ?_; rotate_left; (· show Act.put _ (some 29) _ = _; simp only [putAll, Act.put, List.setIfInBounds_toArray, List.set_cons_zero, List.set_cons_succ, i64_w, i32_w]; rfl)
       refine pure_ (i := 8) (N := some 21) (v := ?_) (a' := ?_) (bs 14 2559) rfl rfl (by kernel_rfl) (fun _ _ _ h => h) (Or.inl ⟨by rfl, ?_⟩) ?_ ?_; rotate_left; (· intro w'; go_simp; first | done | with_reducible rfl); rotate_left; (· simp only [Act.put, List.setIfInBounds_toArray, List.set_cons_zero, List.set_cons_succ, i64_w, i32_w]; rfl)
       refine pure_ (i := 9) (N := some 30) (v := ?_) (a' := ?_) (bs 14 3071) rfl rfl (by kernel_rfl) (fun _ _ _ h => h) (Or.inl ⟨by rfl, ?_⟩) ?_ ?_; rotate_left; (· intro w'; go_simp; first | done | with_reducible rfl); rotate_left; (· simp only [Act.put, List.setIfInBounds_toArray, List.set_cons_zero, List.set_cons_succ, i64_w, i32_w]; rfl)
       refine pure_ (i := 10) (N := some 31) (v := ?_) (a' := ?_) (bs 14 4095) rfl rfl (by kernel_rfl) (fun _ _ _ h => h) (Or.inl ⟨by rfl, ?_⟩) ?_ ?_; rotate_left; (· intro w'; go_simp; first | done | with_reducible rfl); rotate_left; (· simp only [Act.put, List.setIfInBounds_toArray, List.set_cons_zero, List.set_cons_succ, i64_w, i32_w]; rfl)
       refine norm_ ?_ (hq_7_8_9_10_11 ⟨u7, g11⟩ _ ⟨hB9, trivial, ⟨f11.1, blk_below f11.2 hb9⟩⟩); (· simp only [putAll, Act.put, List.setIfInBounds_toArray, List.set_cons_zero, List.set_cons_succ, i64_w, i32_w])
     have hB := below_drew' (Below.refl _ W1.drew)
     refine two_ (i := 7) (j := 11) (Ni := some 29) (Nj := some 9) (bs 14 255) (bs 14 2175) rfl rfl rfl rfl (by kernel_rfl) (by decide) (by decide) (fun K hK => ?_) (fun K hK => ?_)
     ·
      refine goesV_ 22 Tryz.func94 (by kernel_rfl) rfl #[.agg #[.int .i64 a.f0.f0, .int .i64 a.f0.f1, .int .i64 a.f1.f0, .int .i64 a.f1.f1], .agg #[.int .i64 X.f0.f0, .int .i64 X.f0.f1, .int .i64 X.f1.f0, .int .i64 X.f1.f1]] (by rfl) rfl rfl (by rfl) (by simp only [List.map_toArray, List.map_cons, List.map_nil]; rfl) ?_
      with_reducible refine (touch2 a X B tb W1.drew HAV.out HX.out HT.out).mono ?_
      rintro e w9 ⟨u7, rfl, hb9⟩
      refine ⟨_, rfl, ?_⟩
      have hB9 := hB.trans (hb9.mono hB.size)
      refine hK.out _ _ ⟨(HC.out _ hB9).1.1, (HC.out _ hB9).1.2.1, (HC.out _ hB9).1.2.2.1, (HC.out _ hB9).1.2.2.2, (HC.out _ hB9).2.1, (HC.out _ hB9).2.2.1, (HC.out _ hB9).2.2.2.1, (HC.out _ hB9).2.2.2.2⟩ (fun hHeld => ?_)
      clear hK K
      refine norm_ (a' := ?_) ?_ ?_; rotate_left; (· show Act.put _ (some 29) _ = _; simp only [putAll, Act.put, List.setIfInBounds_toArray, List.set_cons_zero, List.set_cons_succ, i64_w, i32_w]; rfl)
      refine pure_ (i := 8) (N := some 21) (v := ?_) (a' := ?_) (bs 14 511) rfl rfl (by kernel_rfl) (fun _ _ _ h => h) (Or.inl ⟨by rfl, ?_⟩) ?_ ?_; rotate_left; (· intro w'; go_simp; first | done | with_reducible rfl); rotate_left; (· simp only [Act.put, List.setIfInBounds_toArray, List.set_cons_zero, List.set_cons_succ, i64_w, i32_w]; rfl)
      refine pure_ (i := 9) (N := some 30) (v := ?_) (a' := ?_) (bs 14 1023) rfl rfl (by kernel_rfl) (fun _ _ _ h => h) (Or.inl ⟨by rfl, ?_⟩) ?_ ?_; rotate_left; (· intro w'; go_simp; first | done | with_reducible rfl); rotate_left; (· simp only [Act.put, List.setIfInBounds_toArray, List.set_cons_zero, List.set_cons_succ, i64_w, i32_w]; rfl)
      refine pure_ (i := 10) (N := some 31) (v := ?_) (a' := ?_) (bs 14 2047) rfl rfl (by kernel_rfl) (fun _ _ _ h => h) (Or.inl ⟨by rfl, ?_⟩) ?_ ?_; rotate_left; (· intro w'; go_simp; first | done | with_reducible rfl); rotate_left; (· simp only [Act.put, List.setIfInBounds_toArray, List.set_cons_zero, List.set_cons_succ, i64_w, i32_w]; rfl)
      refine norm_ ?_ (hq_7_8_9_10 ⟨u7, 0⟩ _ ⟨hB9, trivial⟩); (· simp only [putAll, Act.put, List.setIfInBounds_toArray, List.set_cons_zero, List.set_cons_succ, i64_w, i32_w])
     ·
      refine value_ (v := .pointer (some ⟨W1.drew.heap.size, 0, none⟩)) (w1 := W1.drew.alloc (.cells #[.int .i64 0, .int .i64 0, .int .i64 0, .int .i64 0] 53)) (by rfl) rfl ?_ ?_
      ·go_simp
      have hb9 : Below W1.drew.heap.size W1.drew (W1.drew.alloc (.cells #[.int .i64 0, .int .i64 0, .int .i64 0, .int .i64 0] 53)) := below_alloc (Below.refl _ _) _
      have n11 := blk_new W1.drew (.cells #[.int .i64 0, .int .i64 0, .int .i64 0, .int .i64 0] 53)
      have hB9 := hB.trans (hb9.mono hB.size)
      refine hK.out _ _ ⟨(HC.out _ hB9).1.1, (HC.out _ hB9).1.2.1, (HC.out _ hB9).1.2.2.1, (HC.out _ hB9).1.2.2.2, (HC.out _ hB9).2.1, (HC.out _ hB9).2.2.1, (HC.out _ hB9).2.2.2.1, (HC.out _ hB9).2.2.2.2⟩ (fun hHeld => ?_)
      clear hK K
      refine norm_ ?_ (hq_11 ⟨0, W1.drew.heap.size⟩ _ ⟨hB9, ⟨hB.size, n11⟩⟩); (· simp only [putAll, Act.put, List.setIfInBounds_toArray, List.set_cons_zero, List.set_cons_succ, i64_w, i32_w])
    rintro ⟨u7, g11⟩ w' ⟨hB, f7, f11⟩
    refine norm_ (a' := ?_) ?_ ?_; rotate_left; (· simp only [putAll, Act.put, List.setIfInBounds_toArray, List.set_cons_zero, List.set_cons_succ, i64_w, i32_w]; rfl)
    have hHeld : w'.cell? ⟨g, j * 4, none⟩ = some (.int .i64 a.f0.f0) ∧ w'.cell? ⟨g, j * 4 + 1, none⟩ = some (.int .i64 a.f0.f1) ∧ w'.cell? ⟨g, j * 4 + 2, none⟩ = some (.int .i64 a.f1.f0) ∧ w'.cell? ⟨g, j * 4 + 3, none⟩ = some (.int .i64 a.f1.f1) ∧ w'.cell? ⟨G, 0, none⟩ = some (.int .i64 X.f0.f0) ∧ w'.cell? ⟨G, 1, none⟩ = some (.int .i64 X.f0.f1) ∧ w'.cell? ⟨G, 2, none⟩ = some (.int .i64 X.f1.f0) ∧ w'.cell? ⟨G, 3, none⟩ = some (.int .i64 X.f1.f1) := ⟨(HC.out _ hB).1.1, (HC.out _ hB).1.2.1, (HC.out _ hB).1.2.2.1, (HC.out _ hB).1.2.2.2, (HC.out _ hB).2.1, (HC.out _ hB).2.2.1, (HC.out _ hB).2.2.2.1, (HC.out _ hB).2.2.2.2⟩
    refine zL 12 none 14 8191 (fun K hK => ?_)
    obtain ⟨s0, s1, s2, s3⟩ := sn_cells f11.2
    obtain ⟨fa, fb, fc, fd⟩ := sn_free (s := z4) f11.2
    refine skip_ (w1 := ?_) (by rfl) rfl ?_ ?_
    rotate_left
    ·(go_simp; with_reducible rfl)
    refine hK.out _ _ ?_
    clear hK K
    refine zP 13 10 14 16383 ?_
    refine done_ (by kernel_rfl) ?_
    have hz := blk_four (x := .int .i64 B.f0.f0) (y := .int .i64 B.f0.f1) (z := .int .i64 B.f1.f0) (u := .int .i64 B.f1.f1) f11.2
    have hbF : Below W1.heap.size W1 ((((w'.setCell ⟨g11, 0, none⟩ (.int .i64 B.f0.f0)).setCell ⟨g11, 1, none⟩ (.int .i64 B.f0.f1)).setCell ⟨g11, 2, none⟩ (.int .i64 B.f1.f0)).setCell ⟨g11, 3, none⟩ (.int .i64 B.f1.f1)) := (((hB.setCell f11.1 _).setCell f11.1 _).setCell f11.1 _).setCell f11.1 _
    generalize hFW : (((w'.setCell ⟨g11, 0, none⟩ (.int .i64 B.f0.f0)).setCell ⟨g11, 1, none⟩ (.int .i64 B.f0.f1)).setCell ⟨g11, 2, none⟩ (.int .i64 B.f1.f0)).setCell ⟨g11, 3, none⟩ (.int .i64 B.f1.f1) = FW at *
    have HF := Aside0.mk (And.intro (show FW.heap[g11]? = some (snO B) from hz) hbF)
    have HFX := Aside0.mk (And.intro (blk_below HX1.out hbF) (And.intro (show Js w FW (.slice (some ⟨g, 0, none⟩) (pre ++ [a]).length cap) (pre ++ [a]) from ⟨Kd.R_below HJ.out.r hbF, HJ.out.below.trans (hbF.mono HJ.out.below.size)⟩) (HG.out.2.1.below hbF)))
    have HFJ := Aside0.mk f11.1
    clear hz hbF hFW hB f7 f11 hHeld HB HC hb0
    cases htb : tb
    ·subst htb
     have HV3 := Aside0.mk (show V = (pre ++ [a]) ++ jnS X (l.drop (i + 1).toNat) by
      rw [HV2.out, HE.out, jnS, HT.out, if_neg (show ¬ ((B, false) : Sn × Bool).2 = true from Bool.false_ne_true), List.append_assoc]
      rfl)
     obtain ⟨x0, x1, x2, x3⟩ := sn_at HFX.out.1
     have HFR := Aside0.mk (show Js w FW (.slice (some ⟨g, 0, none⟩) n cap) (pre ++ [a]) by rw [HNJ.out.1]; exact HFX.out.2.1)
     have HB1 := Aside0.mk (show (pre ++ [a]).length ≤ 1000000 by have := hi.out; have := HR.out; omega)
     go_wp2_with (first | ((with_reducible refine gate_builtin (b := .append) (xs := #[.tmp 38, .tmp 40]) rfl ?_); at_builtin; refine Kd.R_append k53 (w0 := w) w.heap.size rfl (.tmp 38) (.tmp 40) 22 53 (.agg #[(.int .i64 0), (.int .i64 0), (.int .i64 0), (.int .i64 0)]) 32 rfl Tryz.underlying22 info53 rfl (by decide) (by omega) (.slice (some ⟨g, 0, none⟩) n cap) (pre ++ [a]) X [.int .i64 X.f0.f0, .int .i64 X.f0.f1, .int .i64 X.f1.f0, .int .i64 X.f1.f1] (fun _ => True) (fun _ => False) rfl (by first | (go_simp; done) | (go_simp; rfl)) (k53_mkM _ _ _ X) (fun _ hk => hk.elim) (fun k hk => trivial) HFR.out.r HFR.out.below HFR.out.below.size (by have := HB1.out; omega) ?_; intro v9 w9' ho hb hg hat; have HS6 := Aside0.mk (show Js w w9' v9 (pre ++ [a] ++ [X]) from ⟨ho, hb⟩); clear ho hb hg hat))
     go_roundg k1
     case measure => omega
     case rel => exact ⟨pre ++ [a] ++ [X], i + 1, by rw [hwi], ⟨by have := hi.out; omega, by have := hi.out; omega, by have := hi.out; simp only [List.length_append, List.length_cons, List.length_nil] at this ⊢; omega⟩, ⟨HS6.out, fun s hs => by
      rcases List.mem_append.1 hs with hs | hs
      ·exact HO.out s hs
      ·rw [List.mem_singleton.1 hs]
       exact HX.out⟩, ⟨.inr ⟨pre ++ [a], X, rfl, HV3.out⟩⟩⟩
    ·subst htb
     have HV3 := Aside0.mk (show V = pre ++ jnS B (l.drop (i + 1).toNat) by
      rw [HV2.out, HE.out, jnS, HT.out, if_pos rfl])
     obtain ⟨x0, x1, x2, x3⟩ := sn_at HF.out.1
     have HFC := Aside0.mk (HFX.out.2.2.cells (i := j) (p := a) (by rw [HNJ.out.2.1]; simp))
     obtain ⟨y0, y1, y2, y3, hfz⟩ := HFC.out
     obtain ⟨z0, z1, z2, z3⟩ := And.intro (hfz (j * 4)) (And.intro (hfz (j * 4 + 1)) (And.intro (hfz (j * 4 + 2)) (hfz (j * 4 + 3))))
     clear hfz
     go_upto_region 11 with fail
     generalize hW2 : (((FW.setCell ⟨g, j * 4, none⟩ (.int .i64 B.f0.f0)).setCell ⟨g, j * 4 + 1, none⟩ (.int .i64 B.f0.f1)).setCell ⟨g, j * 4 + 2, none⟩ (.int .i64 B.f1.f0)).setCell ⟨g, j * 4 + 3, none⟩ (.int .i64 B.f1.f1) = W2
     have HS6 := Aside0.mk (show Js w W2 (.slice (some ⟨g, 0, none⟩) n cap) (pre ++ [B]) by
      have hs := HFX.out.2.2.set j B (by rw [HNJ.out.2.1]; simp)
      have he : (pre ++ [a]).set j B = pre ++ [B] := by rw [HNJ.out.2.1, List.set_append_right _ _ (Nat.le_refl _)]; simp
      have hW : FW.setCells g (j * 4) (encS B) = W2 := hW2
      rw [he, hW] at hs
      have hn : n = (pre ++ [B]).length := by rw [HNJ.out.1]; simp
      rw [hn]
      refine ⟨blk_R hs HG.out.1, ?_⟩
      rw [← hW2]
      exact (((HFX.out.2.1.below.setCell HG.out.1 _).setCell HG.out.1 _).setCell HG.out.1 _).setCell HG.out.1 _)
     clear hW2 HFC y0 y1 y2 y3 z0 z1 z2 z3 x0 x1 x2 x3
     go_wp2_with fail
     go_roundg k1
     case measure => omega
     case rel => exact ⟨pre ++ [B], i + 1, by rw [hwi], ⟨by have := hi.out; omega, by have := hi.out; omega, by have := hi.out; simp only [List.length_append, List.length_cons, List.length_nil] at this ⊢; omega⟩, ⟨HS6.out, fun s hs => by
      rcases List.mem_append.1 hs with hs | hs
      ·exact HO.out s (by simp [hs])
      ·rw [List.mem_singleton.1 hs]
       have := tch_v HAV.out HX.out
       rw [HT.out] at this
       exact this⟩, ⟨.inr ⟨pre, B, rfl, HV3.out⟩⟩⟩
  ·have hlb : decide (i < (l.length : Int)) = false := decide_eq_false hlt
   have HE := Aside0.mk (show V = out by
    have hd : l.drop i.toNat = [] := List.drop_of_length_le (by have := hi.out; omega)
    rcases hL.out with ⟨h1, h2⟩ | ⟨pre, a, h1, h2⟩
    ·rw [HV.out, h1]
     have : l.length = 0 := by have := hi.out; omega
     rw [List.eq_nil_of_length_eq_zero this]
     rfl
    ·rw [h2, hd, h1]
     rfl)
   have HJ := Aside0.mk hM.out.1
   replace hlt := eq_false hlt
   clear hL hM hi
   go_wp2_with fail
   go_ret
   exact ⟨_, rfl, by rw [HE.out]; exact HJ.out⟩
end Go.Proofs.YtekommcfpjonmaaGreat.Xn
namespace Go.Proofs.YtekommcfpjonmaaGreat.Xp
open Go.RowKit Go Go.Proofs.YtekommcfpjonmaaGreatW.PrintWords Go.Proofs.YtekommcfpjonmaaGreatW.PrintLast Go.Proofs.YtekommcfpjonmaaGreatW.PrintMore Go.Proofs.YtekommcfpjonmaaGreat.Mn Go.Proofs.YtekommcfpjonmaaGreat.Nd Go.Proofs.YtekommcfpjonmaaGreat.Z Go.Proofs.YtekommcfpjonmaaGreat.Ea Go.Proofs.YtekommcfpjonmaaGreat.Rf Go.Proofs.YtekommcfpjonmaaGreat.E Go.Proofs.YtekommcfpjonmaaGreat.Sg Go.Proofs.YtekommcfpjonmaaGreat.Sx Go.Proofs.YtekommcfpjonmaaGreat.Sy Go.Proofs.YtekommcfpjonmaaGreat.Xv Go.Proofs.YtekommcfpjonmaaGreat.Xj Go.Proofs.YtekommcfpjonmaaGreat.Xk Go.Proofs.YtekommcfpjonmaaGreat.Xs Go.Proofs.YtekommcfpjonmaaGreat.Xn
set_option linter.unusedVariables false
set_option linter.unusedSimpArgs false
theorem lowT_n {t : Tm} (h : vT t = true) (w : World) : Calls Tryz.prog 88 #[.int .i64 t.f0, .int .i64 t.f1] w (ValP w (.agg #[.int .i64 (lT (qT t)).f0, .int .i64 (lT (qT t)).f1])) := by
 have hv := vT_is h
 obtain ⟨k, hk⟩ := lowest_f t.f0 t.f1 (by omega) (by omega) (by omega) (by omega)
 have hl := rat_low (a := t.f0) (b := t.f1) (by omega)
 unfold Ra.ratN Ra.ratD at hl
 rw [if_neg (by omega), if_neg (by omega)] at hl
 rw [hl.1, hl.2] at hk
 exact exact_lowest.calls k _ _ _ _ w hk
theorem vS_low {s : Sn} (h : vS s = true) : vS (lS (qS s)) = true := by
 have h1 := vS_is h
 unfold vS lS
 simp only [Bool.and_eq_true, Bool.not_eq_true', decide_eq_false_iff_not]
 refine ⟨vT_low h1.1, vT_low h1.2.1, ?_⟩
 rw [qT_lT, qT_lT]
 exact Rat.not_lt.2 h1.2.2
theorem lowF_v : ∀ {l : List Sn}, (∀ s ∈ l, vS s = true) → ∀ s ∈ lowF l, vS s = true
 | [], _, s, hs => by simp [lowF, full] at hs
 | x :: l, h, s, hs => by
  rw [lowF_cons] at hs
  split at hs
  ·rcases List.mem_cons.1 hs with rfl | hs
   ·exact vS_low (h x (by simp))
   ·exact lowF_v (fun s hs => h s (by simp [hs])) s hs
  ·exact lowF_v (fun s hs => h s (by simp [hs])) s hs
theorem lowF_len : ∀ l : List Sn, (lowF l).length ≤ l.length
 | [] => by simp [lowF, full]
 | x :: l => by
  rw [lowF_cons]
  have := lowF_len l
  split <;> simp <;> omega
set_option maxHeartbeats 8000000 in
set_option maxRecDepth 100000 in
theorem clean_n (A0 : Option Addr) (c0 : Nat) (l : List Sn) (w : World) (hr : Kd.C k53 w A0 l.length l) (hl : l.length ≤ 1000000) (hv : ∀ s ∈ l, vS s = true) :
  Calls Tryz.prog 40 #[.slice A0 l.length c0] w (fun e w' => ∃ v, e = .returned v ∧ Js w w' v (clnL l)) := by
 have hu := Tryz.underlying53
 have hu2 := Tryz.underlying24
 have HR := Aside0.mk (And.intro hr (And.intro hl hv))
 obtain ⟨V, hV⟩ : ∃ V, V = clnL l := ⟨_, rfl⟩
 rw [← hV]
 have HV := Aside0.mk hV
 clear hr hl hv hV
 go_enter Tryz.func40, Tryz.ntmps40
 go_wp2_with fail
 go_loopg [3, 8] l.length (fun kq v3 v8 w' => ∃ (out : List Sn) (i : Int), v8 = .int .i64 i ∧ Aside0 (0 ≤ i ∧ i + kq = l.length ∧ out.length ≤ i.toNat) ∧ Aside0 (Js w w' v3 out) ∧ Aside0 (lowF l = out ++ lowF (l.drop i.toNat)))
 case atStart => exact ⟨[], 0, rfl, ⟨by simp, by simp, by simp⟩, ⟨⟨Kd.R_nil _ _ _ _ _, Below.refl _ _⟩⟩, ⟨by simp⟩⟩
 case round =>
  obtain ⟨out, i, rfl, hi, hM, hL⟩ := hrel
  by_cases hlt : i < (l.length : Int)
  ·have p0 := hi.out.1
   have HD := Aside0.mk (any_drop (fun _ => true) l p0 hlt).2
   have HE := Aside0.mk (show l.drop i.toNat = rd_T53 l i :: l.drop (i + 1).toNat by
    have hn : i.toNat < l.length := by omega
    have hi2 : (i + 1).toNat = i.toNat + 1 := by omega
    have hg : rd_T53 l i = l[i.toNat] := by
     unfold rd_T53
     rw [List.getD_eq_getElem?_getD, List.getElem?_eq_getElem hn]
     rfl
    rw [hi2, hg, List.drop_eq_getElem_cons hn])
   obtain ⟨ad, hA, q0, q1, q2, q3⟩ := at_T53 (Kd.C_below HR.out.1 hM.out.below) i p0 hlt
   obtain ⟨k1, rfl⟩ : ∃ k, gk = k + 1 := ⟨gk - 1, by have := hi.out.2; omega⟩
   have hwi : wrap64 (i + 1) = i + 1 := by
    have := HR.out.2.1
    exact w64 (by omega) (by omega)
   have HX := Aside0.mk (HR.out.2.2 _ HD.out)
   generalize rd_T53 l i = X at *
   replace p0 := eq_true p0
   replace hlt := eq_true hlt
   subst hA
   go_upto_region 5 with fail
   have hB := Aside0.mk (show Below wr.heap.size wr (wr.alloc (snO X)) from below_alloc (Below.refl _ wr) _)
   have hX := Aside0.mk (show (wr.alloc (snO X)).heap[wr.heap.size]? = some (snO X) from blk_new wr _)
   unfold snO at hB hX
   generalize hW1 : World.alloc wr _ = W1 at hB hX
   have HX1 := Aside0.mk (show W1.heap[wr.heap.size]? = some (snO X) from hX.out)
   have HJ := Aside0.mk (show Js w W1 u3 out from ⟨Kd.R_below hM.out.r hB.out, hM.out.below.trans (hB.out.mono hM.out.below.size)⟩)
   clear hX hB hM hW1 q0 q1 q2 q3
   generalize wr.heap.size = G at *
   obtain ⟨q0, q1, q2, q3⟩ := sn_at HX1.out
   have HT := Aside0.mk (vS_is HX.out)
   go_wp2_with fail
   refine (cmpT_n HT.out.1 HT.out.2.1 W1).mono ?_
   rintro e w4 ⟨rfl, hb4⟩
   have HX4 := Aside0.mk (And.intro (blk_below HX1.out hb4) (show Js w w4 u3 out from ⟨Kd.R_below HJ.out.r hb4, HJ.out.below.trans (hb4.mono HJ.out.below.size)⟩))
   clear hb4 HX1 HJ q0 q1 q2 q3
   by_cases hc : qT X.f0 < qT X.f1
   ·rw [cq_lt hc]
    have HL2 := Aside0.mk (show lowF l = (out ++ [lS (qS X)]) ++ lowF (l.drop (i + 1).toNat) by
     rw [hL.out, HE.out, lowF_cons, if_pos hc, List.append_assoc]
     rfl)
    have HY := Aside0.mk (show qS X = (qT X.f0, qT X.f1) from rfl)
    clear hc hL
    go_upto_region 6 with fail
    have hb0 : Below w4.heap.size w4 w4.drew := below_drew' (Below.refl _ _)
    refine start_ (n := 19) (S := fun w' => w'.cell? ⟨G, 0, none⟩ = some (.int .i64 X.f0.f0) ∧ w'.cell? ⟨G, 1, none⟩ = some (.int .i64 X.f0.f1) ∧ w'.cell? ⟨G, 2, none⟩ = some (.int .i64 X.f1.f0) ∧ w'.cell? ⟨G, 3, none⟩ = some (.int .i64 X.f1.f1)) (ds := [16, 17]) (bs 19 0) (by kernel_rfl) rfl rfl ⟨(sn_at (blk_below HX4.out.1 hb0)).1, (sn_at (blk_below HX4.out.1 hb0)).2.1, (sn_at (blk_below HX4.out.1 hb0)).2.2.1, (sn_at (blk_below HX4.out.1 hb0)).2.2.2⟩ (fun hHeld => ?_)
    refine zP 0 18 19 1 ?_
    refine zP 1 19 19 3 ?_
    refine zP 2 20 19 7 ?_
    refine zP 4 22 19 23 ?_
    refine zP 5 23 19 55 ?_
    refine zP 8 26 19 311 ?_
    refine zP 9 27 19 823 ?_
    refine zP 11 29 19 2871 ?_
    refine zP 12 30 19 6967 ?_
    refine zT 3 21 19 6975 hHeld ?_
    refine zT 6 24 19 7039 hHeld ?_
    refine zT 10 28 19 8063 hHeld ?_
    refine zT 13 31 19 16255 hHeld ?_
    refine zN 7 (some 25) 19 16383 (fun K hK => ?_)
    refine zG Tryz.func88 #[.int .i64 X.f0.f0, .int .i64 X.f0.f1] ?_
    with_reducible refine (lowT_n HT.out.1 w4.drew).mono ?_
    rintro e w5 ⟨rfl, hb5⟩
    refine ⟨_, rfl, ?_⟩
    have hb5' := below_drew' hb5
    have H5 := Aside0.mk (And.intro (blk_below HX4.out.1 hb5') (show Js w w5 u3 out from ⟨Kd.R_below HX4.out.2.r hb5', HX4.out.2.below.trans (hb5'.mono HX4.out.2.below.size)⟩))
    clear hb5 hb5'
    refine hK.out _ _ ⟨(sn_at H5.out.1).1, (sn_at H5.out.1).2.1, (sn_at H5.out.1).2.2.1, (sn_at H5.out.1).2.2.2⟩ (fun hHeld => ?_)
    clear hK K
    refine zM 25 ?_
    refine zN 14 (some 32) 19 32767 (fun K hK => ?_)
    refine zG Tryz.func88 #[.int .i64 X.f1.f0, .int .i64 X.f1.f1] ?_
    with_reducible refine (lowT_n HT.out.2.1 w5).mono ?_
    rintro e w6 ⟨rfl, hb6⟩
    refine ⟨_, rfl, ?_⟩
    have H6 := Aside0.mk (And.intro (blk_below H5.out.1 hb6) (show Js w w6 u3 out from ⟨Kd.R_below H5.out.2.r hb6, H5.out.2.below.trans (hb6.mono H5.out.2.below.size)⟩))
    clear hb6
    refine hK.out _ _ ⟨(sn_at H6.out.1).1, (sn_at H6.out.1).2.1, (sn_at H6.out.1).2.2.1, (sn_at H6.out.1).2.2.2⟩ (fun hHeld => ?_)
    clear hK K
    refine zM 32 ?_
    refine zP 15 33 19 65535 ?_
    refine zL 16 (some 34) 19 131071 (fun K hK => ?_)
    refine value_ (v := .slice (some ⟨w6.heap.size, 0, none⟩) 1 1) (w1 := w6.alloc (.cells #[.int .i64 (lT (qT X.f0)).f0, .int .i64 (lT (qT X.f0)).f1, .int .i64 (lT (qT X.f1)).f0, .int .i64 (lT (qT X.f1)).f1] 53)) (by rfl) rfl ?_ ?_
    ·go_simp
    refine hK.out _ _ ?_
    clear hK K
    refine zM 34 ?_
    refine zL 17 (some 35) 19 262143 (fun K hK => ?_)
    refine Kd.R_append_step k53 (w0 := w) w.heap.size (by rfl) (.tmp 18) (.tmp 34) 22 53 (.agg #[(.int .i64 0), (.int .i64 0), (.int .i64 0), (.int .i64 0)]) 32 rfl Tryz.underlying22 info53 rfl (by decide) (by omega) u3 out (lS (qS X)) [.int .i64 (lT (qT X.f0)).f0, .int .i64 (lT (qT X.f0)).f1, .int .i64 (lT (qT X.f1)).f0, .int .i64 (lT (qT X.f1)).f1] (fun _ => True) (fun _ => False) rfl (by rfl) (k53_mkM _ _ _ (lS (qS X))) (fun _ hk => hk.elim) (fun k hk => trivial) H6.out.2.r H6.out.2.below H6.out.2.below.size (by have := hi.out; have := HR.out; omega) ?_
    intro v9 w9' ho hb hg hat
    have HS6 := Aside0.mk (show Js w w9' v9 (out ++ [lS (qS X)]) from ⟨ho, hb⟩)
    clear ho hb hg hat
    refine hK.out _ _ ?_
    clear hK K
    refine zM 35 ?_
    refine zP 18 3 19 524287 ?_
    refine done_ (by kernel_rfl) ?_
    clear HX4 H5 H6 hb0
    go_wp2_with fail
    go_roundg k1
    case measure => omega
    case rel => exact ⟨out ++ [lS (qS X)], i + 1, by rw [hwi], ⟨by have := hi.out; omega, by have := hi.out; omega, by have := hi.out; simp only [List.length_append, List.length_cons, List.length_nil] at this ⊢; omega⟩, HS6, HL2⟩
   ·obtain ⟨c, hc0, ec⟩ := cq_ge hc
    rw [ec]
    have HL2 := Aside0.mk (show lowF l = out ++ lowF (l.drop (i + 1).toNat) by
     rw [hL.out, HE.out, lowF_cons, if_neg hc])
    have hd : decide (c < 0) = false := decide_eq_false (by omega)
    clear hc ec hL hc0
    go_wp2_with fail
    go_roundg k1
    case measure => omega
    case rel => exact ⟨out, i + 1, by rw [hwi], ⟨by have := hi.out; omega, by have := hi.out; omega, by have := hi.out; omega⟩, ⟨HX4.out.2⟩, HL2⟩
  ·have hlb : decide (i < (l.length : Int)) = false := decide_eq_false hlt
   have HE := Aside0.mk (show lowF l = out by
    have hd : l.drop i.toNat = [] := List.drop_of_length_le (by have := hi.out; omega)
    rw [hL.out, hd]
    simp [lowF, full])
   have HJ := Aside0.mk hM.out
   have HO := Aside0.mk (show (∀ s ∈ out, vS s = true) ∧ out.length ≤ 1000000 by
    rw [← HE.out]
    have := lowF_len l
    have := HR.out.2.1
    exact ⟨lowF_v HR.out.2.2, by omega⟩)
   replace hlt := eq_false hlt
   clear hL hM hi
   rcases R_blk HJ.out.r with ⟨h3, h4⟩ | ⟨g, cap, h3, hg, hblk⟩
   ·subst h3 h4
    have HV2 := Aside0.mk (show mrgS [] = V by rw [HV.out, mrgS_sorted (l := l) (m := []) (by rw [HE.out]) (by simp)])
    have HB := Aside0.mk HJ.out.below
    clear HJ
    go_wp2_with fail
    refine (sort_none none 0 _ wr).mono ?_
    rintro e w5 ⟨rfl, hb5⟩
    have HB5 := Aside0.mk (HB.out.trans (hb5.mono HB.out.size))
    clear hb5 HB
    go_wp2_with fail
    refine (join_n none 0 [] w5 (Kd.C_nil _ _) (by simp) (by simp)).mono ?_
    rintro e w6 ⟨v6, rfl, hj⟩
    have HJ6 := Aside0.mk hj
    clear hj
    go_wp2_with fail
    go_ret
    refine ⟨_, rfl, ?_⟩
    rw [← HV2.out]
    exact ⟨Kd.R_lower HJ6.out.r HB5.out.size, HB5.out.trans (HJ6.out.below.mono HB5.out.size)⟩
   ·subst h3
    have HG := Aside0.mk (And.intro hg hblk)
    have HB := Aside0.mk HJ.out.below
    clear HJ hg hblk
    go_wp2_with fail
    refine (sort_n g cap out wr HG.out.2 HO.out.1 HO.out.2).mono ?_
    rintro e w5 ⟨rfl, d, hp, hs, hk, hb⟩
    have HV2 := Aside0.mk (show mrgS d = V by rw [HV.out, mrgS_sorted (l := l) (by rw [HE.out]; exact hp) hs])
    have HP := Aside0.mk (show (∀ s ∈ d, vS s = true) ∧ d.length ≤ 1000000 from ⟨fun s h => HO.out.1 s (hp.mem_iff.1 h), by rw [hp.length_eq]; exact HO.out.2⟩)
    have HB5 := Aside0.mk (And.intro hk (HB.out.trans (hb _ HG.out.1)))
    have hlen : out.length = d.length := hp.length_eq.symm
    rw [hlen]
    clear hp hs hk hb HB
    go_wp2_with fail
    refine (join_n (some ⟨g, 0, none⟩) cap d w5 (Kd.R_reads' (blk_R HB5.out.1 (Nat.zero_le g))).2.2 HP.out.2 HP.out.1).mono ?_
    rintro e w6 ⟨v6, rfl, hj⟩
    have HJ6 := Aside0.mk hj
    clear hj
    go_wp2_with fail
    go_ret
    refine ⟨_, rfl, ?_⟩
    rw [← HV2.out]
    exact ⟨Kd.R_lower HJ6.out.r HB5.out.2.size, HB5.out.2.trans (HJ6.out.below.mono HB5.out.2.size)⟩
end Go.Proofs.YtekommcfpjonmaaGreat.Xp
namespace Go.Proofs.YtekommcfpjonmaaGreat.E
open Go.RowKit Go Go.Proofs.YtekommcfpjonmaaGreatW.PrintWords Go.Proofs.YtekommcfpjonmaaGreatW.PrintLast Go.Proofs.YtekommcfpjonmaaGreatW.PrintMore Go.Proofs.YtekommcfpjonmaaGreat.Mn Go.Proofs.YtekommcfpjonmaaGreat.Nd Go.Proofs.YtekommcfpjonmaaGreat.Z Go.Proofs.YtekommcfpjonmaaGreat.Ea Go.Proofs.YtekommcfpjonmaaGreat.Ra Go.Proofs.YtekommcfpjonmaaGreat.Rb Go.Proofs.YtekommcfpjonmaaGreat.Rf Go.Proofs.YtekommcfpjonmaaGreat.Rd Go.Proofs.YtekommcfpjonmaaGreat.Sg Go.Proofs.YtekommcfpjonmaaGreat.Sx
set_option linter.unusedVariables false
set_option linter.unusedSimpArgs false
def tmT (q : Rat) : Tm × Int := if vT (lT q) = true then (lT q, 0) else (⟨0, 0⟩, 2)
def addT (a b : Tm) : Tm × Int := if vT a = true ∧ vT b = true then tmT (qT a + qT b) else (⟨0, 0⟩, 4)
def tT (r : Tm × Int) : Value := .tuple #[.agg #[.int .i64 r.1.f0, .int .i64 r.1.f1], .int .i64 r.2]
theorem qq_plus {a b c d : Int} (hb : b ≠ 0) (hd : d ≠ 0) : qq (a * d + c * b) (b * d) = qq a b + qq c d := (Rat.divInt_add_divInt a c hb hd).symm
theorem vLow_q {n d : Int} (hd : d ≠ 0) : vLow n d = tT (tmT (qq n d)) := by
 obtain ⟨h1, h2⟩ := rat_low (a := n) (b := d) hd
 unfold vLow tT tmT vT lT
 rw [h1, h2]
 split <;> rfl
theorem addT_n {a b : Tm} (ha : vT a = true) (hb : vT b = true) (w : World) : Calls Tryz.prog 39 #[.agg #[.int .i64 a.f0, .int .i64 a.f1], .agg #[.int .i64 b.f0, .int .i64 b.f1]] w (ValP w (tT (tmT (qT a + qT b)))) := by
 have h1 := vT_is ha
 have h2 := vT_is hb
 have h := xadd_n a.f0 a.f1 b.f0 b.f1 w ha hb
 rw [vLow_q (Int.ne_of_gt (Int.mul_pos (show 0 < a.f1 by omega) (show 0 < b.f1 by omega))), qq_plus (by omega) (by omega)] at h
 exact h
theorem AddT_n (a b : Tm) (w : World) : Calls Tryz.prog 26 #[.agg #[.int .i64 a.f0, .int .i64 a.f1], .agg #[.int .i64 b.f0, .int .i64 b.f1]] w (ValP w (tT (addT a b))) := by
 have h := Add_n a.f0 a.f1 b.f0 b.f1 w
 have e : vAdd a.f0 a.f1 b.f0 b.f1 = tT (addT a b) := by
  unfold vAdd addT
  by_cases hv : vT a = true ∧ vT b = true
  ·rw [if_pos hv]
   have h1 := vT_is hv.1
   have h2 := vT_is hv.2
   have h3 : (valid a.f0 a.f1 && valid b.f0 b.f1) = true := by
    rw [Bool.and_eq_true]
    exact hv
   rw [h3, if_pos rfl, vLow_q (Int.ne_of_gt (Int.mul_pos (show 0 < a.f1 by omega) (show 0 < b.f1 by omega))), qq_plus (by omega) (by omega)]
   rfl
  ·rw [if_neg hv, if_neg (fun h => hv (by rw [Bool.and_eq_true] at h; exact h))]
   rfl
 rw [e] at h
 exact h
def exact_Add.f (n1 d1 n2 d2 : Int) : Option (Int × Int × Int) := some ((addT ⟨n1, d1⟩ ⟨n2, d2⟩).1.f0, (addT ⟨n1, d1⟩ ⟨n2, d2⟩).1.f1, (addT ⟨n1, d1⟩ ⟨n2, d2⟩).2)
theorem exact_Add.calls (a0_0 a0_1 a1_0 a1_1 r1 r2 r3 : Int) (w : World) (h : exact_Add.f a0_0 a0_1 a1_0 a1_1 = some (r1, r2, r3)) :
  Calls Tryz.prog 26 #[.agg #[.int .i64 a0_0, .int .i64 a0_1], .agg #[.int .i64 a1_0, .int .i64 a1_1]] w fun e w' => e = .returned (.tuple #[.agg #[.int .i64 r1, .int .i64 r2], .int .i64 r3]) ∧ Below w.heap.size w w' := by
 have h1 := Option.some.inj h
 simp only [Prod.mk.injEq] at h1
 obtain ⟨rfl, rfl, rfl⟩ := h1
 exact AddT_n ⟨a0_0, a0_1⟩ ⟨a1_0, a1_1⟩ w
def dioramalaw02_awake.f : Option Bool := some true
theorem dioramalaw02_awake.calls (r : Bool) (w : World) (h : dioramalaw02_awake.f = some r) :
  Calls Tryz.prog 10 #[] w fun e w' => e = .returned (.bool r) ∧ Below w.heap.size w w' := by
 obtain rfl := Option.some.inj h
 exact Ee.awake_n w
end Go.Proofs.YtekommcfpjonmaaGreat.E
namespace Go.Proofs.YtekommcfpjonmaaGreat.E
open Go.RowKit Go Go.Proofs.YtekommcfpjonmaaGreatW.PrintWords Go.Proofs.YtekommcfpjonmaaGreatW.PrintLast Go.Proofs.YtekommcfpjonmaaGreatW.PrintMore Go.Proofs.YtekommcfpjonmaaGreat.Mn Go.Proofs.YtekommcfpjonmaaGreat.Nd Go.Proofs.YtekommcfpjonmaaGreat.Z Go.Proofs.YtekommcfpjonmaaGreat.Ea Go.Proofs.YtekommcfpjonmaaGreat.Rf Go.Proofs.YtekommcfpjonmaaGreat.Sg Go.Proofs.YtekommcfpjonmaaGreat.Sx Go.Proofs.YtekommcfpjonmaaGreat.Sy Go.Proofs.YtekommcfpjonmaaGreat.Xv Go.Proofs.YtekommcfpjonmaaGreat.Xj Go.Proofs.YtekommcfpjonmaaGreat.Xn Go.Proofs.YtekommcfpjonmaaGreat.Xp
set_option linter.unusedVariables false
set_option linter.unusedSimpArgs false
def shfR (t : Tm) : List Sn → List Sn → List Sn × Int
 | out, [] => (clnL out, 0)
 | out, s :: r => if (tmT (qT s.f0 + qT t)).2 = 0 then (if (tmT (qT s.f1 + qT t)).2 = 0 then shfR t (out ++ [⟨(tmT (qT s.f0 + qT t)).1, (tmT (qT s.f1 + qT t)).1⟩]) r else ([], 2)) else ([], 2)
def shfV (l : List Sn) (t : Tm) : List Sn × Int := if allV l = true ∧ vT t = true then shfR t [] l else ([], 4)
theorem tmT_v {q : Rat} (h : (tmT q).2 = 0) : (tmT q).1 = lT q ∧ vT (lT q) = true := by
 unfold tmT at h ⊢
 by_cases hv : vT (lT q) = true
 ·rw [if_pos hv]
  exact ⟨rfl, hv⟩
 ·rw [if_neg hv] at h
  cases h
theorem sum_n {a b : Tm} (ha : vT a = true) (hb : vT b = true) {N D E : Int} (h : tmT (qT a + qT b) = (⟨N, D⟩, E)) (w : World) : Calls Tryz.prog 39 #[.agg #[.int .i64 a.f0, .int .i64 a.f1], .agg #[.int .i64 b.f0, .int .i64 b.f1]] w (ValP w (.tuple #[.agg #[.int .i64 N, .int .i64 D], .int .i64 E])) := by
 have := addT_n ha hb w
 rw [h] at this
 exact this
structure Jt (w W : World) (t : Tm) (v : Value) (out : List Sn) : Prop where
 r : Kd.R k53 53 W w.heap.size (fun k => k ≠ w.heap.size) v out
 below : Below w.heap.size w W
 box : W.heap[w.heap.size]? = some (.cells #[.int .i64 t.f0, .int .i64 t.f1] 24 (0, 0))
theorem Jt.step {w W W2 : World} {t : Tm} {v : Value} {out : List Sn} (h : Jt w W t v out) (hb : Below W.heap.size W W2) : Jt w W2 t v out :=
 ⟨Kd.R_below h.r hb, h.below.trans (hb.mono h.below.size), blk_below h.box hb⟩
set_option maxHeartbeats 8000000 in
set_option maxRecDepth 100000 in
theorem shift_n (A0 : Option Addr) (c0 : Nat) (l : List Sn) (t : Tm) (w : World) (hr : Kd.C k53 w A0 l.length l) (hl : l.length ≤ 1000000) :
  Calls Tryz.prog 11 #[.slice A0 l.length c0, .agg #[.int .i64 t.f0, .int .i64 t.f1]] w (fun e w' => ∃ v, e = .returned (.tuple #[v, .int .i64 (shfV l t).2]) ∧ Js w w' v (shfV l t).1) := by
 have hu := Tryz.underlying53
 have hu2 := Tryz.underlying24
 have HR := Aside0.mk (And.intro hr hl)
 have hT := Aside0.mk (show (w.alloc (.cells #[.int .i64 t.f0, .int .i64 t.f1] 24 (0, 0))).heap[w.heap.size]? = some (.cells #[.int .i64 t.f0, .int .i64 t.f1] 24 (0, 0)) from blk_new w _)
 have hB := Aside0.mk (show Below w.heap.size w (w.alloc (.cells #[.int .i64 t.f0, .int .i64 t.f1] 24 (0, 0))) from below_alloc (Below.refl _ w) _)
 have HV := Aside0.mk (show shfV l t = if allV l = true ∧ vT t = true then shfR t [] l else ([], 4) from rfl)
 generalize shfV l t = V at *
 clear hr hl
 go_enter Tryz.func11, Tryz.ntmps11
 go_upto_region 1 with fail
 generalize World.alloc w _ = W at *
 obtain ⟨t0, t1, _, _⟩ := xc2 hT
 go_wp2_with fail
 refine (validSpans_n A0 c0 l W (Kd.C_below HR.out.1 hB.out) HR.out.2).mono ?_
 rintro e w3 ⟨rfl, hb3⟩
 have hB3 := Aside0.mk (hB.out.trans (hb3.mono hB.out.size))
 have hT3 := Aside0.mk (blk_below hT.out hb3)
 clear hb3 hB hT t0 t1
 obtain ⟨t0, t1, _, _⟩ := xc2 hT3
 obtain ⟨b, hb⟩ : ∃ b : Bool, b = allV l := ⟨_, rfl⟩
 rw [← hb]
 cases b with
 | false =>
  have HV2 := Aside0.mk (show V = ([], 4) by rw [HV.out, ← hb, if_neg (fun h => by cases h.1)])
  clear hb HV
  go_wp2_with fail
  go_ret2
  exact ⟨_, by rw [HV2.out]; rfl, by rw [HV2.out]; exact Kd.R_nil _ _ _ _ _, hB3.out⟩
 | true =>
  have HA := Aside0.mk hb
  clear hb
  go_wp2_with fail
  refine (Ea.Valid_n t.f0 t.f1 w3).mono ?_
  rintro e w4 ⟨rfl, hb4⟩
  have hB4 := Aside0.mk (hB3.out.trans (hb4.mono hB3.out.size))
  have hT4 := Aside0.mk (blk_below hT3.out hb4)
  clear hb4 hB3 hT3 t0 t1
  obtain ⟨b, hb⟩ : ∃ b : Bool, b = Ea.valid t.f0 t.f1 := ⟨_, rfl⟩
  rw [← hb]
  cases b with
  | false =>
   have HV2 := Aside0.mk (show V = ([], 4) by rw [HV.out, if_neg (fun h => by have := h.2; unfold vT at this; rw [← hb] at this; cases this)])
   clear hb HV
   go_wp2_with fail
   go_ret2
   exact ⟨_, by rw [HV2.out]; rfl, by rw [HV2.out]; exact Kd.R_nil _ _ _ _ _, hB4.out⟩
  | true =>
   have HT := Aside0.mk (show vT t = true from hb.symm)
   have HV2 := Aside0.mk (show V = shfR t [] l by rw [HV.out, if_pos ⟨HA.out.symm, HT.out⟩])
   have HAV := Aside0.mk (show ∀ s ∈ l, vS s = true from fun s hs => List.all_eq_true.1 HA.out.symm s hs)
   clear hb HV HA
   go_wp2_with fail
   go_loopg [6, 23] l.length (fun kq v6 v23 w' => ∃ (out : List Sn) (i : Int), v23 = .int .i64 i ∧ Aside0 (0 ≤ i ∧ i + kq = l.length ∧ out.length ≤ i.toNat) ∧ Aside0 (Jt w w' t v6 out ∧ ∀ s ∈ out, vS s = true) ∧ Aside0 (V = shfR t out (l.drop i.toNat)))
   case atStart => exact ⟨[], 0, rfl, ⟨by simp, by simp, by simp⟩, ⟨⟨Kd.R_nil _ _ _ _ _, hB4.out, hT4.out⟩, by simp⟩, ⟨by simpa using HV2.out⟩⟩
   case round =>
    clear hB4 hT4 HV2
    obtain ⟨out, i, rfl, hi, hM, hL⟩ := hrel
    by_cases hlt : i < (l.length : Int)
    ·have p0 := hi.out.1
     have HD := Aside0.mk (any_drop (fun _ => true) l p0 hlt).2
     have HE := Aside0.mk (show l.drop i.toNat = rd_T53 l i :: l.drop (i + 1).toNat by
      have hn : i.toNat < l.length := by omega
      have hi2 : (i + 1).toNat = i.toNat + 1 := by omega
      have hg : rd_T53 l i = l[i.toNat] := by
       unfold rd_T53
       rw [List.getD_eq_getElem?_getD, List.getElem?_eq_getElem hn]
       rfl
      rw [hi2, hg, List.drop_eq_getElem_cons hn])
     obtain ⟨ad, hA, q0, q1, q2, q3⟩ := at_T53 (Kd.C_below HR.out.1 hM.out.1.below) i p0 hlt
     obtain ⟨k1, rfl⟩ : ∃ k, gk = k + 1 := ⟨gk - 1, by have := hi.out.2; omega⟩
     have hwi : wrap64 (i + 1) = i + 1 := by
      have := HR.out.2
      exact w64 (by omega) (by omega)
     have HX := Aside0.mk (vS_is (HAV.out _ HD.out))
     generalize rd_T53 l i = X at *
     replace p0 := eq_true p0
     replace hlt := eq_true hlt
     subst hA
     have HL2 := Aside0.mk (show V = shfR t out (X :: l.drop (i + 1).toNat) by rw [hL.out, HE.out])
     obtain ⟨⟨⟨N0, D0⟩, E0⟩, h0⟩ : ∃ r, tmT (qT X.f0 + qT t) = r := ⟨_, rfl⟩
     obtain ⟨⟨⟨N1, D1⟩, E1⟩, h1⟩ : ∃ r, tmT (qT X.f1 + qT t) = r := ⟨_, rfl⟩
     have H0 := Aside0.mk (And.intro h0 h1)
     clear h0 h1 hL
     go_upto_region 7 with fail
     have hB := Aside0.mk (show Below wr.heap.size wr (wr.alloc (snO X)) from below_alloc (Below.refl _ wr) _)
     have hX := Aside0.mk (show (wr.alloc (snO X)).heap[wr.heap.size]? = some (snO X) from blk_new wr _)
     unfold snO at hB hX
     generalize hW1 : World.alloc wr _ = W1 at hB hX
     have HS := Aside0.mk (And.intro hX.out (hM.out.1.step hB.out))
     have HO := Aside0.mk hM.out.2
     clear hX hB hM hW1 q0 q1 q2 q3
     generalize wr.heap.size = G at *
     obtain ⟨q0, q1, q2, q3⟩ := sn_at (s := X) HS.out.1
     obtain ⟨t0, t1, _, _⟩ := xc2 (Aside0.mk HS.out.2.box)
     go_wp2_with fail
     refine (sum_n HX.out.1 HT.out H0.out.1 W1).mono ?_
     rintro e w5 ⟨rfl, hb5⟩
     have HS5 := Aside0.mk (And.intro (blk_below HS.out.1 hb5) (HS.out.2.step hb5))
     clear hb5 HS q0 q1 q2 q3 t0 t1
     go_upto_region 8 with fail
     have hB := Aside0.mk (show Below w5.heap.size w5 (w5.alloc (.cells #[.int .i64 N0, .int .i64 D0] 24 (0, 0))) from below_alloc (Below.refl _ w5) _)
     have hX := Aside0.mk (blk_new w5 (.cells #[.int .i64 N0, .int .i64 D0] 24 (0, 0)))
     generalize hW1 : World.alloc w5 _ = W6 at hB hX
     have HS6 := Aside0.mk (And.intro (blk_below HS5.out.1 hB.out) (And.intro hX.out (HS5.out.2.step hB.out)))
     clear hX hB hW1 HS5
     generalize w5.heap.size = G9 at *
     obtain ⟨q0, q1, q2, q3⟩ := sn_at (s := X) HS6.out.1
     obtain ⟨t0, t1, _, _⟩ := xc2 (Aside0.mk HS6.out.2.2.box)
     go_wp2_with fail
     refine (sum_n HX.out.2.1 HT.out H0.out.2 W6).mono ?_
     rintro e w7 ⟨rfl, hb7⟩
     have HS7 := Aside0.mk (And.intro (blk_below HS6.out.2.1 hb7) (HS6.out.2.2.step hb7))
     clear hb7 HS6 q0 q1 q2 q3 t0 t1
     go_upto_region 9 with fail
     have hB := Aside0.mk (show Below w7.heap.size w7 (w7.alloc (.cells #[.int .i64 N1, .int .i64 D1] 24 (0, 0))) from below_alloc (Below.refl _ w7) _)
     have hX := Aside0.mk (blk_new w7 (.cells #[.int .i64 N1, .int .i64 D1] 24 (0, 0)))
     generalize hW1 : World.alloc w7 _ = W8 at hB hX
     have HS8 := Aside0.mk (And.intro (blk_below HS7.out.1 hB.out) (And.intro hX.out (HS7.out.2.step hB.out)))
     clear hX hB hW1 HS7
     generalize w7.heap.size = G11 at *
     by_cases h0 : E0 = 0
     ·subst h0
      by_cases h1 : E1 = 0
      ·subst h1
       have HV3 := Aside0.mk (show V = shfR t (out ++ [⟨⟨N0, D0⟩, ⟨N1, D1⟩⟩]) (l.drop (i + 1).toNat) by
        rw [HL2.out, shfR, H0.out.1, H0.out.2, if_pos rfl, if_pos rfl])
       have HVS := Aside0.mk (show vS ⟨⟨N0, D0⟩, ⟨N1, D1⟩⟩ = true by
        have k0 := tmT_v (q := qT X.f0 + qT t) (by rw [H0.out.1])
        have k1 := tmT_v (q := qT X.f1 + qT t) (by rw [H0.out.2])
        rw [H0.out.1] at k0
        rw [H0.out.2] at k1
        have e0 : (⟨N0, D0⟩ : Tm) = lT (qT X.f0 + qT t) := k0.1
        have e1 : (⟨N1, D1⟩ : Tm) = lT (qT X.f1 + qT t) := k1.1
        unfold vS
        simp only [e0, e1, k0.2, k1.2, Bool.true_and, qT_lT, Bool.not_eq_true', decide_eq_false_iff_not]
        have := HX.out.2.2
        grind)
       clear HL2
       obtain ⟨a0, a1, _, _⟩ := xc2 (Aside0.mk HS8.out.1)
       obtain ⟨b0, b1, _, _⟩ := xc2 (Aside0.mk HS8.out.2.1)
       go_wp2_with (first | ((with_reducible refine gate_builtin (b := .append) (xs := #[.tmp 47, .tmp 51]) rfl ?_); at_builtin; refine Kd.R_append k53 (w0 := w) w.heap.size rfl (.tmp 47) (.tmp 51) 22 53 (.agg #[(.int .i64 0), (.int .i64 0), (.int .i64 0), (.int .i64 0)]) 32 rfl Tryz.underlying22 info53 rfl (by decide) (by omega) u6 out (⟨⟨N0, D0⟩, ⟨N1, D1⟩⟩ : Sn) [.int .i64 N0, .int .i64 D0, .int .i64 N1, .int .i64 D1] (fun k => k ≠ w.heap.size) (fun _ => False) rfl (by first | (go_simp; done) | (go_simp; rfl)) (k53_mkM _ _ _ (⟨⟨N0, D0⟩, ⟨N1, D1⟩⟩ : Sn)) (fun _ hk => hk.elim) (fun k hk he => by have := lt_of_some HS8.out.2.2.box; omega) HS8.out.2.2.r HS8.out.2.2.below HS8.out.2.2.below.size (by have := hi.out; have := HR.out; omega) ?_; intro v9 w9' ho hb hg hat; have HS9 := Aside0.mk (show Jt w w9' t v9 (out ++ [(⟨⟨N0, D0⟩, ⟨N1, D1⟩⟩ : Sn)]) from ⟨ho, hb, blk_grown HS8.out.2.2.box hg (fun he => HS8.out.2.2.r.1 _ he.symm rfl)⟩); clear ho hb hg hat))
       go_roundg k1
       case measure => omega
       case rel => exact ⟨out ++ [⟨⟨N0, D0⟩, ⟨N1, D1⟩⟩], i + 1, by rw [hwi], ⟨by have := hi.out; omega, by have := hi.out; omega, by have := hi.out; simp only [List.length_append, List.length_cons, List.length_nil] at this ⊢; omega⟩, ⟨HS9.out, fun s hs => by
        rcases List.mem_append.1 hs with hs | hs
        ·exact HO.out s hs
        ·rw [List.mem_singleton.1 hs]
         exact HVS.out⟩, HV3⟩
      ·have hb1 : (E1 != 0) = true := bne_iff_ne.mpr h1
       have HV3 := Aside0.mk (show V = ([], 2) by rw [HL2.out, shfR, H0.out.1, H0.out.2, if_pos rfl, if_neg h1])
       clear HL2 h1
       go_wp2_with fail
       go_ret2
       exact ⟨_, by rw [HV3.out]; rfl, by rw [HV3.out]; exact Kd.R_nil _ _ _ _ _, HS8.out.2.2.below⟩
     ·have hb0 : (E0 != 0) = true := bne_iff_ne.mpr h0
      have HV3 := Aside0.mk (show V = ([], 2) by rw [HL2.out, shfR, H0.out.1, if_neg h0])
      clear HL2 h0
      go_wp2_with fail
      go_ret2
      exact ⟨_, by rw [HV3.out]; rfl, by rw [HV3.out]; exact Kd.R_nil _ _ _ _ _, HS8.out.2.2.below⟩
    ·have hlb : decide (i < (l.length : Int)) = false := decide_eq_false hlt
     have HE := Aside0.mk (show V = (clnL out, 0) by
      have hd : l.drop i.toNat = [] := List.drop_of_length_le (by have := hi.out; omega)
      rw [hL.out, hd, shfR])
     have HJ := Aside0.mk hM.out
     have HN := Aside0.mk (show out.length ≤ 1000000 by have := hi.out; have := HR.out; omega)
     replace hlt := eq_false hlt
     clear hL hM hi
     obtain ⟨A1, c1, h3⟩ := Kd.R_slice HJ.out.1.r
     subst h3
     go_wp2_with fail
     refine (clean_n A1 c1 out wr (Kd.R_reads' HJ.out.1.r).2.2 HN.out HJ.out.2).mono ?_
     rintro e w6 ⟨v6, rfl, hj⟩
     have HJ6 := Aside0.mk hj
     clear hj
     go_wp2_with fail
     go_ret2
     refine ⟨_, by rw [HE.out]; rfl, ?_⟩
     rw [HE.out]
     exact ⟨Kd.R_lower HJ6.out.r HJ.out.1.below.size, HJ.out.1.below.trans (HJ6.out.below.mono HJ.out.1.below.size)⟩
end Go.Proofs.YtekommcfpjonmaaGreat.E
namespace Go.Proofs.YtekommcfpjonmaaGreat.E
open Go.RowKit Go Go.Proofs.YtekommcfpjonmaaGreatW.PrintWords Go.Proofs.YtekommcfpjonmaaGreatW.PrintLast Go.Proofs.YtekommcfpjonmaaGreatW.PrintMore Go.Proofs.YtekommcfpjonmaaGreat.Mn Go.Proofs.YtekommcfpjonmaaGreat.Nd Go.Proofs.YtekommcfpjonmaaGreat.Z Go.Proofs.YtekommcfpjonmaaGreat.Ea Go.Proofs.YtekommcfpjonmaaGreat.Rf Go.Proofs.YtekommcfpjonmaaGreat.Sg Go.Proofs.YtekommcfpjonmaaGreat.Sx Go.Proofs.YtekommcfpjonmaaGreat.Sy Go.Proofs.YtekommcfpjonmaaGreat.Xv Go.Proofs.YtekommcfpjonmaaGreat.Xj
set_option linter.unusedVariables false
set_option linter.unusedSimpArgs false
end Go.Proofs.YtekommcfpjonmaaGreat.E
namespace Go.Proofs.YtekommcfpjonmaaGreat.Sz
open Go.RowKit Go Go.Proofs.YtekommcfpjonmaaGreatW.PrintWords Go.Proofs.YtekommcfpjonmaaGreatW.PrintLast Go.Proofs.YtekommcfpjonmaaGreatW.PrintMore Go.Proofs.YtekommcfpjonmaaGreat.Mn Go.Proofs.YtekommcfpjonmaaGreat.Rf Go.Proofs.YtekommcfpjonmaaGreat.E Go.Proofs.YtekommcfpjonmaaGreat.Sg Go.Proofs.YtekommcfpjonmaaGreat.Sx Go.Proofs.YtekommcfpjonmaaGreat.Sy
set_option linter.unusedVariables false
set_option linter.unusedSimpArgs false
theorem jn_ends : ∀ (r : List Sq) (a s : Sq), s ∈ jn a r → (∃ x ∈ a :: r, x.1 = s.1) ∧ ∃ x ∈ a :: r, x.2 = s.2
 | [], a, s, h => by
  rw [jn] at h
  obtain rfl := List.mem_singleton.1 h
  exact ⟨⟨s, by simp, rfl⟩, ⟨s, by simp, rfl⟩⟩
 | x :: r, a, s, h => by
  rw [jn] at h
  split at h
  ·rcases List.mem_cons.1 h with rfl | h
   ·exact ⟨⟨s, by simp, rfl⟩, ⟨s, by simp, rfl⟩⟩
   ·obtain ⟨⟨y, hy, e1⟩, ⟨z, hz, e2⟩⟩ := jn_ends r x s h
    exact ⟨⟨y, List.mem_cons_of_mem _ hy, e1⟩, ⟨z, List.mem_cons_of_mem _ hz, e2⟩⟩
  ·obtain ⟨⟨y, hy, e1⟩, ⟨z, hz, e2⟩⟩ := jn_ends r _ s h
   constructor
   ·rcases List.mem_cons.1 hy with rfl | hy
    ·exact ⟨a, by simp, e1⟩
    ·exact ⟨y, by simp [hy], e1⟩
   ·rcases List.mem_cons.1 hz with rfl | hz
    ·unfold mxR at e2
     simp only at e2
     split at e2
     ·exact ⟨x, by simp, e2⟩
     ·exact ⟨a, by simp, e2⟩
    ·exact ⟨z, by simp [hz], e2⟩
theorem cnl_ends {l : List Sq} {s : Sq} (h : s ∈ cnl l) : (∃ x ∈ l, x.1 = s.1) ∧ ∃ x ∈ l, x.2 = s.2 := by
 have key : ∀ m : List Sq, s ∈ mrg m → (∃ x ∈ m, x.1 = s.1) ∧ ∃ x ∈ m, x.2 = s.2 := fun m hm => by
  cases m with
  | nil => cases hm
  | cons a r => exact jn_ends r a s hm
 obtain ⟨⟨x, hx, e1⟩, ⟨y, hy, e2⟩⟩ := key _ h
 exact ⟨⟨x, (List.mem_filter.1 (srt_mem.1 hx)).1, e1⟩, ⟨y, (List.mem_filter.1 (srt_mem.1 hy)).1, e2⟩⟩
theorem cn_lt : ∀ {l : List Sq}, Cn l → ∀ s ∈ l, s.1 < s.2
 | a :: l, h, s, hs => by
  rcases List.mem_cons.1 hs with rfl | hs
  ·exact h.1
  ·exact cn_lt h.2.2 s hs
theorem clnL_v {l : List Sn} (h : ∀ s ∈ l, vS s = true) : ∀ s ∈ clnL l, vS s = true := by
 intro s hs
 obtain ⟨q, hq, rfl⟩ := List.mem_map.1 hs
 obtain ⟨⟨x', hx', e1⟩, ⟨y', hy', e2⟩⟩ := cnl_ends hq
 obtain ⟨x, hx, rfl⟩ := List.mem_map.1 hx'
 obtain ⟨y, hy, rfl⟩ := List.mem_map.1 hy'
 have h1 := vT_low (vS_is (h x hx)).1
 have h2 := vT_low (vS_is (h y hy)).2.1
 have e1' : qT x.f0 = q.1 := e1
 have e2' : qT y.f1 = q.2 := e2
 have hlt := cn_lt (cnl_cn _) q hq
 rw [e1'] at h1
 rw [e2'] at h2
 unfold vS lS
 simp only [Bool.and_eq_true, Bool.not_eq_true', decide_eq_false_iff_not]
 refine ⟨h1, h2, ?_⟩
 rw [qT_lT, qT_lT]
 grind
theorem jn_len : ∀ (r : List Sq) (a : Sq), (jn a r).length ≤ r.length + 1
 | [], a => by simp [jn]
 | x :: r, a => by
  rw [jn]
  split
  ·have := jn_len r x
   simp only [List.length_cons]
   omega
  ·have := jn_len r (a.1, mxR a.2 x.2)
   simp only [List.length_cons]
   omega
theorem ins_len (a : Sq) : ∀ l : List Sq, (ins a l).length = l.length + 1
 | [] => rfl
 | x :: l => by
  rw [ins]
  split
  ·rfl
  ·simp only [List.length_cons, ins_len a l]
theorem srt_len : ∀ l : List Sq, (srt l).length = l.length
 | [] => rfl
 | a :: l => by rw [srt, ins_len, srt_len l, List.length_cons]
theorem clnL_len (l : List Sn) : (clnL l).length ≤ l.length := by
 unfold clnL cnl
 rw [List.length_map]
 have h1 : (full (l.map qS)).length ≤ l.length := by
  have := List.length_filter_le (fun s : Sq => decide (s.1 < s.2)) (l.map qS)
  rw [List.length_map] at this
  exact this
 have h2 := srt_len (full (l.map qS))
 generalize srt (full (l.map qS)) = m at *
 cases m with
 | nil => simp [mrg]
 | cons a r =>
  have := jn_len r a
  simp only [List.length_cons] at h2
  show (jn a r).length ≤ _
  omega
theorem of_allV {l : List Sn} (h : allV l = true) : ∀ s ∈ l, vS s = true := List.all_eq_true.1 h
theorem map_cln (l : List Sn) : (clnL l).map qS = cnl (l.map qS) := map_lS _
end Go.Proofs.YtekommcfpjonmaaGreat.Sz
namespace Go.Proofs.YtekommcfpjonmaaGreat.Rj
open Go.RowKit Go Go.Proofs.YtekommcfpjonmaaGreatW.PrintWords Go.Proofs.YtekommcfpjonmaaGreatW.PrintLast Go.Proofs.YtekommcfpjonmaaGreatW.PrintMore Go.Proofs.YtekommcfpjonmaaGreat.Mn Go.Proofs.YtekommcfpjonmaaGreat.Rf Go.Proofs.YtekommcfpjonmaaGreat.E Go.Proofs.YtekommcfpjonmaaGreat.Qr Go.Proofs.YtekommcfpjonmaaGreat.Qt Go.Proofs.YtekommcfpjonmaaGreat.Qu Go.Proofs.YtekommcfpjonmaaGreat.Sg Go.Proofs.YtekommcfpjonmaaGreat.Sx Go.Proofs.YtekommcfpjonmaaGreat.Sy Go.Proofs.YtekommcfpjonmaaGreat.Sz
set_option linter.unusedVariables false
set_option linter.unusedSimpArgs false
theorem rd_at (l : List Sn) {i : Int} (h0 : 0 ≤ i) (h1 : i < (l.length : Int)) : l.drop i.toNat = rd_T53 l i :: l.drop (i + 1).toNat ∧ rd_T53 l i ∈ l := by
 have hn : i.toNat < l.length := by omega
 have hi2 : (i + 1).toNat = i.toNat + 1 := by omega
 have hg : rd_T53 l i = l[i.toNat] := by
  unfold rd_T53
  rw [List.getD_eq_getElem?_getD, List.getElem?_eq_getElem hn]
  rfl
 rw [hi2, hg, List.drop_eq_getElem_cons hn]
 exact ⟨rfl, List.getElem_mem hn⟩
def inB (l : List Sq) (q : Rat) : Bool := l.any (fun s => !decide (q < s.1) && decide (q < s.2))
theorem inB_iff {l : List Sq} {q : Rat} : inB l q = true ↔ inS l q := by
 unfold inB inS
 rw [List.any_eq_true]
 constructor
 ·rintro ⟨s, hs, h⟩
  simp only [Bool.and_eq_true, Bool.not_eq_true', decide_eq_false_iff_not, decide_eq_true_eq] at h
  exact ⟨s, hs, Rat.not_lt.1 h.1, h.2⟩
 ·rintro ⟨s, hs, h⟩
  refine ⟨s, hs, ?_⟩
  simp only [Bool.and_eq_true, Bool.not_eq_true', decide_eq_false_iff_not, decide_eq_true_eq]
  exact ⟨Rat.not_lt.2 h.1, h.2⟩
def insU (q : Rat) : List Rat → List Rat
 | [] => [q]
 | x :: r => if x < q then x :: insU q r else (if x = q then x :: r else q :: x :: r)
def endQ : List Sq → List Rat
 | [] => []
 | s :: r => s.1 :: s.2 :: endQ r
def endR (R : List Rat) : List Rat → List Rat
 | [] => R
 | q :: t => endR (insU q R) t
def Us : List Rat → Prop
 | [] => True
 | x :: l => (∀ y ∈ l, x < y) ∧ Us l
theorem us_up : ∀ {l : List Rat}, Us l → Up l
 | [], _ => trivial
 | x :: l, h => ⟨fun y hy => by have := h.1 y hy; grind, us_up h.2⟩
theorem insU_mem {q y : Rat} : ∀ {l : List Rat}, y ∈ insU q l ↔ y = q ∨ y ∈ l
 | [] => by simp [insU]
 | x :: r => by
  rw [insU]
  split
  ·rw [List.mem_cons, insU_mem, List.mem_cons]
   constructor
   ·rintro (h | h | h) <;> simp [h]
   ·rintro (h | h | h) <;> simp [h]
  ·split
   ·rename_i h
    constructor
    ·intro h2
     exact .inr h2
    ·rintro (h2 | h2)
     ·rw [h2, ← h]
      simp
     ·exact h2
   ·rw [List.mem_cons]
theorem insU_us {q : Rat} : ∀ {l : List Rat}, Us l → Us (insU q l)
 | [], _ => ⟨by simp, trivial⟩
 | x :: r, h => by
  rw [insU]
  split
  ·rename_i hc
   refine ⟨fun y hy => ?_, insU_us h.2⟩
   rcases insU_mem.1 hy with rfl | hy
   ·exact hc
   ·exact h.1 y hy
  ·rename_i hc
   split
   ·exact h
   ·rename_i he
    have hq : q < x := by grind
    refine ⟨fun y hy => ?_, h⟩
    rcases List.mem_cons.1 hy with rfl | hy
    ·exact hq
    ·have := h.1 y hy
     grind
theorem insU_len {q : Rat} : ∀ l : List Rat, (insU q l).length ≤ l.length + 1
 | [] => by simp [insU]
 | x :: r => by
  rw [insU]
  have := insU_len (q := q) r
  split
  ·simp only [List.length_cons]
   omega
  ·split <;> simp
theorem endR_us : ∀ (t : List Rat) {R : List Rat}, Us R → Us (endR R t)
 | [], _, h => h
 | q :: t, _, h => endR_us t (insU_us h)
theorem endR_mem {y : Rat} : ∀ (t : List Rat) {R : List Rat}, y ∈ endR R t ↔ y ∈ R ∨ y ∈ t
 | [], R => by simp [endR]
 | q :: t, R => by
  rw [endR, endR_mem t, insU_mem, List.mem_cons]
  constructor
  ·rintro ((h | h) | h) <;> simp [h]
  ·rintro (h | h | h) <;> simp [h]
theorem endR_len : ∀ (t R : List Rat), (endR R t).length ≤ R.length + t.length
 | [], R => by simp [endR]
 | q :: t, R => by
  rw [endR]
  have := endR_len t (insU q R)
  have := insU_len (q := q) R
  simp only [List.length_cons]
  omega
def endL (l : List Sq) : List Rat := endR [] (endQ l)
theorem endQ_len : ∀ l : List Sq, (endQ l).length = 2 * l.length
 | [] => rfl
 | s :: r => by simp only [endQ, List.length_cons, endQ_len r]; omega
theorem endQ_mem {y : Rat} : ∀ {l : List Sq}, y ∈ endQ l ↔ ∃ s ∈ l, y = s.1 ∨ y = s.2
 | [] => by simp [endQ]
 | s :: r => by
  simp only [endQ, List.mem_cons, endQ_mem (l := r), exists_eq_or_imp]
  rw [or_assoc]
end Go.Proofs.YtekommcfpjonmaaGreat.Rj
namespace Go.Proofs.YtekommcfpjonmaaGreat.Rk
open Go.RowKit Go Go.Proofs.YtekommcfpjonmaaGreatW.PrintWords Go.Proofs.YtekommcfpjonmaaGreatW.PrintLast Go.Proofs.YtekommcfpjonmaaGreatW.PrintMore Go.Proofs.YtekommcfpjonmaaGreat.Mn Go.Proofs.YtekommcfpjonmaaGreat.Rf Go.Proofs.YtekommcfpjonmaaGreat.E Go.Proofs.YtekommcfpjonmaaGreat.Qr Go.Proofs.YtekommcfpjonmaaGreat.Qt Go.Proofs.YtekommcfpjonmaaGreat.Qu Go.Proofs.YtekommcfpjonmaaGreat.Sg Go.Proofs.YtekommcfpjonmaaGreat.Sx Go.Proofs.YtekommcfpjonmaaGreat.Sy Go.Proofs.YtekommcfpjonmaaGreat.Sz Go.Proofs.YtekommcfpjonmaaGreat.Rj
set_option linter.unusedVariables false
set_option linter.unusedSimpArgs false
def kp (how : Int) (x y : Bool) : Bool := if how = 0 then x || y else (if how = 1 then x && y else x && !y)
def fQ (how : Int) (A B : List Sq) (q : Rat) : Bool := kp how (inB A q) (inB B q)
def joQ (how : Int) (A B : List Sq) : List Sq := mrg (sgm (fQ how A B) (endL (A ++ B)))
theorem steady_in (A : List Sq) {E : List Rat} (h : ∀ s ∈ A, s.1 ∈ E ∧ s.2 ∈ E) : Steady (inB A) E := by
 intro x q hxq he
 have key : ∀ e ∈ E, decide (x < e) = decide (q < e) := fun e hm => by
  have := he e hm
  by_cases h1 : q < e
  ·rw [decide_eq_true h1, decide_eq_true (by grind)]
  ·rw [decide_eq_false h1, decide_eq_false (fun h2 => this ⟨h2, by grind⟩)]
 unfold inB
 induction A with
 | nil => rfl
 | cons s r ih =>
  rw [List.any_cons, List.any_cons, key _ (h s (by simp)).1, key _ (h s (by simp)).2, ih (fun s hs => h s (by simp [hs]))]
theorem joQ_is (how : Int) (A B : List Sq) : Cn (joQ how A B) ∧ ∀ q, inS (joQ how A B) q ↔ fQ how A B q = true := by
 have hm : ∀ y, y ∈ endL (A ++ B) ↔ ∃ s ∈ A ++ B, y = s.1 ∨ y = s.2 := fun y => by
  unfold endL
  rw [endR_mem, endQ_mem]
  simp
 have hA : ∀ s ∈ A, s.1 ∈ endL (A ++ B) ∧ s.2 ∈ endL (A ++ B) := fun s hs => ⟨(hm _).2 ⟨s, by simp [hs], .inl rfl⟩, (hm _).2 ⟨s, by simp [hs], .inr rfl⟩⟩
 have hB : ∀ s ∈ B, s.1 ∈ endL (A ++ B) ∧ s.2 ∈ endL (A ++ B) := fun s hs => ⟨(hm _).2 ⟨s, by simp [hs], .inl rfl⟩, (hm _).2 ⟨s, by simp [hs], .inr rfl⟩⟩
 refine mrg_sgm (us_up (endR_us _ trivial)) (fun x q hxq he => ?_) (fun q hq => ?_)
 ·unfold fQ
  rw [steady_in A hA x q hxq he, steady_in B hB x q hxq he]
 ·have : inB A q = true ∨ inB B q = true := by
   unfold fQ kp at hq
   cases h1 : inB A q <;> cases h2 : inB B q <;> simp_all
  rcases this with h | h
  ·obtain ⟨s, hs, h1, h2⟩ := inB_iff.1 h
   exact ⟨⟨_, (hA s hs).1, h1⟩, ⟨_, (hA s hs).2, h2⟩⟩
  ·obtain ⟨s, hs, h1, h2⟩ := inB_iff.1 h
   exact ⟨⟨_, (hB s hs).1, h1⟩, ⟨_, (hB s hs).2, h2⟩⟩
theorem joQ_or (A B : List Sq) : joQ 0 A B = cnl (A ++ B) := cnl_of (joQ_is 0 A B).1 (fun q => by
 rw [(joQ_is 0 A B).2 q, inS_app, ← inB_iff, ← inB_iff]
 unfold fQ kp
 simp)
theorem joQ_uniq {how : Int} {A B m : List Sq} (hc : Cn m) (h : ∀ q, inS m q ↔ fQ how A B q = true) : m = joQ how A B := cn_uniq m _ hc (joQ_is how A B).1 (fun q => (h q).trans ((joQ_is how A B).2 q).symm)
end Go.Proofs.YtekommcfpjonmaaGreat.Rk
namespace Go.Proofs.YtekommcfpjonmaaGreat.Um
open Go.RowKit Go Go.Proofs.YtekommcfpjonmaaGreatW.PrintWords Go.Proofs.YtekommcfpjonmaaGreatW.PrintLast Go.Proofs.YtekommcfpjonmaaGreatW.PrintMore Go.Proofs.YtekommcfpjonmaaGreat.Mn Go.Proofs.YtekommcfpjonmaaGreat.Rf Go.Proofs.YtekommcfpjonmaaGreat.E Go.Proofs.YtekommcfpjonmaaGreat.Sg Go.Proofs.YtekommcfpjonmaaGreat.Sx Go.Proofs.YtekommcfpjonmaaGreat.Sy Go.Proofs.YtekommcfpjonmaaGreat.Sz Go.Proofs.YtekommcfpjonmaaGreat.Rj Go.Proofs.YtekommcfpjonmaaGreat.Rk
set_option linter.unusedVariables false
set_option linter.unusedSimpArgs false
def endT : List Sn → List Tm
 | [] => []
 | s :: r => s.f0 :: s.f1 :: endT r
theorem endT_lS : ∀ l : List Sq, endT (l.map lS) = (endQ l).map lT
 | [] => rfl
 | s :: r => by
  rw [List.map_cons, endT, endT_lS r]
  rfl
theorem endT_len : ∀ l : List Sn, (endT l).length = 2 * l.length
 | [] => rfl
 | s :: r => by simp only [endT, List.length_cons, endT_len r]; omega
theorem endT_mem {x : Tm} : ∀ {l : List Sn}, x ∈ endT l ↔ ∃ s ∈ l, x = s.f0 ∨ x = s.f1
 | [] => by simp [endT]
 | s :: r => by
  simp only [endT, List.mem_cons, endT_mem (l := r), exists_eq_or_imp]
  rw [or_assoc]
def segL (f : Tm → Bool) : List Tm → List Sn
 | x :: y :: r => if qT x < qT y ∧ f x = true then ⟨x, y⟩ :: segL f (y :: r) else segL f (y :: r)
 | _ => []
theorem segL_lT (f : Rat → Bool) : ∀ R : List Rat, segL (fun t => f (qT t)) (R.map lT) = (sgm f R).map lS
 | [] => rfl
 | [x] => rfl
 | x :: y :: r => by
  have ih := segL_lT f (y :: r)
  simp only [List.map_cons] at ih ⊢
  rw [segL, sgm, qT_lT, qT_lT, ih]
  split <;> rfl
theorem segL_len (f : Tm → Bool) : ∀ R : List Tm, (segL f R).length ≤ R.length
 | [] => by simp [segL]
 | [x] => by simp [segL]
 | x :: y :: r => by
  have ih := segL_len f (y :: r)
  rw [segL]
  split
  ·simp only [List.length_cons] at ih ⊢
   omega
  ·simp only [List.length_cons] at ih ⊢
   omega
theorem segL_v (f : Tm → Bool) : ∀ R : List Tm, (∀ x ∈ R, vT x = true) → ∀ s ∈ segL f R, vS s = true
 | [], _, s, hs => by simp [segL] at hs
 | [x], _, s, hs => by simp [segL] at hs
 | x :: y :: r, h, s, hs => by
  have ih := segL_v f (y :: r) (fun z hz => h z (List.mem_cons_of_mem _ hz))
  rw [segL] at hs
  split at hs
  ·rename_i hc
   rcases List.mem_cons.1 hs with rfl | hs
   ·unfold vS
    simp only [Bool.and_eq_true, Bool.not_eq_true', decide_eq_false_iff_not]
    refine ⟨h x (by simp), h y (by simp), ?_⟩
    have := hc.1
    grind
   ·exact ih s hs
  ·exact ih s hs
theorem sorted_up : ∀ {d : List Tm}, (∀ i j : Nat, i < j → ∀ x y, d[i]? = some x → d[j]? = some y → ¬ qT y < qT x) → Up (d.map qT)
 | [], _ => trivial
 | a :: t, h => by
  refine ⟨fun y hy => ?_, sorted_up (fun i j hij x y hx hy => h (i + 1) (j + 1) (by omega) x y (by simpa using hx) (by simpa using hy))⟩
  obtain ⟨z, hz, rfl⟩ := List.mem_map.1 hy
  obtain ⟨j, hj, he⟩ := List.getElem_of_mem hz
  exact Rat.not_lt.1 (h 0 (j + 1) (by omega) a z rfl (by simp [List.getElem?_eq_getElem hj, he]))
theorem joQ_of {how : Int} {A B A' B' : List Sq} {R : List Rat} (hu : Up R) (hm : ∀ y, y ∈ R ↔ ∃ s ∈ A' ++ B', y = s.1 ∨ y = s.2) (hA : ∀ q, inB A' q = inB A q) (hB : ∀ q, inB B' q = inB B q) : mrg (sgm (fQ how A' B') R) = joQ how A B := by
 have h1 : ∀ s ∈ A', s.1 ∈ R ∧ s.2 ∈ R := fun s hs => ⟨(hm _).2 ⟨s, by simp [hs], .inl rfl⟩, (hm _).2 ⟨s, by simp [hs], .inr rfl⟩⟩
 have h2 : ∀ s ∈ B', s.1 ∈ R ∧ s.2 ∈ R := fun s hs => ⟨(hm _).2 ⟨s, by simp [hs], .inl rfl⟩, (hm _).2 ⟨s, by simp [hs], .inr rfl⟩⟩
 have h := mrg_sgm (f := fQ how A' B') hu (fun x q hxq he => by
  unfold fQ
  rw [steady_in A' h1 x q hxq he, steady_in B' h2 x q hxq he]) (fun q hq => by
  have : inB A' q = true ∨ inB B' q = true := by
   unfold fQ kp at hq
   cases h1 : inB A' q <;> cases h2 : inB B' q <;> simp_all
  rcases this with h | h
  ·obtain ⟨s, hs, k1, k2⟩ := inB_iff.1 h
   exact ⟨⟨_, (h1 s hs).1, k1⟩, ⟨_, (h1 s hs).2, k2⟩⟩
  ·obtain ⟨s, hs, k1, k2⟩ := inB_iff.1 h
   exact ⟨⟨_, (h2 s hs).1, k1⟩, ⟨_, (h2 s hs).2, k2⟩⟩)
 refine joQ_uniq h.1 (fun q => ?_)
 rw [h.2 q]
 unfold fQ
 rw [hA, hB]
theorem inB_cnl (A : List Sq) (q : Rat) : inB (cnl A) q = inB A q := by
 rw [Bool.eq_iff_iff, inB_iff, inB_iff]
 exact cnl_in A q
theorem chosen_is (how : Int) (a b : List Sn) {d : List Tm} (hp : d.Perm (endT (clnL a ++ clnL b))) (ho : ∀ i j : Nat, i < j → ∀ x y, d[i]? = some x → d[j]? = some y → ¬ qT y < qT x) : mrgS (segL (fun t => kp how (inB ((clnL a).map qS) (qT t)) (inB ((clnL b).map qS) (qT t))) d) = (joQ how (a.map qS) (b.map qS)).map lS := by
 have e1 : endT (clnL a ++ clnL b) = (endQ (cnl (a.map qS) ++ cnl (b.map qS))).map lT := by
  rw [← endT_lS, List.map_append]
  rfl
 rw [e1] at hp
 have ed : d = (d.map qT).map lT := by
  rw [List.map_map]
  conv => lhs; rw [← List.map_id d]
  refine List.map_congr_left (fun s hs => ?_)
  obtain ⟨q, hq, rfl⟩ := List.mem_map.1 (hp.mem_iff.1 hs)
  exact (congrArg lT (qT_lT q)).symm
 have hm : ∀ y, y ∈ d.map qT ↔ ∃ s ∈ cnl (a.map qS) ++ cnl (b.map qS), y = s.1 ∨ y = s.2 := fun y => by
  rw [← endQ_mem]
  constructor
  ·intro h
   obtain ⟨x, hx, rfl⟩ := List.mem_map.1 h
   obtain ⟨q, hq, rfl⟩ := List.mem_map.1 (hp.mem_iff.1 hx)
   rw [qT_lT]
   exact hq
  ·intro h
   exact List.mem_map.2 ⟨lT y, hp.mem_iff.2 (List.mem_map.2 ⟨y, h, rfl⟩), qT_lT y⟩
 rw [map_cln, map_cln]
 have hu := sorted_up ho
 generalize d.map qT = R at *
 subst ed
 rw [segL_lT (fun q => kp how (inB (cnl (a.map qS)) q) (inB (cnl (b.map qS)) q)) R, mrgS_lS]
 congr 1
 exact joQ_of hu hm (inB_cnl _) (inB_cnl _)
theorem head_in {A : List Sq} {pre : List Sq} {s : Sq} {r : List Sq} {q : Rat} (hc : Cn A) (he : A = pre ++ s :: r) (hp : ∀ x ∈ pre, x.2 ≤ q) (hs : ¬ s.2 ≤ q) : inB A q = decide (s.1 ≤ q) := by
 have hdrop : ∀ pre : List Sq, Cn (pre ++ s :: r) → Cn (s :: r) := fun pre => by
  induction pre with
  | nil => exact fun h => h
  | cons x t ih => exact fun h => ih h.2.2
 rw [Bool.eq_iff_iff, inB_iff, decide_eq_true_eq, he, inS_app, inS_cons]
 have hcs := hdrop pre (by rw [← he]; exact hc)
 constructor
 ·rintro (⟨x, hx, h1, h2⟩ | h | ⟨x, hx, h1, h2⟩)
  ·have := hp x hx
   grind
  ·exact h.1
  ·have := hcs.2.1 x hx
   grind
 ·intro h
  exact .inr (.inl ⟨h, by grind⟩)
theorem none_in {A : List Sq} {q : Rat} (hp : ∀ x ∈ A, x.2 ≤ q) : inB A q = false := by
 cases h : inB A q with
 | false => rfl
 | true =>
  obtain ⟨x, hx, h1, h2⟩ := inB_iff.1 h
  have := hp x hx
  grind
end Go.Proofs.YtekommcfpjonmaaGreat.Um
namespace Go.Proofs.YtekommcfpjonmaaGreat.Ru
open Go.RowKit Go Go.Proofs.YtekommcfpjonmaaGreatW.PrintWords Go.Proofs.YtekommcfpjonmaaGreatW.PrintLast Go.Proofs.YtekommcfpjonmaaGreatW.PrintMore Go.Proofs.YtekommcfpjonmaaGreat.Ml Go.Proofs.YtekommcfpjonmaaGreat.Mn Go.Proofs.YtekommcfpjonmaaGreat.Nd Go.Proofs.YtekommcfpjonmaaGreat.Z Go.Proofs.YtekommcfpjonmaaGreat.P Go.Proofs.YtekommcfpjonmaaGreat.Nc Go.Proofs.YtekommcfpjonmaaGreat.Nb Go.Proofs.YtekommcfpjonmaaGreat.Qa Go.Proofs.YtekommcfpjonmaaGreat.Qb Go.Proofs.YtekommcfpjonmaaGreat.Ea Go.Proofs.YtekommcfpjonmaaGreat.Eb Go.Proofs.YtekommcfpjonmaaGreat.Ec Go.Proofs.YtekommcfpjonmaaGreat.Ed Go.Proofs.YtekommcfpjonmaaGreat.Ee Go.Proofs.YtekommcfpjonmaaGreat.Ra Go.Proofs.YtekommcfpjonmaaGreat.Rb Go.Proofs.YtekommcfpjonmaaGreat.Rc Go.Proofs.YtekommcfpjonmaaGreat.Rd Go.Proofs.YtekommcfpjonmaaGreat.E
set_option linter.unusedVariables false
set_option linter.unusedSimpArgs false
set_option maxHeartbeats 8000000 in
set_option maxRecDepth 100000 in
theorem Sub_n (n1 d1 n2 d2 : Int) (w : World) :
  Calls Tryz.prog 46 #[tm n1 d1, tm n2 d2] w (ValP w (vSub n1 d1 n2 d2)) := by
 have hu := Tryz.underlying24
 have hB := Aside0.mk (Boxed.start w n1 d1 n2 d2)
 cases hv : (valid n1 d1 && valid n2 d2) with
 | false =>
  rw [show vSub n1 d1 n2 d2 = .tuple #[.agg #[.int .i64 0, .int .i64 0], .int .i64 4] by unfold vSub; rw [hv]; rfl]
  unfold tm
  go_enter Tryz.func46, Tryz.ntmps46
  go_wp2_with fail
  generalize hW : World.alloc (World.alloc _ _) _ = W
  have HB := Aside0.mk (show Boxed w W n1 d1 n2 d2 by rw [← hW]; exact hB.out)
  clear hW hB
  refine (valid2_n _ n1 d1 n2 d2 W HB.out.s).mono ?_
  rintro e w2 ⟨rfl, hb2⟩
  rw [hv]
  have HB2 := Aside0.mk (HB.out.step hb2)
  clear hb2 HB
  obtain ⟨r0, r1, r2, r3⟩ := time_cells HB2.out.r
  go_wp2_with fail
  refine bodyPost_ret (results_ct rfl _ _ (w.heap.size + 1 + 1) 24 #[.int .i64 0, .int .i64 0] (0, 0) _ rfl (blk_two HB2.out.r) Tryz.underlying24 rfl (by kernel_rfl)) rfl ?_
  exact ⟨rfl, (HB2.out.below.setCell (by simp; omega) _).setCell (by simp; omega) _⟩
 | true =>
  have hv2 := hv
  simp only [Bool.and_eq_true] at hv2
  have q1 := valid_bd hv2.1
  have q2 := valid_bd hv2.2
  obtain ⟨N, D, E, hV⟩ := vLow_form (n1 * d2 + -n2 * d1) (d1 * d2)
  have hC := fun w => xadd_n n1 d1 (-n2) d2 w hv2.1 (by unfold valid; simp; omega)
  rw [hV] at hC
  rw [show vSub n1 d1 n2 d2 = .tuple #[.agg #[.int .i64 N, .int .i64 D], .int .i64 E] by unfold vSub; rw [hv, ← hV]; rfl]
  have HC := Aside0.mk hC
  clear hC hV hv2
  unfold tm at HC
  unfold tm
  go_enter Tryz.func46, Tryz.ntmps46
  go_wp2_with fail
  generalize hW : World.alloc (World.alloc _ _) _ = W
  have HB := Aside0.mk (show Boxed w W n1 d1 n2 d2 by rw [← hW]; exact hB.out)
  clear hW hB
  refine (valid2_n _ n1 d1 n2 d2 W HB.out.s).mono ?_
  rintro e w2 ⟨rfl, hb2⟩
  rw [hv]
  have HB2 := Aside0.mk (HB.out.step hb2)
  clear hb2 HB
  obtain ⟨a0, a1, b0, b1⟩ := HB2.out.cells
  go_wp2_with fail
  refine (HC.out _).mono ?_
  rintro e w3 ⟨rfl, hb3⟩
  have HB3 := Aside0.mk (HB2.out.step hb3)
  obtain ⟨r0, r1, r2, r3⟩ := time_cells HB3.out.r
  clear hb3 HB2 a0 a1 b0 b1
  go_wp2_with fail
  refine bodyPost_ret (results_ct rfl _ _ (w.heap.size + 1 + 1) 24 #[.int .i64 N, .int .i64 D] (0, 0) _ rfl (blk_two HB3.out.r) Tryz.underlying24 rfl (by kernel_rfl)) rfl ?_
  exact ⟨rfl, (HB3.out.below.setCell (by simp; omega) _).setCell (by simp; omega) _⟩
end Go.Proofs.YtekommcfpjonmaaGreat.Ru
namespace Go.Proofs.YtekommcfpjonmaaGreat.E
open Go.RowKit Go Go.Proofs.YtekommcfpjonmaaGreatW.PrintWords Go.Proofs.YtekommcfpjonmaaGreatW.PrintLast Go.Proofs.YtekommcfpjonmaaGreatW.PrintMore Go.Proofs.YtekommcfpjonmaaGreat.Mn Go.Proofs.YtekommcfpjonmaaGreat.Nd Go.Proofs.YtekommcfpjonmaaGreat.Z Go.Proofs.YtekommcfpjonmaaGreat.Ea Go.Proofs.YtekommcfpjonmaaGreat.Ra Go.Proofs.YtekommcfpjonmaaGreat.Rb Go.Proofs.YtekommcfpjonmaaGreat.Rf Go.Proofs.YtekommcfpjonmaaGreat.Rd Go.Proofs.YtekommcfpjonmaaGreat.Ru Go.Proofs.YtekommcfpjonmaaGreat.Ee Go.Proofs.YtekommcfpjonmaaGreat.Sg Go.Proofs.YtekommcfpjonmaaGreat.Sx Go.Proofs.YtekommcfpjonmaaGreat.Sy Go.Proofs.YtekommcfpjonmaaGreat.Xv Go.Proofs.YtekommcfpjonmaaGreat.Xj Go.Proofs.YtekommcfpjonmaaGreat.Xn Go.Proofs.YtekommcfpjonmaaGreat.Xp
set_option linter.unusedVariables false
set_option linter.unusedSimpArgs false
def totR : Tm → List Sn → Tm × Int
 | s, [] => (s, 0)
 | s, x :: r => if (tmT (qT x.f1 - qT x.f0)).2 = 0 then (if (tmT (qT s + qT (tmT (qT x.f1 - qT x.f0)).1)).2 = 0 then totR (tmT (qT s + qT (tmT (qT x.f1 - qT x.f0)).1)).1 r else (⟨0, 0⟩, (tmT (qT s + qT (tmT (qT x.f1 - qT x.f0)).1)).2)) else (⟨0, 0⟩, (tmT (qT x.f1 - qT x.f0)).2)
def totV (l : List Sn) : Tm × Int := if allV l = true then totR ⟨0, 1⟩ (clnL l) else (⟨0, 0⟩, 4)
theorem sub_n {a b : Tm} (ha : vT a = true) (hb : vT b = true) {N D E : Int} (h : tmT (qT a - qT b) = (⟨N, D⟩, E)) (w : World) : Calls Tryz.prog 46 #[.agg #[.int .i64 a.f0, .int .i64 a.f1], .agg #[.int .i64 b.f0, .int .i64 b.f1]] w (ValP w (.tuple #[.agg #[.int .i64 N, .int .i64 D], .int .i64 E])) := by
 have h1 := vT_is ha
 have h2 := vT_is hb
 have k := Sub_n a.f0 a.f1 b.f0 b.f1 w
 have e : vSub a.f0 a.f1 b.f0 b.f1 = tT (tmT (qT a - qT b)) := by
  unfold vSub
  have h3 : (valid a.f0 a.f1 && valid b.f0 b.f1) = true := by
   rw [Bool.and_eq_true]
   exact ⟨ha, hb⟩
  rw [h3, if_pos rfl, vLow_q (Int.ne_of_gt (Int.mul_pos (show 0 < a.f1 by omega) (show 0 < b.f1 by omega))), qq_plus (by omega) (by omega)]
  have : qq (-b.f0) b.f1 = -qT b := by
   unfold qT qq
   exact (Rat.neg_divInt _ _).symm
  rw [this, ← Rat.sub_eq_add_neg]
  rfl
 rw [e, h] at k
 exact k
theorem vT_tm {q : Rat} {N D : Int} {E : Int} (h : tmT q = (⟨N, D⟩, E)) (h0 : E = 0) : vT ⟨N, D⟩ = true := by
 have := tmT_v (q := q) (by rw [h]; exact h0)
 rw [h] at this
 have e : (⟨N, D⟩ : Tm) = lT q := this.1
 rw [e]
 exact this.2
structure Ts (w W : World) (G B : Nat) (v : Value) (l : List Sn) (s : Tm) : Prop where
 r : Kd.R k53 53 W B (fun k => B ≤ k) v l
 res : W.heap[w.heap.size]? = some (.cells #[.int .i64 0, .int .i64 0] 24 (0, 0))
 sum : W.heap[G]? = some (.cells #[.int .i64 s.f0, .int .i64 s.f1] 24 (0, 0))
 lo : w.heap.size < G
 hi : G < B
 below : Below w.heap.size w W
theorem Ts.step {w W W2 : World} {G B : Nat} {v : Value} {l : List Sn} {s : Tm} (h : Ts w W G B v l s) (hb : Below W.heap.size W W2) : Ts w W2 G B v l s :=
 ⟨Kd.R_below h.r hb, blk_below h.res hb, blk_below h.sum hb, h.lo, h.hi, h.below.trans (hb.mono h.below.size)⟩
theorem blk2 {w : World} {g : Nat} {t : TypeId} {a b x y : Value} (h : w.heap[g]? = some (.cells #[a, b] t (0, 0))) : ((w.setCell ⟨g, 0, none⟩ x).setCell ⟨g, 1, none⟩ y).heap[g]? = some (.cells #[x, y] t (0, 0)) :=
 blk_put (cs := #[x, b]) (blk_put (cs := #[a, b]) h 0 x rfl) 1 y rfl
theorem Ts.put {w W : World} {G B : Nat} {v : Value} {l : List Sn} {s : Tm} (h : Ts w W G B v l s) (n d : Int) : Ts w ((W.setCell ⟨G, 0, none⟩ (.int .i64 n)).setCell ⟨G, 1, none⟩ (.int .i64 d)) G B v l ⟨n, d⟩ := by
 have hk : ∀ k, k ≠ G → ((W.setCell ⟨G, 0, none⟩ (.int .i64 n)).setCell ⟨G, 1, none⟩ (.int .i64 d)).heap[k]? = W.heap[k]? := fun k hk => by
  rw [Below.heap_setCell _ _ _ _ (by simpa using hk), Below.heap_setCell _ _ _ _ (by simpa using hk)]
 refine ⟨Kd.R_step h.r (fun k h1 _ => hk k (by have := h.hi; omega)), ?_, blk2 h.sum, h.lo, h.hi, (h.below.setCell (by have := h.lo; exact Nat.le_of_lt this) _).setCell (by have := h.lo; exact Nat.le_of_lt this) _⟩
 rw [hk _ (by have := h.lo; omega)]
 exact h.res
set_option maxHeartbeats 8000000 in
set_option maxRecDepth 100000 in
theorem total_n (A0 : Option Addr) (c0 : Nat) (l : List Sn) (w : World) (hr : Kd.C k53 w A0 l.length l) (hl : l.length ≤ 1000000) :
  Calls Tryz.prog 16 #[.slice A0 l.length c0] w (ValP w (tT (totV l))) := by
 have hu := Tryz.underlying53
 have hu2 := Tryz.underlying24
 have HR := Aside0.mk (And.intro hr hl)
 have HV := Aside0.mk (show tT (totV l) = if allV l = true then tT (totR ⟨0, 1⟩ (clnL l)) else tT (⟨0, 0⟩, 4) by unfold totV; split <;> rfl)
 generalize tT (totV l) = V at *
 have hX := Aside0.mk (blk_new w (.cells #[.int .i64 0, .int .i64 0] 24 (0, 0)))
 have hB := Aside0.mk (show Below w.heap.size w (w.alloc (.cells #[.int .i64 0, .int .i64 0] 24 (0, 0))) from below_alloc (Below.refl _ w) _)
 clear hr hl
 go_enter Tryz.func16, Tryz.ntmps16
 go_upto_region 1 with fail
 generalize World.alloc w _ = W at *
 go_wp2_with fail
 refine (validSpans_n A0 c0 l W (Kd.C_below HR.out.1 hB.out) HR.out.2).mono ?_
 rintro e w3 ⟨rfl, hb3⟩
 have hB3 := Aside0.mk (And.intro (blk_below hX.out hb3) (hB.out.trans (hb3.mono hB.out.size)))
 clear hb3 hB hX
 obtain ⟨b, hb⟩ : ∃ b : Bool, b = allV l := ⟨_, rfl⟩
 rw [← hb]
 cases b with
 | false =>
  have HV2 := Aside0.mk (show V = tT (⟨0, 0⟩, 4) by rw [HV.out, ← hb, if_neg (by decide)])
  obtain ⟨p0, p1, f0, f1⟩ := time_cells hB3.out.1
  clear hb HV
  go_wp2_with fail
  refine bodyPost_ret (results_ct rfl _ _ w.heap.size 24 #[.int .i64 0, .int .i64 0] (0, 0) _ rfl (blk2 hB3.out.1) Tryz.underlying24 rfl (by kernel_rfl)) rfl ?_
  exact ⟨by rw [HV2.out]; rfl, (hB3.out.2.setCell (Nat.le_refl _) _).setCell (Nat.le_refl _) _⟩
 | true =>
  have HV2 := Aside0.mk (show V = tT (totR ⟨0, 1⟩ (clnL l)) by rw [HV.out, ← hb, if_pos rfl])
  have HA := Aside0.mk (show ∀ s ∈ l, vS s = true from fun s hs => List.all_eq_true.1 hb.symm s hs)
  clear hb HV
  go_upto_region 4 with fail
  have h4 := Aside0.mk (And.intro (blk_new w3 (.cells #[.int .i64 0, .int .i64 1] 24 (0, 0))) (show Below w3.heap.size w3 (w3.alloc (.cells #[.int .i64 0, .int .i64 1] 24 (0, 0))) from below_alloc (Below.refl _ w3) _))
  generalize hW4 : World.alloc w3 _ = W4 at h4
  have HG := Aside0.mk (show w.heap.size < w3.heap.size by have := lt_of_some hB3.out.1; exact this)
  have H4 := Aside0.mk (And.intro (blk_below hB3.out.1 h4.out.2) (And.intro h4.out.1 (hB3.out.2.trans (h4.out.2.mono hB3.out.2.size))))
  clear h4 hW4 hB3
  generalize w3.heap.size = G at *
  go_wp2_with fail
  refine (clean_n A0 c0 l W4 (Kd.C_below HR.out.1 H4.out.2.2) HR.out.2 HA.out).mono ?_
  rintro e w5 ⟨v5, rfl, hj⟩
  have HT := Aside0.mk (show Ts w w5 G W4.heap.size v5 (clnL l) ⟨0, 1⟩ from
   ⟨Kd.R_mono (Kd.R_bound hj.r) (fun k hk => hk.2.1), blk_below H4.out.1 hj.below, blk_below H4.out.2.1 hj.below, HG.out, lt_of_some H4.out.2.1, H4.out.2.2.trans (hj.below.mono H4.out.2.2.size)⟩)
  have HAV := Aside0.mk (show (∀ s ∈ clnL l, vS s = true) ∧ (clnL l).length ≤ 1000000 from ⟨Sz.clnL_v HA.out, by have := Sz.clnL_len l; have := HR.out.2; omega⟩)
  generalize clnL l = m at *
  obtain ⟨A5, c5, e5⟩ := Kd.R_slice HT.out.r
  subst e5
  clear hj H4 HR HA
  go_wp2_with fail
  go_loopg [8, 17] m.length (fun kq v8 v17 w' => ∃ (i : Int) (s : Tm), v17 = .int .i64 i ∧ Aside0 (0 ≤ i ∧ i + kq = m.length) ∧ Aside0 (Ts w w' G W4.heap.size (.slice A5 m.length c5) m s ∧ vT s = true) ∧ Aside0 (V = tT (totR s (m.drop i.toNat))))
  case atStart => exact ⟨0, ⟨0, 1⟩, rfl, ⟨by simp, by simp⟩, ⟨HT.out, by decide⟩, ⟨by simpa using HV2.out⟩⟩
  case round =>
   clear HT HV2
   obtain ⟨i, s, rfl, hi, hM, hL⟩ := hrel
   by_cases hlt : i < (m.length : Int)
   ·have p0 := hi.out.1
    have HD := Aside0.mk (any_drop (fun _ => true) m p0 hlt).2
    have HE := Aside0.mk (show m.drop i.toNat = rd_T53 m i :: m.drop (i + 1).toNat by
     have hn : i.toNat < m.length := by omega
     have hi2 : (i + 1).toNat = i.toNat + 1 := by omega
     have hg : rd_T53 m i = m[i.toNat] := by
      unfold rd_T53
      rw [List.getD_eq_getElem?_getD, List.getElem?_eq_getElem hn]
      rfl
     rw [hi2, hg, List.drop_eq_getElem_cons hn])
    obtain ⟨ad, hA, q0, q1, q2, q3⟩ := at_T53 (Kd.R_reads' hM.out.1.r).2.2 i p0 hlt
    obtain ⟨k1, rfl⟩ : ∃ k, gk = k + 1 := ⟨gk - 1, by have := hi.out.2; omega⟩
    have hwi : wrap64 (i + 1) = i + 1 := by
     have := HAV.out.2
     exact w64 (by omega) (by omega)
    have HX := Aside0.mk (vS_is (HAV.out.1 _ HD.out))
    generalize rd_T53 m i = X at *
    replace p0 := eq_true p0
    replace hlt := eq_true hlt
    subst hA
    have HL2 := Aside0.mk (show V = tT (totR s (X :: m.drop (i + 1).toNat)) by rw [hL.out, HE.out])
    obtain ⟨⟨⟨N0, D0⟩, E0⟩, h0⟩ : ∃ r, tmT (qT X.f1 - qT X.f0) = r := ⟨_, rfl⟩
    have H0 := Aside0.mk h0
    clear h0 hL
    go_upto_region 7 with fail
    have hB := Aside0.mk (show Below wr.heap.size wr (wr.alloc (snO X)) from below_alloc (Below.refl _ wr) _)
    have hX := Aside0.mk (show (wr.alloc (snO X)).heap[wr.heap.size]? = some (snO X) from blk_new wr _)
    unfold snO at hB hX
    generalize hW1 : World.alloc wr _ = W1 at hB hX
    have HS := Aside0.mk (And.intro (show W1.heap[wr.heap.size]? = some (snO X) from hX.out) (hM.out.1.step hB.out))
    have HO := Aside0.mk hM.out.2
    clear hX hB hM hW1 q0 q1 q2 q3
    generalize wr.heap.size = G6 at *
    obtain ⟨q0, q1, q2, q3⟩ := sn_at (s := X) HS.out.1
    go_wp2_with fail
    refine (sub_n HX.out.2.1 HX.out.1 H0.out W1).mono ?_
    rintro e w5 ⟨rfl, hb5⟩
    have HS5 := Aside0.mk (HS.out.2.step hb5)
    clear hb5 HS q0 q1 q2 q3
    go_upto_region 8 with fail
    have hB := Aside0.mk (show Below w5.heap.size w5 (w5.alloc (.cells #[.int .i64 N0, .int .i64 D0] 24 (0, 0))) from below_alloc (Below.refl _ w5) _)
    have hX := Aside0.mk (blk_new w5 (.cells #[.int .i64 N0, .int .i64 D0] 24 (0, 0)))
    generalize hW1 : World.alloc w5 _ = W6 at hB hX
    have HS6 := Aside0.mk (And.intro hX.out (HS5.out.step hB.out))
    clear hX hB hW1 HS5
    generalize w5.heap.size = G7 at *
    by_cases h0 : E0 = 0
    ·subst h0
     obtain ⟨⟨⟨N1, D1⟩, E1⟩, h1⟩ : ∃ r, tmT (qT s + qT ⟨N0, D0⟩) = r := ⟨_, rfl⟩
     have H1 := Aside0.mk h1
     clear h1
     have hv0 := vT_tm H0.out rfl
     have HV0 := Aside0.mk hv0
     clear hv0
     obtain ⟨a0, a1, _, _⟩ := time_cells HS6.out.1
     obtain ⟨b0, b1, bf0, bf1⟩ := time_cells HS6.out.2.sum
     go_wp2_with fail
     refine (sum_n HO.out HV0.out H1.out W6).mono ?_
     rintro e w7 ⟨rfl, hb7⟩
     have HS7 := Aside0.mk (HS6.out.2.step hb7)
     clear hb7 HS6 a0 a1 b0 b1 bf0 bf1
     obtain ⟨b0, b1, bf0, bf1⟩ := time_cells HS7.out.sum
     go_upto_region 10 with fail
     generalize hW8 : World.setCell (World.setCell w7 _ _) _ _ = W8
     have HS8 := Aside0.mk (show Ts w W8 G W4.heap.size (.slice (some ad) m.length c5) m ⟨N1, D1⟩ by rw [← hW8]; exact HS7.out.put N1 D1)
     clear hW8 HS7 b0 b1 bf0 bf1
     by_cases h1 : E1 = 0
     ·subst h1
      have HV3 := Aside0.mk (show V = tT (totR ⟨N1, D1⟩ (m.drop (i + 1).toNat)) by
       rw [HL2.out, totR, H0.out, H1.out, if_pos rfl, if_pos rfl])
      have HVN := Aside0.mk (vT_tm H1.out rfl)
      clear HL2
      go_wp2_with fail
      go_roundg k1
      case measure => omega
      case rel => exact ⟨i + 1, ⟨N1, D1⟩, by rw [hwi], ⟨by have := hi.out; omega, by have := hi.out; omega⟩, ⟨HS8.out, HVN.out⟩, HV3⟩
     ·have hb1 : (E1 != 0) = true := bne_iff_ne.mpr h1
      have HV3 := Aside0.mk (show V = tT (⟨0, 0⟩, E1) by rw [HL2.out, totR, H0.out, H1.out, if_pos rfl, if_neg h1])
      clear HL2 h1
      obtain ⟨r0, r1, rf0, rf1⟩ := time_cells HS8.out.res
      go_wp2_with fail
      refine bodyPost_ret (results_ct rfl _ _ w.heap.size 24 #[.int .i64 0, .int .i64 0] (0, 0) _ rfl (blk2 HS8.out.res) Tryz.underlying24 rfl (by kernel_rfl)) rfl ?_
      exact ⟨by rw [HV3.out]; rfl, (HS8.out.below.setCell (Nat.le_refl _) _).setCell (Nat.le_refl _) _⟩
    ·have hb0 : (E0 != 0) = true := bne_iff_ne.mpr h0
     have hb1 : (E0 == 0) = false := beq_eq_false_iff_ne.mpr h0
     have HV3 := Aside0.mk (show V = tT (⟨0, 0⟩, E0) by rw [HL2.out, totR, H0.out, if_neg h0])
     clear HL2 h0
     obtain ⟨r0, r1, rf0, rf1⟩ := time_cells HS6.out.2.res
     go_wp2_with fail
     refine bodyPost_ret (results_ct rfl _ _ w.heap.size 24 #[.int .i64 0, .int .i64 0] (0, 0) _ rfl (blk2 HS6.out.2.res) Tryz.underlying24 rfl (by kernel_rfl)) rfl ?_
     exact ⟨by rw [HV3.out]; rfl, (HS6.out.2.below.setCell (Nat.le_refl _) _).setCell (Nat.le_refl _) _⟩
   ·have hlb : decide (i < (m.length : Int)) = false := decide_eq_false hlt
    have HV3 := Aside0.mk (show V = tT (s, 0) by
     rw [hL.out, List.drop_of_length_le (by have := hi.out; omega), totR])
    obtain ⟨r0, r1, rf0, rf1⟩ := time_cells hM.out.1.res
    obtain ⟨b0, b1, bf0, bf1⟩ := time_cells hM.out.1.sum
    have HB := Aside0.mk hM.out.1
    replace hlt := eq_false hlt
    clear hL hM hi
    go_wp2_with fail
    refine bodyPost_ret (results_ct rfl _ _ w.heap.size 24 #[.int .i64 s.f0, .int .i64 s.f1] (0, 0) _ rfl (blk2 HB.out.res) Tryz.underlying24 rfl (by kernel_rfl)) rfl ?_
    exact ⟨by rw [HV3.out]; rfl, (HB.out.below.setCell (Nat.le_refl _) _).setCell (Nat.le_refl _) _⟩
def exact_Total.f (l : List Sn) : Option (Int × Int × Int) := if l.length ≤ 1000000 then some ((totV l).1.f0, (totV l).1.f1, (totV l).2) else none
theorem exact_Total.calls (A0 : Option Addr) (c0 : Nat) (l0 : List Sn) (r1 r2 r3 : Int) (w : World) (hr0 : Kd.C k53 w A0 l0.length l0) (hc0 : l0.length ≤ c0) (h : exact_Total.f l0 = some (r1, r2, r3)) :
  Calls Tryz.prog 16 #[.slice A0 l0.length c0] w fun e w' => e = .returned (.tuple #[.agg #[.int .i64 r1, .int .i64 r2], .int .i64 r3]) ∧ Below w.heap.size w w' := by
 unfold exact_Total.f at h
 by_cases hl : l0.length ≤ 1000000
 ·rw [if_pos hl] at h
  have h1 := Option.some.inj h
  simp only [Prod.mk.injEq] at h1
  obtain ⟨rfl, rfl, rfl⟩ := h1
  exact total_n A0 c0 l0 w hr0 hl
 ·rw [if_neg hl] at h
  cases h
end Go.Proofs.YtekommcfpjonmaaGreat.E
namespace Go.Proofs.YtekommcfpjonmaaGreat.E
open Go.RowKit Go Go.Proofs.YtekommcfpjonmaaGreatW.PrintWords Go.Proofs.YtekommcfpjonmaaGreatW.PrintLast Go.Proofs.YtekommcfpjonmaaGreatW.PrintMore Go.Proofs.YtekommcfpjonmaaGreat.Mn Go.Proofs.YtekommcfpjonmaaGreat.Nd Go.Proofs.YtekommcfpjonmaaGreat.Z Go.Proofs.YtekommcfpjonmaaGreat.Rf Go.Proofs.YtekommcfpjonmaaGreat.Sg Go.Proofs.YtekommcfpjonmaaGreat.Sx Go.Proofs.YtekommcfpjonmaaGreat.Sy Go.Proofs.YtekommcfpjonmaaGreat.Xv Go.Proofs.YtekommcfpjonmaaGreat.Xn Go.Proofs.YtekommcfpjonmaaGreat.Xp
set_option linter.unusedVariables false
set_option linter.unusedSimpArgs false
end Go.Proofs.YtekommcfpjonmaaGreat.E
namespace Go.Proofs.YtekommcfpjonmaaGreat.Rl
open Go.RowKit Go Go.Proofs.YtekommcfpjonmaaGreatW.PrintWords Go.Proofs.YtekommcfpjonmaaGreatW.PrintLast Go.Proofs.YtekommcfpjonmaaGreatW.PrintMore Go.Proofs.YtekommcfpjonmaaGreat.Mn Go.Proofs.YtekommcfpjonmaaGreat.Rf Go.Proofs.YtekommcfpjonmaaGreat.E Go.Proofs.YtekommcfpjonmaaGreat.Qr Go.Proofs.YtekommcfpjonmaaGreat.Qt Go.Proofs.YtekommcfpjonmaaGreat.Qu Go.Proofs.YtekommcfpjonmaaGreat.Sg Go.Proofs.YtekommcfpjonmaaGreat.Sx Go.Proofs.YtekommcfpjonmaaGreat.Sy Go.Proofs.YtekommcfpjonmaaGreat.Sz Go.Proofs.YtekommcfpjonmaaGreat.Rj Go.Proofs.YtekommcfpjonmaaGreat.Rk
set_option linter.unusedVariables false
set_option linter.unusedSimpArgs false
def comV (how : Int) (a b : List Sn) : List Sn × Int := if allV a = true ∧ allV b = true then ((joQ how (a.map qS) (b.map qS)).map lS, 0) else ([], 4)
end Go.Proofs.YtekommcfpjonmaaGreat.Rl

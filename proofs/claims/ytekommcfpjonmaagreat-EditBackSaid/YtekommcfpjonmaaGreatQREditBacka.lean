/-
  Short words for printed walks: a step of a region, a fact carried on to a later world, each with the script that shows it. Plain arithmetic of numbers written as lists of digits, the lowest first: values, bounds, comparison. No program in sight. Plain: what the printed functions over limbs (base 2^32) come to, as numbers. Words for whole numbers of any size in memory: where one lies, what it is worth, what a call that sets one leaves as it was.
-/
import Derived.Test.YtekommcfpjonmaaGreatQREditBackWMore
import Derived.Test.YtekommcfpjonmaaGreatQREditBackWTab
import Derived.Test.YtekommcfpjonmaaGreatQREditBackWRepsOne
import Derived.Test.YtekommcfpjonmaaGreatProg
import Derived.Below
import Derived.Tactics
import Derived.WalkKit
import Derived.KernelRfl
import Derived.RowKit3
import Derived.RowKit
import Derived.Deep.QuietTactic
import Derived.WideLaws
import Derived.Deep.Draws
import Derived.Deep.AppendLies
import Derived.Maps.AppendAt
import Derived.OwnWalk
import Derived.Laws.BytesArg
import Derived.Laws.MakeOwn
import Derived.Laws.OwnMore
import Derived.Deep.OwnRows
import Derived.Lib.ConvBytes
import Derived.Laws.Slices
import Derived.Deep.LoopGhost
import Derived.BigQuiet
import Derived.Deep.DeepCutAuto
import Derived.Deep.CutBlock
import Derived.Deep.RegionHeld3
import Derived.Laws.Rows
import Derived.Lib.AppendStr
import Derived.ArgAppend
import Derived.Laws.IdiomCopy
import Derived.OrdersHeld
import Derived.Laws.BitsLemmas
import Derived.WalkMore
import Derived.Test.YtekommcfpjonmaaGreatQREditBackWWords
import Derived.Test.YtekommcfpjonmaaGreatQREditBackWLast
import Derived.Test.YtekommcfpjonmaaGreatQREditBackWQPut
import Derived.Test.YtekommcfpjonmaaGreatQREditBackWApart
import Derived.Test.YtekommcfpjonmaaGreatQREditBackWArr
import Derived.Test.YtekommcfpjonmaaGreatQREditBackWZeros
import Derived.Test.YtekommcfpjonmaaGreatQREditBackWFoot
import Derived.Test.YtekommcfpjonmaaGreatQREditBackWKept
import Derived.Test.YtekommcfpjonmaaGreatQREditBackWShare
import Derived.Test.YtekommcfpjonmaaGreatQREditBackWN
import Derived.Test.YtekommcfpjonmaaGreatQREditBackWFootNe
import Derived.Test.YtekommcfpjonmaaGreatQREditBackWAt
import Derived.Test.YtekommcfpjonmaaGreatQREditBackWEqStruct
import Derived.Test.YtekommcfpjonmaaGreatQREditBackWNEv
import Derived.Lib.Hide
set_option linter.unusedVariables false
set_option linter.unusedSimpArgs false
set_option maxHeartbeats 8000000
set_option maxRecDepth 100000
namespace Go.Proofs.YtekommcfpjonmaaGreat.Z
open RowKit YtekommcfpjonmaaGreatW.PrintWords YtekommcfpjonmaaGreatW.PrintLast YtekommcfpjonmaaGreatW.PrintMore
set_option autoImplicit false
def bs (n m : Nat) : Array Bool := ((List.range n).map m.testBit).toArray
section
variable {P : Program} {ops : Array Oper} {Q : Exit → Act → World → Prop} {md : Region.Mode} {S : World → Prop} {ds : List Nat} {fuel : Nat} {l : Array Bool} {a a' : Act} {w : World}
theorem zP (i : Nat) (t : Tmp) (n m : Nat) {oi : Oper} {v : Value} (h : wpAnyLast P md ops Q S ds fuel (bs n m) a' w) (hi : ops[i]? = some oi := by rfl) (hN : oi.dst = some t := by rfl) (hc : anyB md ops l (bs n m) i = true := by kernel_rfl)
  (hQ : ∀ c a w, Q (.panic c) (a.put oi.dst v) w → Q (.panic c) a w := by exact fun _ _ _ h => h) (hy : Yields P ops oi v a := by exact Or.inl ⟨by rfl, by intro w'; go_simp; first | done | with_reducible rfl⟩)
  (ha : a.put (some t) v = a' := by simp only [Act.put, List.setIfInBounds_toArray, List.set_cons_zero, List.set_cons_succ, i64_w, i32_w]; rfl) : wpAnyLast P md ops Q S ds (fuel + 1) l a w := pure_ (bs n m) hi hN hc hQ hy ha h
theorem zO (i : Nat) (t : Tmp) (n m : Nat) {oi : Oper} (h : wpAnyLast P md ops Q S ds fuel (bs n m) a' w) (hi : ops[i]? = some oi := by rfl) (hN : oi.dst = some t := by rfl) (hc : anyB md ops l (bs n m) i = true := by kernel_rfl)
  (hQ : ∀ c a w, Q (.panic c) (a.put oi.dst undef) w → Q (.panic c) a w := by exact fun _ _ _ h => h) (hy : Yields P ops oi undef a := by exact Or.inr ⟨by rfl, rfl⟩)
  (ha : a.put (some t) undef = a' := by simp only [Act.put, List.setIfInBounds_toArray, List.set_cons_zero, List.set_cons_succ, i64_w, i32_w]; rfl) : wpAnyLast P md ops Q S ds (fuel + 1) l a w := pure_ (bs n m) hi hN hc hQ hy ha h
theorem zT (i : Nat) (t : Tmp) (n m : Nat) {oi : Oper} {v : Value} (hS : S w) (h : wpAnyLast P md ops Q S ds fuel (bs n m) a' w) (hi : ops[i]? = some oi := by rfl) (hN : oi.dst = some t := by rfl) (hc : takeB md ops ds l (bs n m) i = true := by kernel_rfl)
  (hQ : ∀ c a w, Q (.panic c) (a.put oi.dst v) w → Q (.panic c) a w := by exact fun _ _ _ h => h) (hy : YieldsIf P ops S oi v a := by exact Or.inl ⟨by rfl, by intro w' hS; (repeat (rcases hS with ⟨_, hS⟩)); go_simp; first | done | with_reducible rfl⟩)
  (ha : a.put (some t) v = a' := by simp only [Act.put, List.setIfInBounds_toArray, List.set_cons_zero, List.set_cons_succ, i64_w, i32_w]; rfl) : wpAnyLast P md ops Q S ds (fuel + 1) l a w := take_ (bs n m) hi hN hc hQ hy hS ha h
theorem zN (i : Nat) (N : Option Tmp) (n m : Nat) {oi : Oper}
  (h : ∀ K : Act → World → Prop, Shut (∀ a' w', S w' → (S w' → wpAnyLast P md ops Q S ds fuel (bs n m) a' w') → K a' w') → if Region.wanted oi (yielded ops a.tmps) = true then Oper.wp P oi a w K Q else K (a.put N undef) w)
  (hi : ops[i]? = some oi := by rfl) (hN : oi.dst = N := by rfl) (hc : readyB md ops l (bs n m) i = true := by kernel_rfl) (hd : i ∉ ds := by decide) : wpAnyLast P md ops Q S ds (fuel + 1) l a w := one_ (bs n m) hi hN hc hd h
theorem zL (i : Nat) (N : Option Tmp) (n m : Nat) {oi : Oper}
  (h : ∀ K : Act → World → Prop, Shut (∀ a' w', wpAnyLast P md ops Q S ds fuel (bs n m) a' w' → K a' w') → if Region.wanted oi (yielded ops a.tmps) = true then Oper.wp P oi a w K Q else K (a.put N undef) w)
  (hi : ops[i]? = some oi := by rfl) (hN : oi.dst = N := by rfl) (hc : readyB md ops l (bs n m) i = true := by kernel_rfl) (hd : i ∈ ds := by decide) : wpAnyLast P md ops Q S ds (fuel + 1) l a w := last_ (bs n m) hi hN hc hd h
theorem zM (t : Tmp) {N : Option Tmp} {v : Value} (h : wpAnyLast P md ops Q S ds fuel l a' w) (hN : N = some t := by rfl) (ha : a.put (some t) v = a' := by simp only [Act.put, List.setIfInBounds_toArray, List.set_cons_zero, List.set_cons_succ, i64_w, i32_w]; rfl) : wpAnyLast P md ops Q S ds fuel l (a.put N v) w := by
 subst hN
 exact norm_ ha h
theorem zG {oi : Oper} {N : Option Tmp} {K : Act → World → Prop} {f : FuncId} {fn : Func} {ar : Array Operand} {ts : Array TypeId} (hf : P.funcs[f]? = some fn) (args : Array Value)
  (h : Calls P f args w fun e w' => ∃ v, e = .returned v ∧ K (a.put N v) w') (hname : (fn.name == "runtime.NumGoroutine") = false := by kernel_rfl) (hb : fn.body.isSome = true := by rfl)
  (hw : Region.wanted oi (yielded ops a.tmps) = true := by rfl) (hN : oi.dst = N := by rfl) (hop : oi.op = .call { callee := .value (.func f), args := ar, argTypes := ts } := by rfl) (hargs : ar.map a.eval = args := by (try simp only [List.map_toArray, List.map_cons, List.map_nil]); first | done | rfl | (simp only [List.length_drop, List.length_take]; rfl)) :
  if Region.wanted oi (yielded ops a.tmps) = true then Oper.wp P oi a w K Q else K (a.put N undef) w := goes_ hf hname hb args hw hN hop hargs h
end
section
variable {P : Program} {ops : Array Oper} {Q : Exit → Act → World → Prop} {rest : List Oper} {oi : Oper} {a : Act} {w : World}
theorem zC (t : Tmp) {f : FuncId} {fn : Func} {ar : Array Operand} {ts : Array TypeId} (hf : P.funcs[f]? = some fn) (args : Array Value)
  (h : Calls P f args w fun e w' => ∃ v, e = .returned v ∧ wpList P ops Q rest (a.put (some t) v) w') (hd : oi.dst = some t := by rfl) (hg : oi.guard = none := by rfl) (hname : (fn.name == "runtime.NumGoroutine") = false := by kernel_rfl) (hb : fn.body.isSome = true := by rfl)
  (hop : oi.op = .call { callee := .value (.func f), args := ar, argTypes := ts } := by rfl) (hargs : ar.map a.eval = args := by (try simp only [List.map_toArray, List.map_cons, List.map_nil]); first | done | rfl | (simp only [List.length_drop, List.length_take]; rfl)) : wpList P ops Q (oi :: rest) a w := goesL_ (some t) hd hg hf hname hb args hop hargs h
theorem zB (N : Tmp) (t : TypeId) (cs : Array Value) (h : ∀ g, g = w.heap.size → ∀ w1, w1.heap[g]? = some (.cells cs t (0, 0)) → Below w.heap.size w w1 → wpList P ops Q rest (a.put oi.dst (.pointer (some ⟨g, 0, none⟩))) w1)
  (hgd : oi.guard = none := by rfl) (hd : oi.dst = some N := by rfl) (hrun : (execOp a.eval oi).run P w = .ok (.value (.pointer (some ⟨w.heap.size, 0, none⟩))) (w.alloc (.cells cs t (0, 0))) := by first | (go_simp; done) | (go_simp; rfl)) : wpList P ops Q (oi :: rest) a w := box_event hgd hd hrun h
end
section
variable {w w0 W W2 : World} {B : Nat}
theorem bz (h : Below B w W := by repeat (first | (with_reducible first | exact HB.out | apply below_alloc | apply pw_below_drewN | apply below_drew1) | exact HB.out | (with_reducible refine below_set ?_ (Aside0.out (by assumption))) | refine below_set ?_ (Aside0.out (by assumption)))) : Below B w W := h
theorem bp (hb : Below W.heap.size W W2) (h : Below w.heap.size w W := by exact bz) : Aside0 (Below w.heap.size w W2) := ⟨below_step h hb⟩
theorem sz (h : Below w.heap.size w W := by exact bz) : w.heap.size ≤ W.heap.size := below_size h
theorem gz {g : Nat} (hg : g = W.heap.size) (h : Below w.heap.size w W := by exact bz) : Aside0 (w.heap.size ≤ g) := ⟨by rw [hg]; exact below_size h⟩
theorem kz {g : Nat} {o : Obj} (h : W.heap[g]? = some o := by refine aB ?_; exact Aside0.out (by assumption)) : W.heap[g]? = some o := h
theorem kb {g : Nat} {o : Obj} (k : Aside0 (w0.heap[g]? = some o)) (hb : Below W.heap.size W W2) (h : W.heap[g]? = some o := by exact kz) : Aside0 (W2.heap[g]? = some o) := ⟨blk_below h hb⟩
theorem bl {g : Nat} {o : Obj} (k : Aside0 (w0.heap[g]? = some o)) (h : W.heap[g]? = some o := by exact kz) : g < W.heap.size := blk_lt h
theorem ct {g : Nat} {cs : Array Value} {t : TypeId} {v : Value} (h : Aside0 (w.heap[g]? = some (.cells cs t (0, 0)))) (o : Nat) (hv : cs[o]? = some v := by rfl) : w.cell? ⟨g, o, none⟩ = some v := (blk_cell h.out o).trans hv
theorem xc2 {g : Nat} {a b : Value} {t : TypeId} (h : Aside0 (w.heap[g]? = some (.cells #[a, b] t (0, 0)))) : w.cell? ⟨g, 0, none⟩ = some a ∧ w.cell? ⟨g, 1, none⟩ = some b ∧ w.frozen? ⟨g, 0, none⟩ = false ∧ w.frozen? ⟨g, 1, none⟩ = false := ⟨(blk_cell h.out 0).trans rfl, (blk_cell h.out 1).trans rfl, blk_frozen h.out 0, blk_frozen h.out 1⟩
theorem xc3 {g : Nat} {a b c : Value} {t : TypeId} (h : Aside0 (w.heap[g]? = some (.cells #[a, b, c] t (0, 0)))) : w.cell? ⟨g, 0, none⟩ = some a ∧ w.cell? ⟨g, 1, none⟩ = some b ∧ w.cell? ⟨g, 2, none⟩ = some c ∧ w.frozen? ⟨g, 0, none⟩ = false ∧ w.frozen? ⟨g, 1, none⟩ = false ∧ w.frozen? ⟨g, 2, none⟩ = false := ⟨(blk_cell h.out 0).trans rfl, (blk_cell h.out 1).trans rfl, (blk_cell h.out 2).trans rfl, blk_frozen h.out 0, blk_frozen h.out 1, blk_frozen h.out 2⟩
theorem xc4 {g : Nat} {a b c d : Value} {t : TypeId} (h : Aside0 (w.heap[g]? = some (.cells #[a, b, c, d] t (0, 0)))) : w.cell? ⟨g, 0, none⟩ = some a ∧ w.cell? ⟨g, 1, none⟩ = some b ∧ w.cell? ⟨g, 2, none⟩ = some c ∧ w.cell? ⟨g, 3, none⟩ = some d ∧ w.frozen? ⟨g, 0, none⟩ = false ∧ w.frozen? ⟨g, 1, none⟩ = false ∧ w.frozen? ⟨g, 2, none⟩ = false ∧ w.frozen? ⟨g, 3, none⟩ = false := ⟨(blk_cell h.out 0).trans rfl, (blk_cell h.out 1).trans rfl, (blk_cell h.out 2).trans rfl, (blk_cell h.out 3).trans rfl, blk_frozen h.out 0, blk_frozen h.out 1, blk_frozen h.out 2, blk_frozen h.out 3⟩
end
section
variable {α β : Type} {d : Kd α} {w w0 W : World} {A : Option Addr} {n : Nat} {xs : List α} {e base : Nat} {ok : Nat → Prop} {v : Value} {c : Nat}
theorem cz (k : Aside0 (d.C w A n xs)) (h : d.C W A n xs := by repeat (first | exact (Kd.C_below (Aside0.out (by assumption)) HB.out) | (with_reducible refine Kd.C_alloc ?_ _) | (with_reducible refine Kd.C_drewN ?_ _) | (with_reducible refine Kd.C_drew ?_))) : d.C W A n xs := h
theorem cr (k : Aside0 (d.R e w0 base ok (.slice A n c) xs)) (h : d.C W A xs.length xs := by repeat (first | exact (Kd.R_reads' (Aside0.out (by assumption))).2.2 | (with_reducible refine Kd.C_alloc ?_ _) | (with_reducible refine Kd.C_drewN ?_ _) | (with_reducible refine Kd.C_drew ?_))) : d.C W A xs.length xs := h
theorem rz (k : Aside0 (d.R e w0 base ok v xs)) (h : d.R e W base ok v xs := by refine aR ?_; exact Aside0.out (by assumption)) : d.R e W base ok v xs := h
theorem od {p : Prop} [Decidable p] (h : decide p = true := by first | (with_reducible assumption) | assumption) : p := of_decide_eq_true h
theorem cl {a : Addr} {v : Value} (k : Aside0 (Below w.heap.size w W)) (h : w.cell? a = some v) : W.cell? a = some v := (k.out.cell (World.block_lt_of_cell? w _ h)).trans h
theorem ob {x : Option α} {f : α → Option β} {r : β} (h : x.bind f = some r) : ∃ y, Aside0 (x = some y) ∧ f y = some r := by
 obtain ⟨y, h1, h2⟩ := Option.bind_eq_some_iff.mp h
 exact ⟨y, ⟨h1⟩, h2⟩
theorem bf {b : Bool} (h : ¬ b = true) : b = false := Bool.eq_false_iff.mpr h
theorem ez {a b : α} (h : a = b := by first | rfl | (simp <;> rfl) | (simp [*] <;> rfl)) : a = b := h
theorem jz {a b : α} (h : a = b := by first | rfl | (simp; done) | (simp [*]; done)) : a = b := h
end
end Go.Proofs.YtekommcfpjonmaaGreat.Z
namespace Go.Proofs.YtekommcfpjonmaaGreat
open Go.RowKit Go.Proofs.YtekommcfpjonmaaGreatW.PrintWords Go.Proofs.YtekommcfpjonmaaGreatW.PrintLast Go.Proofs.YtekommcfpjonmaaGreatW.PrintMore
theorem aQ {α : Type} {a b : α} (h : a = b := by simp only [putAll, Act.put, List.setIfInBounds_toArray, List.set_cons_zero, List.set_cons_succ, i64_w, i32_w]; rfl) : a = b := h
theorem aP {α : Type} {a b : α} (h : a = b := by simp only [putAll, Act.put, List.setIfInBounds_toArray, List.set_cons_zero, List.set_cons_succ, i64_w, i32_w]) : a = b := h
theorem aV {p q : Prop} (h : p) (f : p → q := by intro h; (with_reducible repeat (first | apply Kd.V_alloc | apply Kd.V_drewN | apply Kd.V_drew)); exact h) : q := f h
theorem aR {p q : Prop} (h : p) (f : p → q := by intro h; (with_reducible repeat (first | apply Kd.R_alloc | apply Kd.R_drewN | apply Kd.R_drew)); exact h) : q := f h
theorem aB {p q : Prop} (h : p) (f : p → q := by intro h; (with_reducible repeat (first | refine blk_drewN ?_ _ | refine blk_drew ?_ | refine blk_alloc ?_ _)); exact h) : q := f h
end Go.Proofs.YtekommcfpjonmaaGreat
namespace Go.Proofs.YtekommcfpjonmaaGreat.E
open Z RowKit YtekommcfpjonmaaGreatW.PrintWords YtekommcfpjonmaaGreatW.PrintLast YtekommcfpjonmaaGreatW.PrintMore
attribute [local go_sem] max2_int min2_int max_two min_two
def errW : Option Int → Value
 | none => .nilIface
 | some c => .iface 0 (.int .i64 c)
theorem errW_none : errW none = .nilIface := rfl
theorem errW_some (c : Int) : errW (some c) = .iface 0 (.int .i64 c) := rfl
theorem info3 : (Tryz.prog.info? 3).map (fun i => (i.zero, i.size, i.bytes)) = some (some (.int .i64 0), 1, 8) := by kernel_rfl
theorem info24 : (Tryz.prog.info? 24).map (fun i => (i.zero, i.size, i.bytes)) = some (some (.agg #[(.int .i64 0), (.int .i64 0)]), 2, 16) := by kernel_rfl
theorem info53 : (Tryz.prog.info? 53).map (fun i => (i.zero, i.size, i.bytes)) = some (some (.agg #[(.int .i64 0), (.int .i64 0), (.int .i64 0), (.int .i64 0)]), 4, 32) := by kernel_rfl
structure S67 where
 f0 : Int
 f1 : Int
 f2 : Int
 f3 : Int
def z67 : S67 := ⟨(0 : Int), (0 : Int), (0 : Int), (0 : Int)⟩
def k67 : Kd S67 := Kd.iso (Kd.pair (Kd.int .i64) (Kd.pair (Kd.int .i64) (Kd.pair (Kd.int .i64) (Kd.int .i64)))) (fun x : S67 => (x.f0, x.f1, x.f2, x.f3))
theorem k67_open {w : World} {x : S67} {cs : List Value} (h : k67.K w x cs) : cs = [.int .i64 x.f0, .int .i64 x.f1, .int .i64 x.f2, .int .i64 x.f3] := by
 obtain ⟨_, _, rfl, rfl, ⟨_, _, rfl, rfl, ⟨_, _, rfl, rfl, rfl⟩⟩⟩ := h
 exact rfl
theorem k67_mk (w : World) (x : S67)  : k67.K w x [.int .i64 x.f0, .int .i64 x.f1, .int .i64 x.f2, .int .i64 x.f3] := ⟨[.int .i64 x.f0], [.int .i64 x.f1, .int .i64 x.f2, .int .i64 x.f3], rfl, rfl, ⟨[.int .i64 x.f1], [.int .i64 x.f2, .int .i64 x.f3], rfl, rfl, ⟨[.int .i64 x.f2], [.int .i64 x.f3], rfl, rfl, rfl⟩⟩⟩
theorem k67_mkM (w : World) (base : Nat) (ok : Nat → Prop) (x : S67)  : k67.M w base ok x [.int .i64 x.f0, .int .i64 x.f1, .int .i64 x.f2, .int .i64 x.f3] := ⟨[.int .i64 x.f0], [.int .i64 x.f1, .int .i64 x.f2, .int .i64 x.f3], rfl, rfl, ⟨[.int .i64 x.f1], [.int .i64 x.f2, .int .i64 x.f3], rfl, rfl, ⟨[.int .i64 x.f2], [.int .i64 x.f3], rfl, rfl, rfl⟩⟩⟩
def rd_T67 (xs : List S67) (i : Int) : S67 := xs.getD i.toNat z67
theorem at_T67 {w : World} {A : Option Addr} {n : Nat} {xs : List S67} (h : Kd.C k67 w A n xs) (i : Int) (h0 : 0 ≤ i) (h1 : i < n) : ∃ ad , A = some ad ∧ w.cell? (ad.add (i.toNat * 4)) = some (.int .i64 (rd_T67 xs i).f0) ∧ w.cell? ⟨(ad.add (i.toNat * 4)).block, (ad.add (i.toNat * 4)).off + 1, none⟩ = some (.int .i64 (rd_T67 xs i).f1) ∧ w.cell? ⟨(ad.add (i.toNat * 4)).block, (ad.add (i.toNat * 4)).off + 2, none⟩ = some (.int .i64 (rd_T67 xs i).f2) ∧ w.cell? ⟨(ad.add (i.toNat * 4)).block, (ad.add (i.toNat * 4)).off + 3, none⟩ = some (.int .i64 (rd_T67 xs i).f3) := by
 obtain ⟨ad, c, e, _, hK, hc0⟩ := Kd.C_get h z67 i h0 h1
 have hc : ∀ j u, c[j]? = some u → w.cell? (ad.add (i.toNat * 4 + j)) = some u := hc0
 obtain rfl := k67_open hK
 exact ⟨ad, e, hc 0 _ rfl, by rw [← add_field _ _ 1 (by omega)]; exact hc 1 _ rfl, by rw [← add_field _ _ 2 (by omega)]; exact hc 2 _ rfl, by rw [← add_field _ _ 3 (by omega)]; exact hc 3 _ rfl⟩
structure S24 where
 f0 : Int
 f1 : Int
def z24 : S24 := ⟨(0 : Int), (0 : Int)⟩
def k24 : Kd S24 := Kd.iso (Kd.pair (Kd.int .i64) (Kd.int .i64)) (fun x : S24 => (x.f0, x.f1))
theorem k24_open {w : World} {x : S24} {cs : List Value} (h : k24.K w x cs) : cs = [.int .i64 x.f0, .int .i64 x.f1] := by
 obtain ⟨_, _, rfl, rfl, rfl⟩ := h
 exact rfl
theorem k24_openM {w : World} {base : Nat} {ok : Nat → Prop} {x : S24} {cs : List Value} (h : k24.M w base ok x cs) : cs = [.int .i64 x.f0, .int .i64 x.f1] := by
 obtain ⟨_, _, rfl, rfl, rfl⟩ := h
 exact rfl
theorem k24_mkM (w : World) (base : Nat) (ok : Nat → Prop) (x : S24)  : k24.M w base ok x [.int .i64 x.f0, .int .i64 x.f1] := ⟨[.int .i64 x.f0], [.int .i64 x.f1], rfl, rfl, rfl⟩
def rd_T24 (xs : List S24) (i : Int) : S24 := xs.getD i.toNat z24
theorem at_T24 {w : World} {A : Option Addr} {n : Nat} {xs : List S24} (h : Kd.C k24 w A n xs) (i : Int) (h0 : 0 ≤ i) (h1 : i < n) : ∃ ad , A = some ad ∧ w.cell? (ad.add (i.toNat * 2)) = some (.int .i64 (rd_T24 xs i).f0) ∧ w.cell? ⟨(ad.add (i.toNat * 2)).block, (ad.add (i.toNat * 2)).off + 1, none⟩ = some (.int .i64 (rd_T24 xs i).f1) := by
 obtain ⟨ad, c, e, _, hK, hc0⟩ := Kd.C_get h z24 i h0 h1
 have hc : ∀ j u, c[j]? = some u → w.cell? (ad.add (i.toNat * 2 + j)) = some u := hc0
 obtain rfl := k24_open hK
 exact ⟨ad, e, hc 0 _ rfl, by rw [← add_field _ _ 1 (by omega)]; exact hc 1 _ rfl⟩
structure S53 where
 f0 : S24
 f1 : S24
def z53 : S53 := ⟨z24, z24⟩
def k53 : Kd S53 := Kd.iso (Kd.pair k24 k24) (fun x : S53 => (x.f0, x.f1))
theorem k53_open {w : World} {x : S53} {cs : List Value} (h : k53.K w x cs) : cs = [.int .i64 x.f0.f0, .int .i64 x.f0.f1, .int .i64 x.f1.f0, .int .i64 x.f1.f1] := by
 obtain ⟨_, _, rfl, s0, s2⟩ := h
 obtain rfl := k24_open s0
 obtain rfl := k24_open s2
 exact rfl
theorem k53_openM {w : World} {base : Nat} {ok : Nat → Prop} {x : S53} {cs : List Value} (h : k53.M w base ok x cs) : cs = [.int .i64 x.f0.f0, .int .i64 x.f0.f1, .int .i64 x.f1.f0, .int .i64 x.f1.f1] := by
 obtain ⟨_, _, rfl, s0, s2⟩ := h
 obtain rfl := k24_openM s0
 obtain rfl := k24_openM s2
 exact rfl
theorem k53_mkM (w : World) (base : Nat) (ok : Nat → Prop) (x : S53)  : k53.M w base ok x [.int .i64 x.f0.f0, .int .i64 x.f0.f1, .int .i64 x.f1.f0, .int .i64 x.f1.f1] := ⟨[.int .i64 x.f0.f0, .int .i64 x.f0.f1], [.int .i64 x.f1.f0, .int .i64 x.f1.f1], rfl, (k24_mkM w base ok x.f0 ), (k24_mkM w base ok x.f1 )⟩
def rd_T53 (xs : List S53) (i : Int) : S53 := xs.getD i.toNat z53
theorem at_T53 {w : World} {A : Option Addr} {n : Nat} {xs : List S53} (h : Kd.C k53 w A n xs) (i : Int) (h0 : 0 ≤ i) (h1 : i < n) : ∃ ad , A = some ad ∧ w.cell? (ad.add (i.toNat * 4)) = some (.int .i64 (rd_T53 xs i).f0.f0) ∧ w.cell? ⟨(ad.add (i.toNat * 4)).block, (ad.add (i.toNat * 4)).off + 1, none⟩ = some (.int .i64 (rd_T53 xs i).f0.f1) ∧ w.cell? ⟨(ad.add (i.toNat * 4)).block, (ad.add (i.toNat * 4)).off + 2, none⟩ = some (.int .i64 (rd_T53 xs i).f1.f0) ∧ w.cell? ⟨(ad.add (i.toNat * 4)).block, (ad.add (i.toNat * 4)).off + 3, none⟩ = some (.int .i64 (rd_T53 xs i).f1.f1) := by
 obtain ⟨ad, c, e, _, hK, hc0⟩ := Kd.C_get h z53 i h0 h1
 have hc : ∀ j u, c[j]? = some u → w.cell? (ad.add (i.toNat * 4 + j)) = some u := hc0
 obtain rfl := k53_open hK
 exact ⟨ad, e, hc 0 _ rfl, by rw [← add_field _ _ 1 (by omega)]; exact hc 1 _ rfl, by rw [← add_field _ _ 2 (by omega)]; exact hc 2 _ rfl, by rw [← add_field _ _ 3 (by omega)]; exact hc 3 _ rfl⟩
mutual
def exact_gcd.j0 : Nat → Int → Int → Option (Int)
  | 0, _, _ => none
  | k + 1, x0, x1 => exact_gcd.l0 k x0 x1
def exact_gcd.l0 : Nat → Int → Int → Option (Int)
  | 0, _, _ => none
  | k + 1, x0, x1 => if x1 = 0 then (some x0) else (exact_gcd.l0 k x1 (Int.tmod x0 x1))
end
def exact_gcd.f (k : Nat) (a0 : Int) (a1 : Int) : Option (Int) := if a0 < 0 then (exact_gcd.j0 k (wrap64 (-a0)) a1) else (exact_gcd.j0 k a0 a1)
theorem exact_gcd.calls (k : Nat) (a0 : Int) (a1 : Int) (r : Int) (w : World) (h : exact_gcd.f k a0 a1 = some r) :
  Calls Tryz.prog 134 #[.int .i64 a0, .int .i64 a1] w fun e w' => e = .returned (.int .i64 r) ∧ Drawn0 w w' := by
 have H : (if a0 < 0 then (exact_gcd.j0 k (wrap64 (-a0)) a1) else (exact_gcd.j0 k a0 a1)) = some r := h; clear h; have HC3 := aS H; clear H
 go_enter Tryz.func134, Tryz.ntmps134
 go_upto_if 6 with (fail)
 repeat (go_quiet (fail); go_upto_if 6 with (fail))
 go_cut [0] (fun v0 wc => ∃ (kq : Nat) (x0_2 : Int), v0 = .int .i64 x0_2 ∧ Aside0 (exact_gcd.j0 kq x0_2 a1 = some r) ∧ Aside0 (kq ≤ k) ∧ Drawn0 w wc)
 case first =>
  have H := HC3.out; clear HC3
  by_cases c4 : a0 < 0
  ·rw [if_pos c4] at H; have c4b0 : decide (a0 < 0) = true := decide_eq_true c4; clear c4
   (first | rw [c4b0] | (simp only [i64_w, i32_w]; rw [c4b0]) | skip)
   have H' := aS H; clear H
   go_wp2
   repeat (go_quiet (fail); try go_wp2)
   go_meet
   case rel => exact ⟨_, (wrap64 (-a0)), jz, H', ⟨by first | omega | exact Nat.le_refl _⟩, by repeat (first | exact Drawn0.refl _ | apply Drawn0.step)⟩
  rw [if_neg c4] at H; have c4b0 : decide (a0 < 0) = false := decide_eq_false c4; clear c4
  (first | rw [c4b0] | (simp only [i64_w, i32_w]; rw [c4b0]) | skip)
  have H' := aS H; clear H
  go_wp2
  repeat (go_quiet (fail); try go_wp2)
  go_meet
  case rel => exact ⟨_, (a0), jz, H', ⟨by first | omega | exact Nat.le_refl _⟩, by repeat (first | exact Drawn0.refl _ | apply Drawn0.step)⟩
 case rest =>
  clear HC3
  try clear c1
  try clear p2
  try clear c4
  try clear c4b0
  obtain ⟨kq, x0_2, rfl, HA, HJ2, ⟨mc2, rfl⟩⟩ := hcut
  cases kq with
  | zero => exact absurd HA.out (by simp [exact_gcd.j0])
  | succ kj2 =>
   have H := HA.out; clear HA; simp only [exact_gcd.j0] at H; have H' := aS H; clear H
   go_wp2
   repeat (go_quiet (fail); try go_wp2)
   go_loopg [0, 1] kj2 (fun kq v0 v1 w' => ∃ (x0_2 : Int) (x1_2 : Int), v0 = .int .i64 x0_2 ∧ v1 = .int .i64 x1_2 ∧ Aside0 (exact_gcd.l0 kq x0_2 x1_2 = some r) ∧ Aside0 (kq ≤ kj2) ∧ Drawn0 w w')
   case atStart => exact ⟨(x0_2), (a1), jz, jz, H', ⟨Nat.le_refl _⟩, by repeat (first | exact Drawn0.refl _ | apply Drawn0.step)⟩
   case round =>
    clear H'
    try clear c1
    try clear c2
    try clear p2
    try clear c4
    try clear c4b0
    try clear p2
    obtain ⟨x0_2, x1_2, rfl, rfl, HA, HK2, ⟨m2, rfl⟩⟩ := hrel
    cases gk with
    | zero => exact absurd HA.out (by simp [exact_gcd.l0])
    | succ k2 =>
     have H := HA.out; clear HA; simp only [exact_gcd.l0] at H
     by_cases c5 : x1_2 = 0
     ·rw [if_pos c5] at H; have c5b0 : (x1_2 == 0) = true := beq_iff_eq.mpr c5; have c5b1 : (x1_2 != 0) = false := bne_eq_false_iff_eq.mpr c5; clear c5; obtain rfl := Option.some.inj H
      go_wp2
      repeat (go_quiet (fail); try go_wp2)
      go_ret
      exact ⟨by first | rfl | (simp; done) | (simp [*]; done), by repeat (first | exact Drawn0.refl _ | apply Drawn0.step)⟩
     rw [if_neg c5] at H; have c5b0 : (x1_2 == 0) = false := beq_eq_false_iff_ne.mpr c5; have c5b1 : (x1_2 != 0) = true := bne_iff_ne.mpr c5; have H' := aS H; clear H
     go_wp2
     repeat (go_quiet (fail); try go_wp2)
     go_roundg k2
     case measure => have := HJ2.out; have := HK2.out; omega
     case rel => exact ⟨(x1_2), (Int.tmod x0_2 x1_2), jz, jz, H', ⟨by have := HJ2.out; have := HK2.out; omega⟩, by repeat (first | exact Drawn0.refl _ | apply Drawn0.step)⟩
def exact_lowest.f (k : Nat) (a0 : Int) (a1 : Int) : Option (Int × Int) := (exact_gcd.f k a0 a1).bind fun t102 => (if t102 = 0 then (none) else (some (wrap64 (Int.tdiv a0 t102), wrap64 (Int.tdiv a1 t102))))
theorem exact_lowest.calls (k : Nat) (a0 : Int) (a1 : Int) (r1 : Int) (r2 : Int) (w : World) (h : exact_lowest.f k a0 a1 = some (r1, r2)) :
  Calls Tryz.prog 88 #[.int .i64 a0, .int .i64 a1] w fun e w' => e = .returned (.agg #[.int .i64 r1, .int .i64 r2]) ∧ Below w.heap.size w w' := by
 have hu24 := Tryz.underlying24; have HB := aS (Below.refl w.heap.size w); have H : ((exact_gcd.f k a0 a1).bind fun t102 => (if t102 = 0 then (none) else (some (wrap64 (Int.tdiv a0 t102), wrap64 (Int.tdiv a1 t102))))) = some (r1, r2) := h
 clear h; obtain ⟨t102, A3, H⟩ := ob H
 by_cases c4 : t102 = 0
 ·rw [if_pos c4] at H
  exact absurd H (by simp)
 rw [if_neg c4] at H; have c4b0 : (t102 == 0) = false := beq_eq_false_iff_ne.mpr c4; have c4b1 : (t102 != 0) = true := bne_iff_ne.mpr c4; simp only [Option.some.injEq, Prod.mk.injEq] at H; obtain ⟨rfl, rfl⟩ := H
 go_enter Tryz.func88, Tryz.ntmps88
 try go_wp2_with (first | ((with_reducible refine gate_dst (N := 4) rfl ?_); refine zB 4 24 #[.int .i64 0, .int .i64 0] ?_; intro gb101 hg w5 hbox hb; have BK101 := aS hbox; have GW101 := gz hg; have GE101 := gz hg; replace HB := bp hb; clear hb hbox hg) | ((with_reducible refine gate_callee (f := 134) rfl ?_); refine zC 8 Tryz.func134 #[.int .i64 a0, .int .i64 a1] ?_; (with_reducible refine (exact_gcd.calls k a0 a1 t102 _ A3.out).mono ?_); rintro e w' ⟨rfl, ⟨nd, rfl⟩⟩; refine ⟨_, rfl, ?_⟩; (try (rw [drewN_self w5]; generalize hq_ : World.drewN w5 _ = w5; have n0_ : Aside0 (w5.heap[gb101]? = some (.cells #[.int .i64 0, .int .i64 0] 24 (0, 0))) := ⟨by rw [← hq_]; exact kz⟩; have n1_ : Aside0 (Below w.heap.size w w5) := ⟨by rw [← hq_]; exact bz⟩; clear BK101 HB hq_; have BK101 := n0_; have HB := n1_; clear n0_ n1_))))
 replace BK101 := aS (blk_drew BK101.out); replace HB := aS (below_drew1 HB.out); refine start_ (n := 8) (S := fun w' => True) (ds := []) (bs 8 0) (by kernel_rfl) rfl rfl trivial (fun hHeld => ?_); generalize w5.drew = w6 at BK101 HB hHeld ⊢; refine zP 0 9 8 1 ?_; refine zP 1 10 8 3 ?_; refine zP 2 11 8 7 ?_; refine zP 3 12 8 15 ?_; refine zP 4 13 8 31 ?_; refine zP 5 14 8 63 ?_; refine zP 6 15 8 127 ?_; refine zN 7 none 8 255 (fun K hK => ?_); have hs7 : w6.cell? ⟨gb101, 0, none⟩ = some (.int .i64 0) := ct BK101 0; have hfs7 := blk_frozen BK101.out 0; have hs8 : w6.cell? ⟨gb101, 1, none⟩ = some (.int .i64 0) := ct BK101 1; have hfs8 := blk_frozen BK101.out 1; refine skip_ (w1 := ?_) (by rfl) rfl ?_ ?_
 rotate_left
 ·go_simp
  rfl
 refine hK.out _ _ trivial (fun hHeld => ?_); clear hK K; refine done_ (by kernel_rfl) ?_
 try go_wp2
 refine bodyPost_ret (results_cell_row rfl _ _ gb101 24 #[.int .i64 (wrap64 (Int.tdiv a0 t102)), .int .i64 (wrap64 (Int.tdiv a1 t102))] (0, 0) _ rfl (by refine aB ?_; refine blk_put (cs := #[.int .i64 (wrap64 (Int.tdiv a0 t102)), .int .i64 0]) ?_ 1 _ rfl; refine aB ?_; refine blk_put (cs := #[.int .i64 0, .int .i64 0]) ?_ 0 _ rfl; refine aB ?_; exact BK101.out) Tryz.underlying24 rfl (by kernel_rfl)) rfl ?_
 exact ⟨ez, bz⟩
def edit_isScale.f (a0 : Int) : Option (Bool) := if a0 ≥ 1 then (some (decide (a0 ≤ 1000000))) else (some false)
theorem edit_isScale.calls (a0 : Int) (r : Bool) (w : World) (h : edit_isScale.f a0 = some r) :
  Calls Tryz.prog 107 #[.int .i64 a0] w fun e w' => e = .returned (.bool r) ∧ Drawn0 w w' := by
 have H : (if a0 ≥ 1 then (some (decide (a0 ≤ 1000000))) else (some false)) = some r := h; clear h
 by_cases c2 : a0 ≥ 1
 ·rw [if_pos c2] at H; have c2b0 : decide (1 ≤ a0) = true := decide_eq_true c2; clear c2; obtain rfl := Option.some.inj H
  go_enter Tryz.func107, Tryz.ntmps107
  go_wp2
  go_ret
  exact ⟨by first | rfl | (simp; done) | (simp [*]; done), by repeat (first | exact Drawn0.refl _ | apply Drawn0.step)⟩
 rw [if_neg c2] at H; have c2b0 : decide (1 ≤ a0) = false := decide_eq_false c2; clear c2; obtain rfl := Option.some.inj H
 go_enter Tryz.func107, Tryz.ntmps107
 go_wp2
 go_ret
 exact ⟨by first | rfl | (simp; done) | (simp [*]; done), by repeat (first | exact Drawn0.refl _ | apply Drawn0.step)⟩
def edit_valid.f (a0_0 : Int) (a0_1 : Int) (a0_2 : Int) (a0_3 : Int) : Option (Bool) := if a0_0 < 1 then (some false) else (if a0_0 > 1099511627776 then (some false) else (if a0_1 < (-1) then (some false) else (if a0_1 > 1099511627776 then (some false) else (if a0_2 < 0 then (some false) else (if a0_2 > 1000 then (some false) else (if a0_3 < 1 then (some false) else (if a0_3 > 1000 then (some false) else (if a0_1 ≥ 0 then (some true) else (if a0_2 = 1 then (some (a0_3 == 1)) else (some false))))))))))
theorem edit_valid.calls (a0_0 : Int) (a0_1 : Int) (a0_2 : Int) (a0_3 : Int) (r : Bool) (w : World) (h : edit_valid.f a0_0 a0_1 a0_2 a0_3 = some r) :
  Calls Tryz.prog 108 #[.agg #[.int .i64 a0_0, .int .i64 a0_1, .int .i64 a0_2, .int .i64 a0_3]] w fun e w' => e = .returned (.bool r) ∧ Below w.heap.size w w' := by
 have hu67 := Tryz.underlying67; have HB := aS (Below.refl w.heap.size w); have H : (if a0_0 < 1 then (some false) else (if a0_0 > 1099511627776 then (some false) else (if a0_1 < (-1) then (some false) else (if a0_1 > 1099511627776 then (some false) else (if a0_2 < 0 then (some false) else (if a0_2 > 1000 then (some false) else (if a0_3 < 1 then (some false) else (if a0_3 > 1000 then (some false) else (if a0_1 ≥ 0 then (some true) else (if a0_2 = 1 then (some (a0_3 == 1)) else (some false))))))))))) = some r := h; clear h
 by_cases c2 : a0_0 < 1
 ·rw [if_pos c2] at H; have c2b0 : decide (a0_0 < 1) = true := decide_eq_true c2; clear c2; obtain rfl := Option.some.inj H
  go_enter Tryz.func108, Tryz.ntmps108
  go_wp2_with (first | ((with_reducible refine gate_dst (N := 1) rfl ?_); refine zB 1 67 #[.int .i64 a0_0, .int .i64 a0_1, .int .i64 a0_2, .int .i64 a0_3] ?_; intro gb103 hg w3 hbox hb; have BK103 := aS hbox; have GW103 := gz hg; have GE103 := gz hg; replace HB := bp hb; clear hb hbox hg; obtain ⟨hcz4_0, hcz4_1, hcz4_2, hcz4_3, hfz4_0, hfz4_1, hfz4_2, hfz4_3⟩ := xc4 BK103))
  go_ret
  exact ⟨ez, bz⟩
 rw [if_neg c2] at H; have c2b0 : decide (a0_0 < 1) = false := decide_eq_false c2; clear c2
 by_cases c5 : a0_0 > 1099511627776
 ·rw [if_pos c5] at H; have c5b0 : decide (1099511627776 < a0_0) = true := decide_eq_true c5; clear c5; obtain rfl := Option.some.inj H
  go_enter Tryz.func108, Tryz.ntmps108
  go_wp2_with (first | ((with_reducible refine gate_dst (N := 1) rfl ?_); refine zB 1 67 #[.int .i64 a0_0, .int .i64 a0_1, .int .i64 a0_2, .int .i64 a0_3] ?_; intro gb103 hg w6 hbox hb; have BK103 := aS hbox; have GW103 := gz hg; have GE103 := gz hg; replace HB := bp hb; clear hb hbox hg; obtain ⟨hcz7_0, hcz7_1, hcz7_2, hcz7_3, hfz7_0, hfz7_1, hfz7_2, hfz7_3⟩ := xc4 BK103))
  go_ret
  exact ⟨ez, bz⟩
 rw [if_neg c5] at H; have c5b0 : decide (1099511627776 < a0_0) = false := decide_eq_false c5; clear c5
 by_cases c8 : a0_1 < (-1)
 ·rw [if_pos c8] at H; have c8b0 : decide (a0_1 < (-1)) = true := decide_eq_true c8; clear c8; obtain rfl := Option.some.inj H
  go_enter Tryz.func108, Tryz.ntmps108
  go_wp2_with (first | ((with_reducible refine gate_dst (N := 1) rfl ?_); refine zB 1 67 #[.int .i64 a0_0, .int .i64 a0_1, .int .i64 a0_2, .int .i64 a0_3] ?_; intro gb103 hg w9 hbox hb; have BK103 := aS hbox; have GW103 := gz hg; have GE103 := gz hg; replace HB := bp hb; clear hb hbox hg; obtain ⟨hcz10_0, hcz10_1, hcz10_2, hcz10_3, hfz10_0, hfz10_1, hfz10_2, hfz10_3⟩ := xc4 BK103))
  go_ret
  exact ⟨ez, bz⟩
 rw [if_neg c8] at H; have c8b0 : decide (a0_1 < (-1)) = false := decide_eq_false c8; clear c8
 by_cases c11 : a0_1 > 1099511627776
 ·rw [if_pos c11] at H; have c11b0 : decide (1099511627776 < a0_1) = true := decide_eq_true c11; clear c11; obtain rfl := Option.some.inj H
  go_enter Tryz.func108, Tryz.ntmps108
  go_wp2_with (first | ((with_reducible refine gate_dst (N := 1) rfl ?_); refine zB 1 67 #[.int .i64 a0_0, .int .i64 a0_1, .int .i64 a0_2, .int .i64 a0_3] ?_; intro gb103 hg w12 hbox hb; have BK103 := aS hbox; have GW103 := gz hg; have GE103 := gz hg; replace HB := bp hb; clear hb hbox hg; obtain ⟨hcz13_0, hcz13_1, hcz13_2, hcz13_3, hfz13_0, hfz13_1, hfz13_2, hfz13_3⟩ := xc4 BK103))
  go_ret
  exact ⟨ez, bz⟩
 rw [if_neg c11] at H; have c11b0 : decide (1099511627776 < a0_1) = false := decide_eq_false c11; clear c11
 by_cases c14 : a0_2 < 0
 ·rw [if_pos c14] at H; have c14b0 : decide (a0_2 < 0) = true := decide_eq_true c14; clear c14; obtain rfl := Option.some.inj H
  go_enter Tryz.func108, Tryz.ntmps108
  go_wp2_with (first | ((with_reducible refine gate_dst (N := 1) rfl ?_); refine zB 1 67 #[.int .i64 a0_0, .int .i64 a0_1, .int .i64 a0_2, .int .i64 a0_3] ?_; intro gb103 hg w15 hbox hb; have BK103 := aS hbox; have GW103 := gz hg; have GE103 := gz hg; replace HB := bp hb; clear hb hbox hg; obtain ⟨hcz16_0, hcz16_1, hcz16_2, hcz16_3, hfz16_0, hfz16_1, hfz16_2, hfz16_3⟩ := xc4 BK103))
  go_ret
  exact ⟨ez, bz⟩
 rw [if_neg c14] at H; have c14b0 : decide (a0_2 < 0) = false := decide_eq_false c14; clear c14
 by_cases c17 : a0_2 > 1000
 ·rw [if_pos c17] at H; have c17b0 : decide (1000 < a0_2) = true := decide_eq_true c17; clear c17; obtain rfl := Option.some.inj H
  go_enter Tryz.func108, Tryz.ntmps108
  go_wp2_with (first | ((with_reducible refine gate_dst (N := 1) rfl ?_); refine zB 1 67 #[.int .i64 a0_0, .int .i64 a0_1, .int .i64 a0_2, .int .i64 a0_3] ?_; intro gb103 hg w18 hbox hb; have BK103 := aS hbox; have GW103 := gz hg; have GE103 := gz hg; replace HB := bp hb; clear hb hbox hg; obtain ⟨hcz19_0, hcz19_1, hcz19_2, hcz19_3, hfz19_0, hfz19_1, hfz19_2, hfz19_3⟩ := xc4 BK103))
  go_ret
  exact ⟨ez, bz⟩
 rw [if_neg c17] at H; have c17b0 : decide (1000 < a0_2) = false := decide_eq_false c17; clear c17
 by_cases c20 : a0_3 < 1
 ·rw [if_pos c20] at H; have c20b0 : decide (a0_3 < 1) = true := decide_eq_true c20; clear c20; obtain rfl := Option.some.inj H
  go_enter Tryz.func108, Tryz.ntmps108
  go_wp2_with (first | ((with_reducible refine gate_dst (N := 1) rfl ?_); refine zB 1 67 #[.int .i64 a0_0, .int .i64 a0_1, .int .i64 a0_2, .int .i64 a0_3] ?_; intro gb103 hg w21 hbox hb; have BK103 := aS hbox; have GW103 := gz hg; have GE103 := gz hg; replace HB := bp hb; clear hb hbox hg; obtain ⟨hcz22_0, hcz22_1, hcz22_2, hcz22_3, hfz22_0, hfz22_1, hfz22_2, hfz22_3⟩ := xc4 BK103))
  go_ret
  exact ⟨ez, bz⟩
 rw [if_neg c20] at H; have c20b0 : decide (a0_3 < 1) = false := decide_eq_false c20; clear c20
 by_cases c23 : a0_3 > 1000
 ·rw [if_pos c23] at H; have c23b0 : decide (1000 < a0_3) = true := decide_eq_true c23; clear c23; obtain rfl := Option.some.inj H
  go_enter Tryz.func108, Tryz.ntmps108
  go_wp2_with (first | ((with_reducible refine gate_dst (N := 1) rfl ?_); refine zB 1 67 #[.int .i64 a0_0, .int .i64 a0_1, .int .i64 a0_2, .int .i64 a0_3] ?_; intro gb103 hg w24 hbox hb; have BK103 := aS hbox; have GW103 := gz hg; have GE103 := gz hg; replace HB := bp hb; clear hb hbox hg; obtain ⟨hcz25_0, hcz25_1, hcz25_2, hcz25_3, hfz25_0, hfz25_1, hfz25_2, hfz25_3⟩ := xc4 BK103))
  go_ret
  exact ⟨ez, bz⟩
 rw [if_neg c23] at H; have c23b0 : decide (1000 < a0_3) = false := decide_eq_false c23; clear c23
 by_cases c26 : a0_1 ≥ 0
 ·rw [if_pos c26] at H; have c26b0 : decide (0 ≤ a0_1) = true := decide_eq_true c26; clear c26; obtain rfl := Option.some.inj H
  go_enter Tryz.func108, Tryz.ntmps108
  go_wp2_with (first | ((with_reducible refine gate_dst (N := 1) rfl ?_); refine zB 1 67 #[.int .i64 a0_0, .int .i64 a0_1, .int .i64 a0_2, .int .i64 a0_3] ?_; intro gb103 hg w27 hbox hb; have BK103 := aS hbox; have GW103 := gz hg; have GE103 := gz hg; replace HB := bp hb; clear hb hbox hg; obtain ⟨hcz28_0, hcz28_1, hcz28_2, hcz28_3, hfz28_0, hfz28_1, hfz28_2, hfz28_3⟩ := xc4 BK103))
  go_ret
  exact ⟨ez, bz⟩
 rw [if_neg c26] at H; have c26b0 : decide (0 ≤ a0_1) = false := decide_eq_false c26; clear c26
 by_cases c29 : a0_2 = 1
 ·rw [if_pos c29] at H; have c29b0 : (a0_2 == 1) = true := beq_iff_eq.mpr c29; have c29b1 : (a0_2 != 1) = false := bne_eq_false_iff_eq.mpr c29; clear c29; obtain rfl := Option.some.inj H
  go_enter Tryz.func108, Tryz.ntmps108
  go_wp2_with (first | ((with_reducible refine gate_dst (N := 1) rfl ?_); refine zB 1 67 #[.int .i64 a0_0, .int .i64 a0_1, .int .i64 a0_2, .int .i64 a0_3] ?_; intro gb103 hg w30 hbox hb; have BK103 := aS hbox; have GW103 := gz hg; have GE103 := gz hg; replace HB := bp hb; clear hb hbox hg; obtain ⟨hcz31_0, hcz31_1, hcz31_2, hcz31_3, hfz31_0, hfz31_1, hfz31_2, hfz31_3⟩ := xc4 BK103))
  go_ret
  exact ⟨ez, bz⟩
 rw [if_neg c29] at H; have c29b0 : (a0_2 == 1) = false := beq_eq_false_iff_ne.mpr c29; have c29b1 : (a0_2 != 1) = true := bne_iff_ne.mpr c29; obtain rfl := Option.some.inj H
 go_enter Tryz.func108, Tryz.ntmps108
 go_wp2_with (first | ((with_reducible refine gate_dst (N := 1) rfl ?_); refine zB 1 67 #[.int .i64 a0_0, .int .i64 a0_1, .int .i64 a0_2, .int .i64 a0_3] ?_; intro gb103 hg w32 hbox hb; have BK103 := aS hbox; have GW103 := gz hg; have GE103 := gz hg; replace HB := bp hb; clear hb hbox hg; obtain ⟨hcz33_0, hcz33_1, hcz33_2, hcz33_3, hfz33_0, hfz33_1, hfz33_2, hfz33_3⟩ := xc4 BK103))
 go_ret
 exact ⟨ez, bz⟩
mutual
def edit_Check.j0 : Nat → List (S67) → Bool → Option (Int)
  | 0, _, _ => none
  | k + 1, x0, x17 => if x17 = true then (some 1) else (if (x0.length : Int) > 20 then (some 2) else (edit_Check.l0 k 0 x0 (x0.length : Int) 0))
def edit_Check.l0 : Nat → Int → List (S67) → Int → Int → Option (Int)
  | 0, _, _, _, _ => none
  | k + 1, x7, x21, x22, x23 => if x23 < x22 then (if 0 ≤ x23 then (if x23 < (x21.length : Int) then ((edit_valid.f ((rd_T67 x21 x23).f0) ((rd_T67 x21 x23).f1) ((rd_T67 x21 x23).f2) ((rd_T67 x21 x23).f3)).bind fun t108 => (if t108 = true then (edit_Check.l0 k (wrap64 (x7 + ((rd_T67 x21 x23).f0))) x21 x22 (wrap64 (x23 + 1))) else (some 33))) else (none)) else (none)) else (if x7 > 1099511627776 then (some 33) else (some 0))
end
def edit_Check.f (k : Nat) (l0 : List (S67)) (a1 : Int) (a2 : Int) : Option (Int) := (edit_isScale.f a1).bind fun t104 => (if t104 = true then ((edit_isScale.f a2).bind fun t105 => (edit_Check.j0 k l0 (!t105))) else (edit_Check.j0 k l0 true))
theorem edit_Check.calls (k : Nat) (A0 : Option Addr) (c0 : Nat) (l0 : List (S67)) (a1 : Int) (a2 : Int) (r : Int) (w : World) (hr0 : Kd.C k67 w A0 l0.length l0) (hc0 : l0.length ≤ c0) (h : edit_Check.f k l0 a1 a2 = some r) :
  Calls Tryz.prog 58 #[.slice A0 l0.length c0, .int .i64 a1, .int .i64 a2] w fun e w' => e = .returned (.int .i64 r) ∧ Below w.heap.size w w' := by
 have hu67 := Tryz.underlying67; have HR0 := aS hr0; have HC0 := aS hc0; clear hr0 hc0; have HB := aS (Below.refl w.heap.size w); have H : ((edit_isScale.f a1).bind fun t104 => (if t104 = true then ((edit_isScale.f a2).bind fun t105 => (edit_Check.j0 k l0 (!t105))) else (edit_Check.j0 k l0 true))) = some r := h
 clear h; have HC4 := aS H; clear H
 go_enter Tryz.func58, Tryz.ntmps58
 go_upto_region 1 with (fail)
 go_cut [17] (fun v17 wc => ∃ (kq : Nat) (x17_3 : Bool), v17 = .bool x17_3 ∧ Aside0 (edit_Check.j0 kq l0 x17_3 = some r) ∧ Aside0 (kq ≤ k) ∧ Aside0 (Below w.heap.size w wc))
 case first =>
  have H := HC4.out; clear HC4; obtain ⟨t104, A5, H⟩ := ob H
  by_cases c6 : t104 = true
  ·subst c6; rw [if_pos rfl] at H; obtain ⟨t105, A7, H⟩ := ob H; have H' := aS H; clear H
   go_wp2_with (first | ((with_reducible refine gate_callee (f := 107) rfl ?_); refine zC 11 Tryz.func107 #[.int .i64 a1] ?_; (with_reducible refine (edit_isScale.calls a1 true _ A5.out).mono ?_); rintro e w' ⟨rfl, ⟨nd, rfl⟩⟩; refine ⟨_, rfl, ?_⟩) | (go_at_call 107; (with_reducible refine (edit_isScale.calls a2 t105 _ A7.out).mono ?_); rintro e w' ⟨rfl, ⟨nd, rfl⟩⟩))
   go_meet
   case rel => exact ⟨_, (!t105), jz, H', ⟨by first | omega | exact Nat.le_refl _⟩, ⟨bz⟩⟩
  obtain rfl := bf c6; rw [if_neg (show ¬ (false = true) by decide)] at H; have H' := aS H; clear H
  go_wp2_with (first | ((with_reducible refine gate_callee (f := 107) rfl ?_); refine zC 11 Tryz.func107 #[.int .i64 a1] ?_; (with_reducible refine (edit_isScale.calls a1 false _ A5.out).mono ?_); rintro e w' ⟨rfl, ⟨nd, rfl⟩⟩; refine ⟨_, rfl, ?_⟩))
  go_meet
  case rel => exact ⟨_, (true), jz, H', ⟨by first | omega | exact Nat.le_refl _⟩, ⟨bz⟩⟩
 case rest =>
  clear HC4
  try clear c1
  try clear p2
  try clear c5
  try clear c6
  obtain ⟨kq, x17_3, rfl, HA, HJ3, HB⟩ := hcut
  cases kq with
  | zero => exact absurd HA.out (by simp [edit_Check.j0])
  | succ kj3 =>
   have H := HA.out; clear HA; simp only [edit_Check.j0] at H
   by_cases c8 : x17_3 = true
   ·subst c8; rw [if_pos rfl] at H; obtain rfl := Option.some.inj H
    go_wp2
    go_ret
    exact ⟨ez, bz⟩
   obtain rfl := bf c8; rw [if_neg (show ¬ (false = true) by decide)] at H
   by_cases c9 : (l0.length : Int) > 20
   ·rw [if_pos c9] at H; have c9b0 : decide (20 < (l0.length : Int)) = true := decide_eq_true c9; have c9b1 : decide (20 < l0.length) = true := decide_eq_true (by omega); clear c9; obtain rfl := Option.some.inj H
    go_wp2
    go_ret
    exact ⟨ez, bz⟩
   rw [if_neg c9] at H; have c9b0 : decide (20 < (l0.length : Int)) = false := decide_eq_false c9; have c9b1 : decide (20 < l0.length) = false := decide_eq_false (by omega); clear c9; have H' := aS H; clear H
   go_wp2
   go_loopg [7, 23] kj3 (fun kq v7 v23 w' => ∃ (x7_2 : Int) (x23_2 : Int), v7 = .int .i64 x7_2 ∧ v23 = .int .i64 x23_2 ∧ Aside0 (edit_Check.l0 kq x7_2 l0 (l0.length : Int) x23_2 = some r) ∧ Aside0 (kq ≤ kj3) ∧ Aside0 (Below w.heap.size w w'))
   case atStart => exact ⟨(0), (0), jz, jz, H', ⟨Nat.le_refl _⟩, ⟨bz⟩⟩
   case round =>
    clear H'
    try clear c1
    try clear p2
    try clear c5
    try clear c6
    try clear c8
    try clear c9
    try clear c9b0
    try clear c9b1
    try clear p2
    obtain ⟨x7_2, x23_2, rfl, rfl, HA, HK2, HB⟩ := hrel
    cases gk with
    | zero => exact absurd HA.out (by simp [edit_Check.l0])
    | succ k2 =>
     have H := HA.out; clear HA; simp only [edit_Check.l0] at H
     by_cases c10 : x23_2 < (l0.length : Int)
     ·rw [if_pos c10] at H; have c10b0 : decide (x23_2 < (l0.length : Int)) = true := decide_eq_true c10; clear c10
      by_cases c11 : 0 ≤ x23_2
      ·rw [if_pos c11] at H; have c11b0 : decide (0 ≤ x23_2) = true := decide_eq_true c11; clear c11
       by_cases c12 : x23_2 < (l0.length : Int)
       ·rw [if_pos c12] at H; have c12b0 : decide (x23_2 < (l0.length : Int)) = true := decide_eq_true c12; clear c12; obtain ⟨t108, A13, H⟩ := ob H
        by_cases c14 : t108 = true
        ·subst c14; rw [if_pos rfl] at H; have H' := aS H; clear H; have p106 : 0 ≤ (x23_2 : Int) := od; have q106 : x23_2 < (l0.length : Int) := od; obtain ⟨ad106, e106, hx106_0, hx106_1, hx106_2, hx106_3⟩ := at_T67 HR0.out x23_2 p106 q106
         cases e106
         replace hx106_0 := cl HB hx106_0; replace hx106_1 := cl HB hx106_1; replace hx106_2 := cl HB hx106_2; replace hx106_3 := cl HB hx106_3; replace p106 := eq_true p106; replace q106 := eq_true q106
         go_wp2_with (first | ((with_reducible refine gate_dst (N := 9) rfl ?_); refine zB 9 67 #[.int .i64 0, .int .i64 0, .int .i64 0, .int .i64 0] ?_; intro gb107 hg w15 hbox hb; have BK107 := aS hbox; have GW107 := gz hg; have GE107 := gz hg; replace HB := bp hb; clear hb hbox hg; obtain ⟨hcz16_0, hcz16_1, hcz16_2, hcz16_3, hfz16_0, hfz16_1, hfz16_2, hfz16_3⟩ := xc4 BK107) | ((with_reducible refine gate_callee (f := 108) rfl ?_); refine zC 28 Tryz.func108 #[.agg #[.int .i64 ((rd_T67 l0 x23_2).f0), .int .i64 ((rd_T67 l0 x23_2).f1), .int .i64 ((rd_T67 l0 x23_2).f2), .int .i64 ((rd_T67 l0 x23_2).f3)]] ?_; (with_reducible refine (edit_valid.calls ((rd_T67 l0 x23_2).f0) ((rd_T67 l0 x23_2).f1) ((rd_T67 l0 x23_2).f2) ((rd_T67 l0 x23_2).f3) true _ A13.out).mono ?_); rintro e w17 ⟨rfl, hb⟩; refine ⟨_, rfl, ?_⟩; replace BK107 := aS (blk_below (g := gb107) (o := .cells #[.int .i64 ((rd_T67 l0 x23_2).f0), .int .i64 ((rd_T67 l0 x23_2).f1), .int .i64 ((rd_T67 l0 x23_2).f2), .int .i64 ((rd_T67 l0 x23_2).f3)] 67 (0, 0)) (by refine aB ?_; refine blk_put (cs := #[.int .i64 ((rd_T67 l0 x23_2).f0), .int .i64 ((rd_T67 l0 x23_2).f1), .int .i64 ((rd_T67 l0 x23_2).f2), .int .i64 0]) ?_ 3 _ rfl; refine aB ?_; refine blk_put (cs := #[.int .i64 ((rd_T67 l0 x23_2).f0), .int .i64 ((rd_T67 l0 x23_2).f1), .int .i64 0, .int .i64 0]) ?_ 2 _ rfl; refine aB ?_; refine blk_put (cs := #[.int .i64 ((rd_T67 l0 x23_2).f0), .int .i64 0, .int .i64 0, .int .i64 0]) ?_ 1 _ rfl; refine aB ?_; refine blk_put (cs := #[.int .i64 0, .int .i64 0, .int .i64 0, .int .i64 0]) ?_ 0 _ rfl; refine aB ?_; exact BK107.out) hb); replace HB := bp hb; clear hb; obtain ⟨hcz18_0, hcz18_1, hcz18_2, hcz18_3, hfz18_0, hfz18_1, hfz18_2, hfz18_3⟩ := xc4 BK107))
         go_roundg k2
         case measure => have := HJ3.out; have := HK2.out; omega
         case rel => exact ⟨(wrap64 (x7_2 + ((rd_T67 l0 x23_2).f0))), (wrap64 (x23_2 + 1)), jz, jz, H', ⟨by have := HJ3.out; have := HK2.out; omega⟩, ⟨bz⟩⟩
        obtain rfl := bf c14; rw [if_neg (show ¬ (false = true) by decide)] at H; obtain rfl := Option.some.inj H; have p106 : 0 ≤ (x23_2 : Int) := od; have q106 : x23_2 < (l0.length : Int) := od; obtain ⟨ad106, e106, hx106_0, hx106_1, hx106_2, hx106_3⟩ := at_T67 HR0.out x23_2 p106 q106
        cases e106
        replace hx106_0 := cl HB hx106_0; replace hx106_1 := cl HB hx106_1; replace hx106_2 := cl HB hx106_2; replace hx106_3 := cl HB hx106_3; replace p106 := eq_true p106; replace q106 := eq_true q106
        go_wp2_with (first | ((with_reducible refine gate_dst (N := 9) rfl ?_); refine zB 9 67 #[.int .i64 0, .int .i64 0, .int .i64 0, .int .i64 0] ?_; intro gb107 hg w19 hbox hb; have BK107 := aS hbox; have GW107 := gz hg; have GE107 := gz hg; replace HB := bp hb; clear hb hbox hg; obtain ⟨hcz20_0, hcz20_1, hcz20_2, hcz20_3, hfz20_0, hfz20_1, hfz20_2, hfz20_3⟩ := xc4 BK107) | ((with_reducible refine gate_callee (f := 108) rfl ?_); refine zC 28 Tryz.func108 #[.agg #[.int .i64 ((rd_T67 l0 x23_2).f0), .int .i64 ((rd_T67 l0 x23_2).f1), .int .i64 ((rd_T67 l0 x23_2).f2), .int .i64 ((rd_T67 l0 x23_2).f3)]] ?_; (with_reducible refine (edit_valid.calls ((rd_T67 l0 x23_2).f0) ((rd_T67 l0 x23_2).f1) ((rd_T67 l0 x23_2).f2) ((rd_T67 l0 x23_2).f3) false _ A13.out).mono ?_); rintro e w21 ⟨rfl, hb⟩; refine ⟨_, rfl, ?_⟩; replace BK107 := aS (blk_below (g := gb107) (o := .cells #[.int .i64 ((rd_T67 l0 x23_2).f0), .int .i64 ((rd_T67 l0 x23_2).f1), .int .i64 ((rd_T67 l0 x23_2).f2), .int .i64 ((rd_T67 l0 x23_2).f3)] 67 (0, 0)) (by refine aB ?_; refine blk_put (cs := #[.int .i64 ((rd_T67 l0 x23_2).f0), .int .i64 ((rd_T67 l0 x23_2).f1), .int .i64 ((rd_T67 l0 x23_2).f2), .int .i64 0]) ?_ 3 _ rfl; refine aB ?_; refine blk_put (cs := #[.int .i64 ((rd_T67 l0 x23_2).f0), .int .i64 ((rd_T67 l0 x23_2).f1), .int .i64 0, .int .i64 0]) ?_ 2 _ rfl; refine aB ?_; refine blk_put (cs := #[.int .i64 ((rd_T67 l0 x23_2).f0), .int .i64 0, .int .i64 0, .int .i64 0]) ?_ 1 _ rfl; refine aB ?_; refine blk_put (cs := #[.int .i64 0, .int .i64 0, .int .i64 0, .int .i64 0]) ?_ 0 _ rfl; refine aB ?_; exact BK107.out) hb); replace HB := bp hb; clear hb))
        go_ret
        exact ⟨ez, bz⟩
       rw [if_neg c12] at H
       exact absurd H (by simp)
      rw [if_neg c11] at H
      exact absurd H (by simp)
     rw [if_neg c10] at H; have c10b0 : decide (x23_2 < (l0.length : Int)) = false := decide_eq_false c10; clear c10
     by_cases c22 : x7_2 > 1099511627776
     ·rw [if_pos c22] at H; have c22b0 : decide (1099511627776 < x7_2) = true := decide_eq_true c22; clear c22; obtain rfl := Option.some.inj H
      go_wp2
      go_ret
      exact ⟨ez, bz⟩
     rw [if_neg c22] at H; have c22b0 : decide (1099511627776 < x7_2) = false := decide_eq_false c22; clear c22; obtain rfl := Option.some.inj H
     go_wp2
     go_ret
     exact ⟨ez, bz⟩
end Go.Proofs.YtekommcfpjonmaaGreat.E

namespace Go.Proofs.YtekommcfpjonmaaGreat.Ml
def dv (B : Int) : List Int → Int
 | [] => 0
 | x :: l => x + B * dv B l
def pw (B : Int) : Nat → Int
 | 0 => 1
 | n + 1 => pw B n * B
theorem pw_succ (B : Int) (n : Nat) : pw B (n + 1) = pw B n * B := rfl
def Dg (B : Int) (l : List Int) : Prop := ∀ x ∈ l, 0 ≤ x ∧ x < B
def Top (l : List Int) : Prop := ∀ h : l ≠ [], l.getLast h ≠ 0
structure Cn (B : Int) (l : List Int) : Prop where
 dg : Dg B l
 top : Top l
theorem Dg.nil (B : Int) : Dg B [] := by simp [Dg]
theorem Dg.cons {B x : Int} {l : List Int} (h0 : 0 ≤ x) (h1 : x < B) (h : Dg B l) : Dg B (x :: l) := by
 intro y hy
 rcases List.mem_cons.1 hy with rfl | hy
 ·exact ⟨h0, h1⟩
 exact h y hy
theorem Dg.tail {B x : Int} {l : List Int} (h : Dg B (x :: l)) : Dg B l := fun y hy => h y (List.mem_cons_of_mem _ hy)
theorem Dg.head {B x : Int} {l : List Int} (h : Dg B (x :: l)) : 0 ≤ x ∧ x < B := h x List.mem_cons_self
theorem Dg.append {B : Int} {a b : List Int} (ha : Dg B a) (hb : Dg B b) : Dg B (a ++ b) := fun y hy => by
 rcases List.mem_append.1 hy with h | h
 ·exact ha y h
 exact hb y h
theorem Dg.right {B : Int} {a b : List Int} (h : Dg B (a ++ b)) : Dg B b := fun y hy => h y (List.mem_append_right _ hy)
theorem Dg.take {B : Int} {a : List Int} (h : Dg B a) (n : Nat) : Dg B (a.take n) := fun y hy => h y (List.mem_of_mem_take hy)
theorem Dg.drop {B : Int} {a : List Int} (h : Dg B a) (n : Nat) : Dg B (a.drop n) := fun y hy => h y (List.mem_of_mem_drop hy)
theorem Dg.set {B : Int} {a : List Int} (h : Dg B a) (i : Nat) {v : Int} (h0 : 0 ≤ v) (h1 : v < B) : Dg B (a.set i v) := fun y hy => by
 rcases List.mem_or_eq_of_mem_set hy with h' | rfl
 ·exact h y h'
 exact ⟨h0, h1⟩
theorem Dg.getD {B : Int} {a : List Int} (h : Dg B a) (hB : 0 < B) (i : Nat) : 0 ≤ a.getD i 0 ∧ a.getD i 0 < B := by
 rw [List.getD_eq_getElem?_getD]
 by_cases hi : i < a.length
 ·rw [List.getElem?_eq_getElem hi]
  exact h _ (List.getElem_mem hi)
 rw [List.getElem?_eq_none (by omega)]
 exact ⟨Int.le_refl 0, hB⟩
theorem Dg.replicate {B : Int} (hB : 0 < B) (n : Nat) : Dg B (List.replicate n 0) := fun y hy => by
 obtain ⟨_, rfl⟩ := List.mem_replicate.1 hy
 exact ⟨Int.le_refl 0, hB⟩
theorem dv_append (B : Int) (a b : List Int) : dv B (a ++ b) = dv B a + pw B a.length * dv B b := by
 induction a with
 | nil => simp [dv, pw]
 | cons x a ih =>
  simp only [List.cons_append, dv, List.length_cons, ih, pw_succ]
  grind
theorem dv_nonneg {B : Int} (hB : 0 < B) {l : List Int} (h : Dg B l) : 0 ≤ dv B l := by
 induction l with
 | nil => simp [dv]
 | cons x l ih =>
  have := h.head
  have := Int.mul_nonneg (Int.le_of_lt hB) (ih h.tail)
  simp only [dv]
  omega
theorem pow_pos {B : Int} (hB : 0 < B) (n : Nat) : 0 < pw B n := by
 induction n with
 | zero => exact Int.one_pos
 | succ n ih => exact Int.mul_pos ih hB
theorem dv_lt {B : Int} (hB : 0 < B) {l : List Int} (h : Dg B l) : dv B l < pw B l.length := by
 induction l with
 | nil => simp [dv, pw]
 | cons x l ih =>
  have h1 := h.head
  have h2 := ih h.tail
  have h3 : B * (dv B l + 1) ≤ B * pw B l.length := Int.mul_le_mul_of_nonneg_left (by omega) (Int.le_of_lt hB)
  simp only [dv, List.length_cons, pw_succ]
  rw [Int.mul_add, Int.mul_comm B (pw B l.length)] at h3
  omega
theorem dv_replicate (B : Int) (n : Nat) : dv B (List.replicate n 0) = 0 := by
 induction n with
 | zero => rfl
 | succ n ih => simp [List.replicate_succ, dv, ih]
theorem dv_set (B : Int) (l : List Int) (i : Nat) (v : Int) (hi : i < l.length) : dv B (l.set i v) = dv B l + (v - l.getD i 0) * pw B i := by
 induction l generalizing i with
 | nil => simp at hi
 | cons x l ih =>
  cases i with
  | zero => simp [dv, pw]; omega
  | succ i =>
   have := ih i (by simpa using hi)
   simp only [List.set_cons_succ, dv, this, List.getD_cons_succ, pw_succ]
   grind
theorem dv_take_succ (B : Int) (l : List Int) (i : Nat) (hi : i < l.length) : dv B (l.take (i + 1)) = dv B (l.take i) + l.getD i 0 * pw B i := by
 rw [List.take_succ_eq_append_getElem hi, dv_append, List.length_take, Nat.min_eq_left (by omega)]
 simp only [dv, List.getD_eq_getElem?_getD, List.getElem?_eq_getElem hi, Option.getD_some]
 grind
theorem dv_split (B : Int) (l : List Int) (i : Nat) (hi : i ≤ l.length) : dv B l = dv B (l.take i) + pw B i * dv B (l.drop i) := by
 have := dv_append B (l.take i) (l.drop i)
 rw [List.take_append_drop, List.length_take, Nat.min_eq_left hi] at this
 exact this
theorem dv_drop (B : Int) (l : List Int) (i : Nat) (hi : i < l.length) : dv B (l.drop i) = l.getD i 0 + B * dv B (l.drop (i + 1)) := by
 rw [List.drop_eq_getElem_cons hi]
 simp only [dv, List.getD_eq_getElem?_getD, List.getElem?_eq_getElem hi, Option.getD_some]
theorem dv_snoc (B : Int) (l : List Int) (x : Int) : dv B (l ++ [x]) = dv B l + x * pw B l.length := by
 rw [dv_append]
 simp only [dv]
 grind
theorem dv_ge {B : Int} (hB : 0 < B) {l : List Int} (h : Cn B l) (hne : l ≠ []) : pw B (l.length - 1) ≤ dv B l := by
 have h1 := List.dropLast_concat_getLast hne
 have h2 : Dg B l.dropLast := fun y hy => h.dg y (List.dropLast_subset l hy)
 have h3 := h.dg _ (List.getLast_mem hne)
 have h4 := h.top hne
 have h5 := dv_nonneg hB h2
 have h6 : 0 < pw B l.dropLast.length := pow_pos hB _
 have h7 : 1 * pw B l.dropLast.length ≤ l.getLast hne * pw B l.dropLast.length := Int.mul_le_mul_of_nonneg_right (by omega) (Int.le_of_lt h6)
 rw [← h1, dv_snoc]
 have h8 : (l.dropLast ++ [l.getLast hne]).length - 1 = l.dropLast.length := by simp
 rw [h8]
 omega
theorem dv_pos {B : Int} (hB : 0 < B) {l : List Int} (h : Cn B l) (hne : l ≠ []) : 0 < dv B l :=
 Int.lt_of_lt_of_le (pow_pos hB _) (dv_ge hB h hne)
theorem dv_eq_zero {B : Int} (hB : 0 < B) {l : List Int} (h : Cn B l) : dv B l = 0 ↔ l = [] := by
 constructor
 ·intro h0
  cases l with
  | nil => rfl
  | cons x l =>
   have := dv_pos hB h (by simp)
   omega
 rintro rfl
 rfl
theorem pow_le {B : Int} (hB : 1 ≤ B) {m n : Nat} (h : m ≤ n) : pw B m ≤ pw B n := by
 obtain ⟨d, rfl⟩ : ∃ d, n = m + d := ⟨n - m, by omega⟩
 clear h
 induction d with
 | zero => exact Int.le_refl _
 | succ d ih =>
  have h1 : pw B (m + d) * 1 ≤ pw B (m + d) * B := Int.mul_le_mul_of_nonneg_left hB (Int.le_of_lt (pow_pos (by omega) _))
  rw [← Nat.add_assoc, pw_succ]
  omega
theorem dv_len {B : Int} (hB : 0 < B) {a b : List Int} (ha : Dg B a) (hb : Cn B b) (hl : a.length < b.length) : dv B a < dv B b := by
 have hne : b ≠ [] := by
  rintro rfl
  simp at hl
 have h1 := dv_lt hB ha
 have h2 := dv_ge hB hb hne
 have h3 : pw B a.length ≤ pw B (b.length - 1) := pow_le hB (by omega)
 omega
theorem dv_less {B : Int} (hB : 0 < B) {a b : List Int} (ha : Dg B a) (hb : Dg B b) (hl : a.length = b.length) (i : Nat) (hi : i < a.length) (hs : dv B (a.drop (i + 1)) = dv B (b.drop (i + 1))) (hlt : a.getD i 0 < b.getD i 0) : dv B a < dv B b := by
 have h1 := dv_split B a (i + 1) (by omega)
 have h2 := dv_split B b (i + 1) (by omega)
 have h3 := dv_take_succ B a i hi
 have h4 := dv_take_succ B b i (by omega)
 have h5 := dv_lt hB (ha.take i)
 have h6 := dv_nonneg hB (hb.take i)
 rw [List.length_take, Nat.min_eq_left (by omega)] at h5
 have h7 : (a.getD i 0 + 1) * pw B i ≤ b.getD i 0 * pw B i := Int.mul_le_mul_of_nonneg_right (by omega) (Int.le_of_lt (pow_pos hB i))
 rw [Int.add_mul] at h7
 rw [h1, h2, h3, h4, hs]
 omega
theorem getD_ge {l : List Int} {i : Nat} (h : l.length ≤ i) : l.getD i 0 = 0 := by
 rw [List.getD_eq_getElem?_getD, List.getElem?_eq_none h]
 rfl
theorem dv_take_succ' (B : Int) (l : List Int) (i : Nat) : dv B (l.take (i + 1)) = dv B (l.take i) + l.getD i 0 * pw B i := by
 by_cases hi : i < l.length
 ·exact dv_take_succ B l i hi
 rw [List.take_of_length_le (by omega), List.take_of_length_le (by omega), getD_ge (by omega)]
 omega
theorem getD_set {l : List Int} {i j : Nat} {v : Int} (h : i ≠ j) : (l.set i v).getD j 0 = l.getD j 0 := by
 simp [List.getD_eq_getElem?_getD, List.getElem?_set_ne h]
theorem getD_set_self {l : List Int} {i : Nat} {v : Int} (h : i < l.length) : (l.set i v).getD i 0 = v := by
 simp [List.getD_eq_getElem?_getD, List.getElem?_set_self h]
theorem mul_lt_sq {B x y : Int} (h0 : 0 ≤ x) (h1 : x < B) (h2 : 0 ≤ y) (h3 : y < B) : 0 ≤ x * y ∧ x * y ≤ (B - 1) * (B - 1) :=
 ⟨Int.mul_nonneg h0 h2, Int.mul_le_mul (by omega) (by omega) h2 (by omega)⟩
theorem dv_nil (B : Int) : dv B [] = 0 := rfl
theorem Cn.nil (B : Int) : Cn B [] := ⟨Dg.nil B, fun h => absurd rfl h⟩
theorem top_of_getD {l : List Int} (h : l.getD (l.length - 1) 0 ≠ 0) : Top l := by
 intro hne
 have hp : 0 < l.length := List.length_pos_iff.2 hne
 rw [List.getLast_eq_getElem]
 rw [List.getD_eq_getElem?_getD, List.getElem?_eq_getElem (by omega)] at h
 exact h
theorem top_getD {l : List Int} (h : Top l) (hne : 0 < l.length) : l.getD (l.length - 1) 0 ≠ 0 := by
 have h1 := h (List.length_pos_iff.1 hne)
 rw [List.getLast_eq_getElem] at h1
 rw [List.getD_eq_getElem?_getD, List.getElem?_eq_getElem (by omega)]
 exact h1
end Go.Proofs.YtekommcfpjonmaaGreat.Ml
namespace Go.Proofs.YtekommcfpjonmaaGreat.P
open Z RowKit YtekommcfpjonmaaGreatW.PrintWords YtekommcfpjonmaaGreatW.PrintLast YtekommcfpjonmaaGreatW.PrintMore
attribute [local go_sem] max2_int min2_int max_two min_two
def errW : Option Int → Value
 | none => .nilIface
 | some c => .iface 0 (.int .i64 c)
theorem errW_none : errW none = .nilIface := rfl
theorem errW_some (c : Int) : errW (some c) = .iface 0 (.int .i64 c) := rfl
theorem info157 : (Tryz.prog.info? 157).map (fun i => (i.zero, i.size, i.bytes)) = some (some (.int .u32 0), 1, 4) := by kernel_rfl
def num_trim.l0 : Nat → List Int → Option (List Int)
  | 0, _ => none
  | k + 1, x0 => if (x0.length : Int) > 0 then (if 0 ≤ (wrap64 ((x0.length : Int) - 1)) then (if (wrap64 ((x0.length : Int) - 1)) < (x0.length : Int) then (if (rd x0 (wrap64 ((x0.length : Int) - 1))) = 0 then (if (wrap64 ((x0.length : Int) - 1)) ≤ (x0.length : Int) then (num_trim.l0 k (x0.take ((wrap64 ((x0.length : Int) - 1)) : Int).toNat)) else (none)) else (some x0)) else (none)) else (none)) else (some x0)
def num_trim.f (k : Nat) (l0 : List Int) : Option (List Int) := num_trim.l0 k l0
theorem num_trim.calls (k : Nat) (P0_ : Nat → Prop) (A0 : Option Addr) (c0 : Nat) (l0 : List Int) (r : List Int) (w : World) (hs0 : Kd.V (Kd.int .u32) 157 w w.heap.size (fun k_ => P0_ k_) (.slice A0 l0.length c0) l0) (h : num_trim.f k l0 = some r) :
  Calls Tryz.prog 154 #[.slice A0 l0.length c0] w fun e w' => ∃ v0_ : Value, e = .returned (v0_) ∧ Kd.V (Kd.int .u32) 157 w' w.heap.size (fun k_ => (P0_ k_ ∨ w.heap.size ≤ k_)) v0_ r ∧ Below w.heap.size w w' := by
 have HO0 := aS (show Kd.V (Kd.int .u32) 157 w w.heap.size (fun k_ => (P0_ k_ ∨ w.heap.size ≤ k_)) (.slice A0 l0.length c0) l0 from Kd.V_mono hs0 (fun k_ hk => .inl hk))
 have HB := aS (Below.refl w.heap.size w); have H : (num_trim.l0 k l0) = some r := h; clear h; have H' := aS H; clear H
 go_enter Tryz.func154, Tryz.ntmps154
 go_wp2
 go_loopg [0] k (fun kq v0 w' => ∃ (x0_1 : List Int), Aside0 (num_trim.l0 kq x0_1 = some r) ∧ Aside0 (kq ≤ k) ∧ Aside0 (Kd.V (Kd.int .u32) 157 w' w.heap.size (fun k_ => (P0_ k_ ∨ w.heap.size ≤ k_)) v0 x0_1) ∧ Aside0 (Below w.heap.size w w'))
 case atStart => exact ⟨(l0), H', ⟨Nat.le_refl _⟩, ⟨by refine aV ?_; exact HO0.out⟩, ⟨bz⟩⟩
 case round =>
  clear H'
  try clear c1
  obtain ⟨x0_1, HA, HK1, HO_0, HB⟩ := hrel
  cases gk with
  | zero => exact absurd HA.out (by simp [num_trim.l0])
  | succ k1 =>
   have H := HA.out; clear HA; simp only [num_trim.l0] at H
   by_cases c2 : (x0_1.length : Int) > 0
   ·rw [if_pos c2] at H; have c2b0 : decide (0 < (x0_1.length : Int)) = true := decide_eq_true c2; have c2b1 : decide (0 < x0_1.length) = true := decide_eq_true (by omega); clear c2; obtain ⟨ji3, hji3⟩ : ∃ j_ : Int, (wrap64 ((x0_1.length : Int) - 1)) = j_ := ⟨_, rfl⟩; replace H : (if 0 ≤ (ji3) then (if (ji3) < (x0_1.length : Int) then (if (rd x0_1 (ji3)) = 0 then (if (ji3) ≤ (x0_1.length : Int) then (num_trim.l0 k1 (x0_1.take ((ji3) : Int).toNat)) else (none)) else (some x0_1)) else (none)) else (none)) = some r := by first | (rw [hji3] at H; exact H) | (simp only [hji3] at H ⊢; exact H)
    have hji3w : (IntKind.i64.wrap ((x0_1.length : Int) - 1)) = ji3 := (i64_w _).trans hji3
    by_cases c4 : 0 ≤ (ji3)
    ·rw [if_pos c4] at H; have c4b0 : decide (0 ≤ (ji3)) = true := decide_eq_true c4; clear c4
     by_cases c5 : (ji3) < (x0_1.length : Int)
     ·rw [if_pos c5] at H; have c5b0 : decide ((ji3) < (x0_1.length : Int)) = true := decide_eq_true c5; clear c5
      by_cases c6 : (rd x0_1 (ji3)) = 0
      ·rw [if_pos c6] at H; have c6b0 : ((rd x0_1 (ji3)) == 0) = true := beq_iff_eq.mpr c6; have c6b1 : ((rd x0_1 (ji3)) != 0) = false := bne_eq_false_iff_eq.mpr c6; clear c6; have c7b0 := eq_true (od : 0 ≤ (ji3))
       by_cases c8 : (ji3) ≤ (x0_1.length : Int)
       ·rw [if_pos c8] at H; have c8b0 := eq_true c8; have c8b1 : decide ((ji3) ≤ (x0_1.length : Int)) = true := decide_eq_true c8; clear c8; obtain ⟨y102, hy102⟩ : ∃ y_ : List Int, y_ = (x0_1.take ((ji3) : Int).toNat) := ⟨_, rfl⟩; replace H : (num_trim.l0 k1 y102) = some r := by first | (rw [hy102]; with_reducible exact H) | (have H2_ := (Option.bind_some _ _).symm.trans H; rw [hy102]; with_reducible exact H2_) | (have H2_ := (Option.bind_some _ _).symm.trans H; with_reducible exact H2_) | with_reducible exact H | (rw [hy102]; exact H) | exact H
        have Ny102 := aS hy102; clear hy102; have H' := aS H; clear H; obtain ⟨Ao9, co9, eo9⟩ := Kd.V_slice HO_0.out; subst eo9; have p101 : 0 ≤ ((ji3) : Int) := od; have q101 : (ji3) < (x0_1.length : Int) := od; obtain ⟨ad101, e101, hx101_0⟩ := Kd.at_int (Kd.V_reads' HO_0.out).2.2 (ji3) p101 q101
        cases e101
        replace p101 := eq_true p101; replace q101 := eq_true q101; have q10 : ((ji3) : Int) ≤ ((x0_1.length : Int) : Int) := od; obtain ⟨i010, hi010, _, hsz10, _⟩ := info_parts info157; have hroom10 : x0_1.length ≤ co9 := (Kd.V_reads' HO_0.out).2.1; have hC10 : Kd.F (Kd.int .u32) _ _ (some ad101) x0_1.length x0_1 := (Kd.V_at (base := w.heap.size) HO_0.out).2.2; have hcut10 := cut_to (P := Tryz.prog) 117 157 .i64 Tryz.underlying117 hi010 (some ad101) x0_1.length co9 (ji3) (od) q10 hroom10; have hr10 := Kd.F_take (m := ((ji3) : Int).toNat) hC10 (by omega); have hy10 : y102.length = ((ji3) : Int).toNat := (by rw [Ny102.out, List.length_take]; omega); rw [← Ny102.out] at hr10; rw [← hy10] at hcut10; have HO106 := aS (show Kd.V (Kd.int .u32) 157 _ w.heap.size _ (.slice (some ad101) y102.length co9) y102 from Kd.V_mk (by omega) hr10); have HC106 := aS (show y102.length ≤ co9 from by omega); clear hr10 hC10 hroom10 hi010 hsz10; have KY10 := aS hy10; clear hy10; replace q10 := eq_true q10
        go_wp2
        go_roundg k1
        case measure => have := HK1.out; omega
        case rel => exact ⟨(y102), H', ⟨by have := HK1.out; omega⟩, ⟨by refine aV ?_; exact HO106.out⟩, ⟨bz⟩⟩
       rw [if_neg c8] at H
       exact absurd H (by simp)
      rw [if_neg c6] at H; have c6b0 : ((rd x0_1 (ji3)) == 0) = false := beq_eq_false_iff_ne.mpr c6; have c6b1 : ((rd x0_1 (ji3)) != 0) = true := bne_iff_ne.mpr c6; obtain rfl := Option.some.inj H; obtain ⟨Ao11, co11, eo11⟩ := Kd.V_slice HO_0.out; subst eo11; have p101 : 0 ≤ ((ji3) : Int) := od; have q101 : (ji3) < (x0_1.length : Int) := od; obtain ⟨ad101, e101, hx101_0⟩ := Kd.at_int (Kd.V_reads' HO_0.out).2.2 (ji3) p101 q101
      cases e101
      replace p101 := eq_true p101; replace q101 := eq_true q101
      go_wp2
      go_ret
      exact ⟨_, by first | rfl | (simp [errW_none, errW_some] <;> rfl) | (simp only [← hji3]; first | rfl | (simp [errW_none, errW_some] <;> rfl)) | (simp [*, errW_none, errW_some] <;> rfl), by refine aV ?_; exact HO_0.out, bz⟩
     rw [if_neg c5] at H
     exact absurd H (by simp)
    rw [if_neg c4] at H
    exact absurd H (by simp)
   rw [if_neg c2] at H; have c2b0 : decide (0 < (x0_1.length : Int)) = false := decide_eq_false c2; have c2b1 : decide (0 < x0_1.length) = false := decide_eq_false (by omega); clear c2; obtain rfl := Option.some.inj H; obtain ⟨Ao12, co12, eo12⟩ := Kd.V_slice HO_0.out; subst eo12
   go_wp2
   go_ret
   exact ⟨_, ez, by refine aV ?_; exact HO_0.out, bz⟩
def num_magOf.f (k : Nat) (a0 : Int) : Option (List Int) := (num_trim.f k (([(a0) % 4294967296, (a0 / 4294967296) % 4294967296] : List Int))).bind fun t110 => (some t110)
theorem num_magOf.calls (k : Nat) (a0 : Int) (r : List Int) (w : World) (h : num_magOf.f k a0 = some r) :
  Calls Tryz.prog 157 #[.int .u64 a0] w fun e w' => ∃ v0_ : Value, e = .returned (v0_) ∧ Kd.V (Kd.int .u32) 157 w' w.heap.size (fun k_ => (w.heap.size ≤ k_)) v0_ r ∧ Below w.heap.size w w' := by
 have HB := aS (Below.refl w.heap.size w); have H : ((num_trim.f k (([(a0) % 4294967296, (a0 / 4294967296) % 4294967296] : List Int))).bind fun t110 => (some t110)) = some r := h
 clear h; obtain ⟨y107, hy107⟩ : ∃ y_ : List Int, y_ = (([(a0) % 4294967296, (a0 / 4294967296) % 4294967296] : List Int)) := ⟨_, rfl⟩; replace H : ((num_trim.f k y107).bind fun t110 => (some t110)) = some r := by first | (rw [hy107]; with_reducible exact H) | (have H2_ := (Option.bind_some _ _).symm.trans H; rw [hy107]; with_reducible exact H2_) | (have H2_ := (Option.bind_some _ _).symm.trans H; with_reducible exact H2_) | with_reducible exact H | (rw [hy107]; exact H) | exact H
 have Ny107 := aS hy107; clear hy107; obtain ⟨t110, A2, H⟩ := ob H; obtain rfl := Option.some.inj H
 go_enter Tryz.func157, Tryz.ntmps157
 go_wp2_with (first | ((with_reducible refine gate_dst (N := 8) rfl ?_); refine Kd.R_lit (Kd.int .u32) _ 157 ?hg (N := 8) ?hd (xs := ([(a0) % 4294967296, (a0 / 4294967296) % 4294967296] : List Int)) (inner := [.int .u32 ((a0) % 4294967296), .int .u32 ((a0 / 4294967296) % 4294967296)]) (ok := fun _ => True) (okp := fun _ => True) ?hr ?hp (fun _ hk => hk) trivial (Below.refl _ _) (Nat.le_refl _) (by simp) ?_; (case hd => rfl); (case hg => rfl); (case hr => first | (go_simp; done) | (go_simp; rfl)); (case hp => exact (Reps.one (show Kd.M (Kd.int .u32) _ _ _ ((a0) % 4294967296) [.int .u32 ((a0) % 4294967296)] from rfl) (Reps.one (show Kd.M (Kd.int .u32) _ _ _ ((a0 / 4294967296) % 4294967296) [.int .u32 ((a0 / 4294967296) % 4294967296)] from rfl) (Reps.none _ _)))); intro v108 w3 ho4 hb hg_ hnew_; clear hg_ hnew_; (first | rw [← Ny107.out] at ho4 | (simp only [Int.reduceToNat] at ho4; rw [← Ny107.out] at ho4)); have HO109 := aS (Kd.R_lower (Kd.R_newM (M := fun k_ => (w.heap.size ≤ k_)) ho4 sz (fun k_ h_ => h_)) sz); replace HB := bp hb; clear hb ho4; obtain ⟨Ao5, co5, eo5⟩ := Kd.R_slice HO109.out; subst eo5) | ((with_reducible refine gate_callee (f := 154) rfl ?_); refine zC 9 Tryz.func154 #[.slice Ao5 y107.length co5] ?_; (with_reducible refine (num_trim.calls k (fun k_ => some k_ = (.slice Ao5 y107.length co5 : Value).ownBlock) _ _ y107 t110 _ ?side1 A2.out).mono ?_); (case side1 => exact Kd.R_V (Kd.R_tight rfl (HO109.out))); rintro e w6 ⟨v111, rfl, ho0, hb⟩; refine ⟨_, rfl, ?_⟩; have HO112 := aS (Kd.V_lower (Kd.V_mono (ok' := fun k_ => (w.heap.size ≤ k_)) ho0 (fun k_ hk_ => Or.elim hk_ (fun hs_ => ((HO109.out).1 k_ hs_.symm).1) (fun hn_ => (Nat.le_trans sz hn_)))) sz); replace HO109 := aS (Kd.R_below (rz HO109) hb); replace HB := bp hb; clear hb ho0))
 go_ret
 exact ⟨_, ez, by refine aV ?_; exact HO112.out, bz⟩
def num_cmpMag.l0 : Nat → List Int → List Int → Int → Option (Int)
  | 0, _, _, _ => none
  | k + 1, x0, x1, x5 => if x5 ≥ 0 then (if 0 ≤ x5 then (if x5 < (x0.length : Int) then (if x5 < (x1.length : Int) then (if (rd x0 x5) = (rd x1 x5) then (num_cmpMag.l0 k x0 x1 (wrap64 (x5 - 1))) else (if (rd x0 x5) < (rd x1 x5) then (some (-1)) else (some 1))) else (none)) else (none)) else (none)) else (some 0)
def num_cmpMag.f (k : Nat) (l0 : List Int) (l1 : List Int) : Option (Int) := if (l0.length : Int) = (l1.length : Int) then (num_cmpMag.l0 k l0 l1 (wrap64 ((l0.length : Int) - 1))) else (some (wrap64 ((l0.length : Int) - (l1.length : Int))))
theorem num_cmpMag.calls (k : Nat) (A0 : Option Addr) (c0 : Nat) (l0 : List Int) (A1 : Option Addr) (c1 : Nat) (l1 : List Int) (r : Int) (w : World) (hr0 : Kd.C (Kd.int .u32) w A0 l0.length l0) (hc0 : l0.length ≤ c0) (hr1 : Kd.C (Kd.int .u32) w A1 l1.length l1) (hc1 : l1.length ≤ c1) (h : num_cmpMag.f k l0 l1 = some r) :
  Calls Tryz.prog 130 #[.slice A0 l0.length c0, .slice A1 l1.length c1] w fun e w' => e = .returned (.int .i64 r) ∧ Drawn0 w w' := by
 have HR0 := aS hr0; have HC0 := aS hc0; clear hr0 hc0; have HR1 := aS hr1; have HC1 := aS hc1; clear hr1 hc1; have H : (if (l0.length : Int) = (l1.length : Int) then (num_cmpMag.l0 k l0 l1 (wrap64 ((l0.length : Int) - 1))) else (some (wrap64 ((l0.length : Int) - (l1.length : Int))))) = some r := h; clear h
 by_cases c3 : (l0.length : Int) = (l1.length : Int)
 ·rw [if_pos c3] at H; have c3b0 : ((l0.length : Int) == (l1.length : Int)) = true := beq_iff_eq.mpr c3; have c3b1 : ((l0.length : Int) != (l1.length : Int)) = false := bne_eq_false_iff_eq.mpr c3; have c3b2 : (l0.length == l1.length) = true := by first | simpa using c3 | (simp at c3 ⊢; omega)
  clear c3; have H' := aS H; clear H
  go_enter Tryz.func130, Tryz.ntmps130
  go_wp2
  repeat (go_quiet (fail); try go_wp2)
  go_loopg [5] k (fun kq v5 w' => ∃ (x5_1 : Int), v5 = .int .i64 x5_1 ∧ Aside0 (num_cmpMag.l0 kq l0 l1 x5_1 = some r) ∧ Aside0 (kq ≤ k) ∧ Drawn0 w w')
  case atStart => exact ⟨(wrap64 ((l0.length : Int) - 1)), jz, H', ⟨Nat.le_refl _⟩, by repeat (first | exact Drawn0.refl _ | apply Drawn0.step)⟩
  case round =>
   clear H'
   try clear c1
   try clear p2
   try clear c3
   try clear c3b0
   try clear c3b1
   try clear c3b2
   obtain ⟨x5_1, rfl, HA, HK1, ⟨m1, rfl⟩⟩ := hrel
   cases gk with
   | zero => exact absurd HA.out (by simp [num_cmpMag.l0])
   | succ k1 =>
    have H := HA.out; clear HA; simp only [num_cmpMag.l0] at H
    by_cases c4 : x5_1 ≥ 0
    ·rw [if_pos c4] at H; have c4b0 : decide (0 ≤ x5_1) = true := decide_eq_true c4; clear c4
     by_cases c5 : 0 ≤ x5_1
     ·rw [if_pos c5] at H; have c5b0 : decide (0 ≤ x5_1) = true := decide_eq_true c5; clear c5
      by_cases c6 : x5_1 < (l0.length : Int)
      ·rw [if_pos c6] at H; have c6b0 : decide (x5_1 < (l0.length : Int)) = true := decide_eq_true c6; clear c6
       by_cases c7 : x5_1 < (l1.length : Int)
       ·rw [if_pos c7] at H; have c7b0 : decide (x5_1 < (l1.length : Int)) = true := decide_eq_true c7; clear c7
        by_cases c8 : (rd l0 x5_1) = (rd l1 x5_1)
        ·rw [if_pos c8] at H; have c8b0 : ((rd l0 x5_1) == (rd l1 x5_1)) = true := beq_iff_eq.mpr c8; have c8b1 : ((rd l0 x5_1) != (rd l1 x5_1)) = false := bne_eq_false_iff_eq.mpr c8; clear c8; have H' := aS H; clear H; have p113 : 0 ≤ (x5_1 : Int) := od; have q113 : x5_1 < (l0.length : Int) := od; obtain ⟨ad113, e113, hx113_0⟩ := Kd.at_int HR0.out x5_1 p113 q113
         cases e113
         replace p113 := eq_true p113; replace q113 := eq_true q113; have p114 : 0 ≤ (x5_1 : Int) := od; have q114 : x5_1 < (l1.length : Int) := od; obtain ⟨ad114, e114, hx114_0⟩ := Kd.at_int HR1.out x5_1 p114 q114
         cases e114
         replace p114 := eq_true p114; replace q114 := eq_true q114
         go_wp2
         repeat (go_quiet (fail); try go_wp2)
         go_roundg k1
         case measure => have := HK1.out; omega
         case rel => exact ⟨(wrap64 (x5_1 - 1)), jz, H', ⟨by have := HK1.out; omega⟩, by repeat (first | exact Drawn0.refl _ | apply Drawn0.step)⟩
        rw [if_neg c8] at H; have c8b0 : ((rd l0 x5_1) == (rd l1 x5_1)) = false := beq_eq_false_iff_ne.mpr c8; have c8b1 : ((rd l0 x5_1) != (rd l1 x5_1)) = true := bne_iff_ne.mpr c8
        by_cases c9 : (rd l0 x5_1) < (rd l1 x5_1)
        ·rw [if_pos c9] at H; have c9b0 : decide ((rd l0 x5_1) < (rd l1 x5_1)) = true := decide_eq_true c9; clear c9; obtain rfl := Option.some.inj H; have p113 : 0 ≤ (x5_1 : Int) := od; have q113 : x5_1 < (l0.length : Int) := od; obtain ⟨ad113, e113, hx113_0⟩ := Kd.at_int HR0.out x5_1 p113 q113
         cases e113
         replace p113 := eq_true p113; replace q113 := eq_true q113; have p114 : 0 ≤ (x5_1 : Int) := od; have q114 : x5_1 < (l1.length : Int) := od; obtain ⟨ad114, e114, hx114_0⟩ := Kd.at_int HR1.out x5_1 p114 q114
         cases e114
         replace p114 := eq_true p114; replace q114 := eq_true q114; have p115 : 0 ≤ (x5_1 : Int) := od; have q115 : x5_1 < (l0.length : Int) := od; obtain ⟨ad115, e115, hx115_0⟩ := Kd.at_int HR0.out x5_1 p115 q115; obtain rfl : ad113 = ad115 := (by injection e115); replace p115 := eq_true p115; replace q115 := eq_true q115; have p116 : 0 ≤ (x5_1 : Int) := od; have q116 : x5_1 < (l1.length : Int) := od; obtain ⟨ad116, e116, hx116_0⟩ := Kd.at_int HR1.out x5_1 p116 q116; obtain rfl : ad114 = ad116 := (by injection e116); replace p116 := eq_true p116; replace q116 := eq_true q116
         go_wp2
         repeat (go_quiet (fail); try go_wp2)
         go_ret
         exact ⟨by first | rfl | (simp; done) | (simp [*]; done), by repeat (first | exact Drawn0.refl _ | apply Drawn0.step)⟩
        rw [if_neg c9] at H; have c9b0 : decide ((rd l0 x5_1) < (rd l1 x5_1)) = false := decide_eq_false c9; clear c9; obtain rfl := Option.some.inj H; have p113 : 0 ≤ (x5_1 : Int) := od; have q113 : x5_1 < (l0.length : Int) := od; obtain ⟨ad113, e113, hx113_0⟩ := Kd.at_int HR0.out x5_1 p113 q113
        cases e113
        replace p113 := eq_true p113; replace q113 := eq_true q113; have p114 : 0 ≤ (x5_1 : Int) := od; have q114 : x5_1 < (l1.length : Int) := od; obtain ⟨ad114, e114, hx114_0⟩ := Kd.at_int HR1.out x5_1 p114 q114
        cases e114
        replace p114 := eq_true p114; replace q114 := eq_true q114; have p115 : 0 ≤ (x5_1 : Int) := od; have q115 : x5_1 < (l0.length : Int) := od; obtain ⟨ad115, e115, hx115_0⟩ := Kd.at_int HR0.out x5_1 p115 q115; obtain rfl : ad113 = ad115 := (by injection e115); replace p115 := eq_true p115; replace q115 := eq_true q115; have p116 : 0 ≤ (x5_1 : Int) := od; have q116 : x5_1 < (l1.length : Int) := od; obtain ⟨ad116, e116, hx116_0⟩ := Kd.at_int HR1.out x5_1 p116 q116; obtain rfl : ad114 = ad116 := (by injection e116); replace p116 := eq_true p116; replace q116 := eq_true q116
        go_wp2
        repeat (go_quiet (fail); try go_wp2)
        go_ret
        exact ⟨by first | rfl | (simp; done) | (simp [*]; done), by repeat (first | exact Drawn0.refl _ | apply Drawn0.step)⟩
       rw [if_neg c7] at H
       exact absurd H (by simp)
      rw [if_neg c6] at H
      exact absurd H (by simp)
     rw [if_neg c5] at H
     exact absurd H (by simp)
    rw [if_neg c4] at H; have c4b0 : decide (0 ≤ x5_1) = false := decide_eq_false c4; clear c4; obtain rfl := Option.some.inj H
    go_wp2
    repeat (go_quiet (fail); try go_wp2)
    go_ret
    exact ⟨by first | rfl | (simp; done) | (simp [*]; done), by repeat (first | exact Drawn0.refl _ | apply Drawn0.step)⟩
 rw [if_neg c3] at H; have c3b0 : ((l0.length : Int) == (l1.length : Int)) = false := beq_eq_false_iff_ne.mpr c3; have c3b1 : ((l0.length : Int) != (l1.length : Int)) = true := bne_iff_ne.mpr c3; have c3b2 : (l0.length == l1.length) = false := by first | simpa using c3 | (simp at c3 ⊢; omega)
 obtain rfl := Option.some.inj H
 go_enter Tryz.func130, Tryz.ntmps130
 go_wp2
 repeat (go_quiet (fail); try go_wp2)
 go_ret
 exact ⟨by first | rfl | (simp; done) | (simp [*]; done), by repeat (first | exact Drawn0.refl _ | apply Drawn0.step)⟩
def num_subMag.l0 : Nat → List Int → List Int → Int → List Int → Int → Int → Option (List Int)
  | 0, _, _, _, _, _, _ => none
  | k + 1, x1, x5, x6, x14, x15, x16 => if x16 < x15 then (if 0 ≤ x16 then (if x16 < (x14.length : Int) then (if x16 < (x1.length : Int) then (if x16 < (x5.length : Int) then (num_subMag.l0 k x1 (x5.set (x16 : Int).toNat ((IntKind.u64.wrap ((IntKind.u64.wrap ((IntKind.u64.wrap (rd x14 x16)) - (IntKind.u64.wrap (rd x1 x16)))) - x6)) % 4294967296)) ((IntKind.u64.wrap ((IntKind.u64.wrap ((IntKind.u64.wrap (rd x14 x16)) - (IntKind.u64.wrap (rd x1 x16)))) - x6)) / 9223372036854775808) x14 x15 (wrap64 (x16 + 1))) else (none)) else (if x16 < (x5.length : Int) then (num_subMag.l0 k x1 (x5.set (x16 : Int).toNat ((IntKind.u64.wrap ((IntKind.u64.wrap ((IntKind.u64.wrap (rd x14 x16)) - 0)) - x6)) % 4294967296)) ((IntKind.u64.wrap ((IntKind.u64.wrap ((IntKind.u64.wrap (rd x14 x16)) - 0)) - x6)) / 9223372036854775808) x14 x15 (wrap64 (x16 + 1))) else (none))) else (none)) else (none)) else ((num_trim.f k x5).bind fun t124 => (some t124))
def num_subMag.f (k : Nat) (l0 : List Int) (l1 : List Int) : Option (List Int) := if 0 ≤ (l0.length : Int) then (if ((l0.length : Int) : Int).toNat ≤ 70368744177664 then (num_subMag.l0 k l1 (List.replicate ((l0.length : Int) : Int).toNat 0) 0 l0 (l0.length : Int) 0) else (none)) else (none)
theorem num_subMag.calls (k : Nat) (A0 : Option Addr) (c0 : Nat) (l0 : List Int) (A1 : Option Addr) (c1 : Nat) (l1 : List Int) (r : List Int) (w : World) (hr0 : Kd.C (Kd.int .u32) w A0 l0.length l0) (hc0 : l0.length ≤ c0) (hr1 : Kd.C (Kd.int .u32) w A1 l1.length l1) (hc1 : l1.length ≤ c1) (h : num_subMag.f k l0 l1 = some r) :
  Calls Tryz.prog 138 #[.slice A0 l0.length c0, .slice A1 l1.length c1] w fun e w' => ∃ v0_ : Value, e = .returned (v0_) ∧ Kd.V (Kd.int .u32) 157 w' w.heap.size (fun k_ => (w.heap.size ≤ k_)) v0_ r ∧ Below w.heap.size w w' := by
 have HR0 := aS hr0; have HC0 := aS hc0; clear hr0 hc0; have HR1 := aS hr1; have HC1 := aS hc1; clear hr1 hc1; have HB := aS (Below.refl w.heap.size w); have H : (if 0 ≤ (l0.length : Int) then (if ((l0.length : Int) : Int).toNat ≤ 70368744177664 then (num_subMag.l0 k l1 (List.replicate ((l0.length : Int) : Int).toNat 0) 0 l0 (l0.length : Int) 0) else (none)) else (none)) = some r := h; clear h
 by_cases c3 : 0 ≤ (l0.length : Int)
 ·rw [if_pos c3] at H; have c3b0 := eq_true c3; have c3b1 : decide (0 ≤ (l0.length : Int)) = true := decide_eq_true c3; clear c3
  by_cases c4 : ((l0.length : Int) : Int).toNat ≤ 70368744177664
  ·rw [if_pos c4] at H; have c4b0 := eq_true c4; have c4b1 : decide (((l0.length : Int) : Int).toNat ≤ 70368744177664) = true := decide_eq_true c4; clear c4; obtain ⟨y117, hy117⟩ : ∃ y_ : List Int, y_ = (List.replicate ((l0.length : Int) : Int).toNat 0) := ⟨_, rfl⟩; replace H : (num_subMag.l0 k l1 y117 0 l0 (l0.length : Int) 0) = some r := by first | (rw [hy117]; with_reducible exact H) | (have H2_ := (Option.bind_some _ _).symm.trans H; rw [hy117]; with_reducible exact H2_) | (have H2_ := (Option.bind_some _ _).symm.trans H; with_reducible exact H2_) | with_reducible exact H | (rw [hy117]; exact H) | exact H
   have Ny117 := aS hy117; clear hy117; have H' := aS H; clear H
   go_enter Tryz.func138, Tryz.ntmps138
   go_wp2_with (first | ((with_reducible refine gate_dst (N := 13) rfl ?_); refine Kd.R_make (Kd.int .u32) _ 157 rfl (N := 13) rfl 117 _ _ rfl (l0.length : Int) rfl rfl Tryz.underlying117 (.int .u32 0) 4 info157 rfl (by decide) (by omega) 0 (ok := fun _ => True) (okp := fun _ => True) rfl (fun _ hk => hk) trivial (od) (Nat.le_trans (Nat.mul_le_mul_right _ (od : (l0.length : Int).toNat ≤ 70368744177664)) (by omega)) (Below.refl _ _) (Nat.le_refl _) ?_; intro v118 w5 ho6 hb hg_ hnew_; clear hg_ hnew_; (first | rw [← Ny117.out] at ho6 | (simp only [Int.reduceToNat] at ho6; rw [← Ny117.out] at ho6)); have HO119 := aS (Kd.R_lower (Kd.R_newM (M := fun k_ => (w.heap.size ≤ k_)) ho6 sz (fun k_ h_ => h_)) sz); replace HB := bp hb; clear hb ho6))
   go_loopg [6, 16] k (fun kq v6 v16 w' => ∃ (x5_1 : List Int) (x6_1 : Int) (x16_1 : Int), v6 = .int .u64 x6_1 ∧ v16 = .int .i64 x16_1 ∧ Aside0 (num_subMag.l0 kq l1 x5_1 x6_1 l0 (l0.length : Int) x16_1 = some r) ∧ Aside0 (kq ≤ k) ∧ Aside0 (Kd.R (Kd.int .u32) 157 w' w.heap.size (fun k_ => (w.heap.size ≤ k_)) v118 x5_1) ∧ Aside0 (Below w.heap.size w w'))
   case atStart => exact ⟨(y117), (0), (0), jz, jz, H', ⟨Nat.le_refl _⟩, ⟨by refine aR ?_; exact Kd.R_mono HO119.out (fun _ hk => hk.1)⟩, ⟨bz⟩⟩
   case round =>
    clear H'
    try clear c1
    try clear p2
    try clear c3
    try clear c3b0
    try clear c3b1
    try clear c4
    try clear c4b0
    try clear c4b1
    obtain ⟨x5_1, x6_1, x16_1, rfl, rfl, HA, HK1, HO_5, HB⟩ := hrel
    cases gk with
    | zero => exact absurd HA.out (by simp [num_subMag.l0])
    | succ k1 =>
     have H := HA.out; clear HA; simp only [num_subMag.l0] at H
     by_cases c7 : x16_1 < (l0.length : Int)
     ·rw [if_pos c7] at H; have c7b0 : decide (x16_1 < (l0.length : Int)) = true := decide_eq_true c7; clear c7
      by_cases c8 : 0 ≤ x16_1
      ·rw [if_pos c8] at H; have c8b0 : decide (0 ≤ x16_1) = true := decide_eq_true c8; clear c8
       by_cases c9 : x16_1 < (l0.length : Int)
       ·rw [if_pos c9] at H; have c9b0 : decide (x16_1 < (l0.length : Int)) = true := decide_eq_true c9; clear c9
        by_cases c10 : x16_1 < (l1.length : Int)
        ·rw [if_pos c10] at H; have c10b0 : decide (x16_1 < (l1.length : Int)) = true := decide_eq_true c10; clear c10
         by_cases c11 : x16_1 < (x5_1.length : Int)
         ·rw [if_pos c11] at H; have c11b0 : decide (x16_1 < (x5_1.length : Int)) = true := decide_eq_true c11; clear c11; obtain ⟨y122, hy122⟩ : ∃ y_ : List Int, y_ = (x5_1.set (x16_1 : Int).toNat ((IntKind.u64.wrap ((IntKind.u64.wrap ((IntKind.u64.wrap (rd l0 x16_1)) - (IntKind.u64.wrap (rd l1 x16_1)))) - x6_1)) % 4294967296)) := ⟨_, rfl⟩; replace H : (num_subMag.l0 k1 l1 y122 ((IntKind.u64.wrap ((IntKind.u64.wrap ((IntKind.u64.wrap (rd l0 x16_1)) - (IntKind.u64.wrap (rd l1 x16_1)))) - x6_1)) / 9223372036854775808) l0 (l0.length : Int) (wrap64 (x16_1 + 1))) = some r := by first | (rw [hy122]; with_reducible exact H) | (have H2_ := (Option.bind_some _ _).symm.trans H; rw [hy122]; with_reducible exact H2_) | (have H2_ := (Option.bind_some _ _).symm.trans H; with_reducible exact H2_) | with_reducible exact H | (rw [hy122]; exact H) | exact H
          have Ny122 := aS hy122; clear hy122; have H' := aS H; clear H; have p120 : 0 ≤ (x16_1 : Int) := od; have q120 : x16_1 < (l0.length : Int) := od; obtain ⟨ad120, e120, hx120_0⟩ := Kd.at_int HR0.out x16_1 p120 q120
          cases e120
          replace hx120_0 := cl HB hx120_0; replace p120 := eq_true p120; replace q120 := eq_true q120; have p121 : 0 ≤ (x16_1 : Int) := od; have q121 : x16_1 < (l1.length : Int) := od; obtain ⟨ad121, e121, hx121_0⟩ := Kd.at_int HR1.out x16_1 p121 q121
          cases e121
          replace hx121_0 := cl HB hx121_0; replace p121 := eq_true p121; replace q121 := eq_true q121; have p12 : 0 ≤ (x16_1 : Int) := od; have q12 : (x16_1 : Int) < ((x5_1.length : Int) : Int) := od; obtain ⟨go12, co12, eo12, gb12, gl12, cl12, HG12⟩ := Kd.R_form HO_5.out (by omega)
          (first | cases eo12 | (injection eo12 with ea_ en_ ec_; (first | subst ea_ | (injection ea_ with ea_; subst ea_)); subst ec_; clear en_))
          have GB12 := aS gb12; have GG12 := aS HG12; clear gb12 gl12 HG12; obtain ⟨hx12_0, hf12_0⟩ := Kd.R_celln 0 HO_5.out (x16_1 : Int) p12 q12; replace p12 := eq_true p12; replace q12 := eq_true q12; have HP13 := Kd.R_putg HO_5.out (x16_1 : Int) ((IntKind.u64.wrap ((IntKind.u64.wrap ((IntKind.u64.wrap (rd l0 x16_1)) - (IntKind.u64.wrap (rd l1 x16_1)))) - x6_1)) % 4294967296)
          go_wp2_with (first | ((with_reducible refine gate_store (t := 157) (p := 40) rfl ?_); refine store_event (t := 157) (p := 40) (v := ?vo_w14) (w1 := (wr.setCell ⟨go12, (x16_1 : Int).toNat, none⟩ (.int .u32 ((IntKind.u64.wrap ((IntKind.u64.wrap ((IntKind.u64.wrap (rd l0 x16_1)) - (IntKind.u64.wrap (rd l1 x16_1)))) - x6_1)) % 4294967296)))) ?hg ?ho ?hn ?hr ?_; (case ho => rfl); (case hg => rfl); (case hn => rfl); (case hr => first | (go_simp; done) | (go_simp; rfl)); intro w14 hw; have hg : wr.grownBy w14 (some go12) := (by rw [hw]; exact HP13.2); have hp_ : Kd.R (Kd.int .u32) 157 w14 w.heap.size (fun k_ => (w.heap.size ≤ k_)) (.slice (some ⟨go12, 0, none⟩) x5_1.length co12) y122 := (by rw [hw, Ny122.out]; exact HP13.1); clear HP13; replace HO_5 := aS (hp_); replace HB := aS ((by rw [hw]; exact below_set (HB.out) GB12.out : Below w.heap.size w w14)); clear hg hw hp_))
          go_roundg k1
          case measure => have := HK1.out; omega
          case rel => exact ⟨(y122), ((IntKind.u64.wrap ((IntKind.u64.wrap ((IntKind.u64.wrap (rd l0 x16_1)) - (IntKind.u64.wrap (rd l1 x16_1)))) - x6_1)) / 9223372036854775808), (wrap64 (x16_1 + 1)), jz, jz, H', ⟨by have := HK1.out; omega⟩, ⟨rz HO_5⟩, ⟨bz⟩⟩
         rw [if_neg c11] at H
         exact absurd H (by simp)
        rw [if_neg c10] at H; have c10b0 : decide (x16_1 < (l1.length : Int)) = false := decide_eq_false c10; clear c10
        by_cases c15 : x16_1 < (x5_1.length : Int)
        ·rw [if_pos c15] at H; have c15b0 : decide (x16_1 < (x5_1.length : Int)) = true := decide_eq_true c15; clear c15; obtain ⟨y123, hy123⟩ : ∃ y_ : List Int, y_ = (x5_1.set (x16_1 : Int).toNat ((IntKind.u64.wrap ((IntKind.u64.wrap ((IntKind.u64.wrap (rd l0 x16_1)) - 0)) - x6_1)) % 4294967296)) := ⟨_, rfl⟩; replace H : (num_subMag.l0 k1 l1 y123 ((IntKind.u64.wrap ((IntKind.u64.wrap ((IntKind.u64.wrap (rd l0 x16_1)) - 0)) - x6_1)) / 9223372036854775808) l0 (l0.length : Int) (wrap64 (x16_1 + 1))) = some r := by first | (rw [hy123]; with_reducible exact H) | (have H2_ := (Option.bind_some _ _).symm.trans H; rw [hy123]; with_reducible exact H2_) | (have H2_ := (Option.bind_some _ _).symm.trans H; with_reducible exact H2_) | with_reducible exact H | (rw [hy123]; exact H) | exact H
         have Ny123 := aS hy123; clear hy123; have H' := aS H; clear H; have p120 : 0 ≤ (x16_1 : Int) := od; have q120 : x16_1 < (l0.length : Int) := od; obtain ⟨ad120, e120, hx120_0⟩ := Kd.at_int HR0.out x16_1 p120 q120
         cases e120
         replace hx120_0 := cl HB hx120_0; replace p120 := eq_true p120; replace q120 := eq_true q120; have p16 : 0 ≤ (x16_1 : Int) := od; have q16 : (x16_1 : Int) < ((x5_1.length : Int) : Int) := od; obtain ⟨go16, co16, eo16, gb16, gl16, cl16, HG16⟩ := Kd.R_form HO_5.out (by omega)
         (first | cases eo16 | (injection eo16 with ea_ en_ ec_; (first | subst ea_ | (injection ea_ with ea_; subst ea_)); subst ec_; clear en_))
         have GB16 := aS gb16; have GG16 := aS HG16; clear gb16 gl16 HG16; obtain ⟨hx16_0, hf16_0⟩ := Kd.R_celln 0 HO_5.out (x16_1 : Int) p16 q16; replace p16 := eq_true p16; replace q16 := eq_true q16; have HP17 := Kd.R_putg HO_5.out (x16_1 : Int) ((IntKind.u64.wrap ((IntKind.u64.wrap ((IntKind.u64.wrap (rd l0 x16_1)) - 0)) - x6_1)) % 4294967296)
         go_wp2_with (first | ((with_reducible refine gate_store (t := 157) (p := 40) rfl ?_); refine store_event (t := 157) (p := 40) (v := ?vo_w18) (w1 := (wr.setCell ⟨go16, (x16_1 : Int).toNat, none⟩ (.int .u32 ((IntKind.u64.wrap ((IntKind.u64.wrap ((IntKind.u64.wrap (rd l0 x16_1)) - 0)) - x6_1)) % 4294967296)))) ?hg ?ho ?hn ?hr ?_; (case ho => rfl); (case hg => rfl); (case hn => rfl); (case hr => first | (go_simp; done) | (go_simp; rfl)); intro w18 hw; have hg : wr.grownBy w18 (some go16) := (by rw [hw]; exact HP17.2); have hp_ : Kd.R (Kd.int .u32) 157 w18 w.heap.size (fun k_ => (w.heap.size ≤ k_)) (.slice (some ⟨go16, 0, none⟩) x5_1.length co16) y123 := (by rw [hw, Ny123.out]; exact HP17.1); clear HP17; replace HO_5 := aS (hp_); replace HB := aS ((by rw [hw]; exact below_set (HB.out) GB16.out : Below w.heap.size w w18)); clear hg hw hp_))
         go_roundg k1
         case measure => have := HK1.out; omega
         case rel => exact ⟨(y123), ((IntKind.u64.wrap ((IntKind.u64.wrap ((IntKind.u64.wrap (rd l0 x16_1)) - 0)) - x6_1)) / 9223372036854775808), (wrap64 (x16_1 + 1)), jz, jz, H', ⟨by have := HK1.out; omega⟩, ⟨rz HO_5⟩, ⟨bz⟩⟩
        rw [if_neg c15] at H
        exact absurd H (by simp)
       rw [if_neg c9] at H
       exact absurd H (by simp)
      rw [if_neg c8] at H
      exact absurd H (by simp)
     rw [if_neg c7] at H; have c7b0 : decide (x16_1 < (l0.length : Int)) = false := decide_eq_false c7; clear c7; obtain ⟨t124, A19, H⟩ := ob H; obtain rfl := Option.some.inj H; obtain ⟨Ao20, co20, eo20⟩ := Kd.R_slice HO_5.out; subst eo20
     go_wp2_with (first | ((with_reducible refine gate_callee (f := 154) rfl ?_); refine zC 45 Tryz.func154 #[.slice Ao20 x5_1.length co20] ?_; (with_reducible refine (num_trim.calls k1 (fun k_ => some k_ = (.slice Ao20 x5_1.length co20 : Value).ownBlock) _ _ x5_1 t124 _ ?side1 A19.out).mono ?_); (case side1 => exact Kd.R_V (Kd.R_tight rfl (HO_5.out))); rintro e w21 ⟨v125, rfl, ho0, hb⟩; refine ⟨_, rfl, ?_⟩; have HO126 := aS (Kd.V_lower (Kd.V_mono (ok' := fun k_ => (w.heap.size ≤ k_)) ho0 (fun k_ hk_ => Or.elim hk_ (fun hs_ => ((HO_5.out).1 k_ hs_.symm)) (fun hn_ => (Nat.le_trans sz hn_)))) sz); replace HO_5 := aS (Kd.R_below (rz HO_5) hb); replace HB := bp hb; clear hb ho0))
     go_ret
     exact ⟨_, ez, by refine aV ?_; exact HO126.out, bz⟩
  rw [if_neg c4] at H
  exact absurd H (by simp)
 rw [if_neg c3] at H
 exact absurd H (by simp)
mutual
def num_mulMag.l0 : Nat → List Int → List Int → List Int → Int → Int → Option (List Int)
  | 0, _, _, _, _, _ => none
  | k + 1, x1, x5, x17, x18, x19 => if x19 < x18 then (if 0 ≤ x19 then (if x19 < (x17.length : Int) then (num_mulMag.l1 k x1 x5 x19 (rd x17 x19) 0 x17 x18 x19 x1 (x1.length : Int) 0) else (none)) else (none)) else ((num_trim.f k x5).bind fun t130 => (some t130))
def num_mulMag.l1 : Nat → List Int → List Int → Int → Int → Int → List Int → Int → Int → List Int → Int → Int → Option (List Int)
  | 0, _, _, _, _, _, _, _, _, _, _, _ => none
  | k + 1, x1, x5, x6, x7, x8, x17, x18, x19, x24, x25, x26 => if x26 < x25 then (if 0 ≤ x26 then (if x26 < (x24.length : Int) then (if 0 ≤ (wrap64 (x6 + x26)) then (if (wrap64 (x6 + x26)) < (x5.length : Int) then (num_mulMag.l1 k x1 (x5.set ((wrap64 (x6 + x26)) : Int).toNat ((IntKind.u64.wrap (x8 + (IntKind.u64.wrap ((IntKind.u64.wrap ((IntKind.u64.wrap (x7)) * (IntKind.u64.wrap (rd x24 x26)))) + (IntKind.u64.wrap (rd x5 (wrap64 (x6 + x26)))))))) % 4294967296)) x6 x7 ((IntKind.u64.wrap (x8 + (IntKind.u64.wrap ((IntKind.u64.wrap ((IntKind.u64.wrap (x7)) * (IntKind.u64.wrap (rd x24 x26)))) + (IntKind.u64.wrap (rd x5 (wrap64 (x6 + x26)))))))) / 4294967296) x17 x18 x19 x24 x25 (wrap64 (x26 + 1))) else (none)) else (none)) else (none)) else (none)) else (if 0 ≤ (wrap64 (x6 + (x1.length : Int))) then (if (wrap64 (x6 + (x1.length : Int))) < (x5.length : Int) then (num_mulMag.l0 k x1 (x5.set ((wrap64 (x6 + (x1.length : Int))) : Int).toNat ((x8) % 4294967296)) x17 x18 (wrap64 (x19 + 1))) else (none)) else (none))
end
def num_mulMag.f (k : Nat) (l0 : List Int) (l1 : List Int) : Option (List Int) := if 0 ≤ (wrap64 ((l0.length : Int) + (l1.length : Int))) then (if (wrap64 ((l0.length : Int) + (l1.length : Int)) : Int).toNat ≤ 70368744177664 then (num_mulMag.l0 k l1 (List.replicate (wrap64 ((l0.length : Int) + (l1.length : Int)) : Int).toNat 0) l0 (l0.length : Int) 0) else (none)) else (none)
theorem num_mulMag.calls (k : Nat) (A0 : Option Addr) (c0 : Nat) (l0 : List Int) (A1 : Option Addr) (c1 : Nat) (l1 : List Int) (r : List Int) (w : World) (hr0 : Kd.C (Kd.int .u32) w A0 l0.length l0) (hc0 : l0.length ≤ c0) (hr1 : Kd.C (Kd.int .u32) w A1 l1.length l1) (hc1 : l1.length ≤ c1) (h : num_mulMag.f k l0 l1 = some r) :
  Calls Tryz.prog 156 #[.slice A0 l0.length c0, .slice A1 l1.length c1] w fun e w' => ∃ v0_ : Value, e = .returned (v0_) ∧ Kd.V (Kd.int .u32) 157 w' w.heap.size (fun k_ => (w.heap.size ≤ k_)) v0_ r ∧ Below w.heap.size w w' := by
 have HR0 := aS hr0; have HC0 := aS hc0; clear hr0 hc0; have HR1 := aS hr1; have HC1 := aS hc1; clear hr1 hc1; have HB := aS (Below.refl w.heap.size w); have H : (if 0 ≤ (wrap64 ((l0.length : Int) + (l1.length : Int))) then (if (wrap64 ((l0.length : Int) + (l1.length : Int)) : Int).toNat ≤ 70368744177664 then (num_mulMag.l0 k l1 (List.replicate (wrap64 ((l0.length : Int) + (l1.length : Int)) : Int).toNat 0) l0 (l0.length : Int) 0) else (none)) else (none)) = some r := h; clear h; obtain ⟨ji3, hji3⟩ : ∃ j_ : Int, (wrap64 ((l0.length : Int) + (l1.length : Int))) = j_ := ⟨_, rfl⟩; replace H : (if 0 ≤ (ji3) then (if (ji3 : Int).toNat ≤ 70368744177664 then (num_mulMag.l0 k l1 (List.replicate (ji3 : Int).toNat 0) l0 (l0.length : Int) 0) else (none)) else (none)) = some r := by first | (rw [hji3] at H; exact H) | (simp only [hji3] at H ⊢; exact H)
 have hji3w : (IntKind.i64.wrap ((l0.length : Int) + (l1.length : Int))) = ji3 := (i64_w _).trans hji3
 by_cases c4 : 0 ≤ (ji3)
 ·rw [if_pos c4] at H; have c4b0 := eq_true c4; have c4b1 : decide (0 ≤ (ji3)) = true := decide_eq_true c4; clear c4
  by_cases c5 : (ji3 : Int).toNat ≤ 70368744177664
  ·rw [if_pos c5] at H; have c5b0 := eq_true c5; have c5b1 : decide ((ji3 : Int).toNat ≤ 70368744177664) = true := decide_eq_true c5; clear c5; obtain ⟨y127, hy127⟩ : ∃ y_ : List Int, y_ = (List.replicate (ji3 : Int).toNat 0) := ⟨_, rfl⟩; replace H : (num_mulMag.l0 k l1 y127 l0 (l0.length : Int) 0) = some r := by first | (rw [hy127]; with_reducible exact H) | (have H2_ := (Option.bind_some _ _).symm.trans H; rw [hy127]; with_reducible exact H2_) | (have H2_ := (Option.bind_some _ _).symm.trans H; with_reducible exact H2_) | with_reducible exact H | (rw [hy127]; exact H) | exact H
   have Ny127 := aS hy127; clear hy127; have H' := aS H; clear H
   go_enter Tryz.func156, Tryz.ntmps156
   go_wp2_with (first | ((with_reducible refine gate_dst (N := 16) rfl ?_); refine Kd.R_make (Kd.int .u32) _ 157 rfl (N := 16) rfl 117 _ _ rfl ji3 rfl rfl Tryz.underlying117 (.int .u32 0) 4 info157 rfl (by decide) (by omega) 0 (ok := fun _ => True) (okp := fun _ => True) rfl (fun _ hk => hk) trivial (od) (Nat.le_trans (Nat.mul_le_mul_right _ (od : ji3.toNat ≤ 70368744177664)) (by omega)) (Below.refl _ _) (Nat.le_refl _) ?_; intro v128 w6 ho7 hb hg_ hnew_; clear hg_ hnew_; (first | rw [← Ny127.out] at ho7 | (simp only [Int.reduceToNat] at ho7; rw [← Ny127.out] at ho7)); have HO129 := aS (Kd.R_lower (Kd.R_newM (M := fun k_ => (w.heap.size ≤ k_)) ho7 sz (fun k_ h_ => h_)) sz); replace HB := bp hb; clear hb ho7))
   go_loopg [19] k (fun kq v19 w' => ∃ (x5_1 : List Int) (x19_1 : Int), v19 = .int .i64 x19_1 ∧ Aside0 (num_mulMag.l0 kq l1 x5_1 l0 (l0.length : Int) x19_1 = some r) ∧ Aside0 (kq ≤ k) ∧ Aside0 (Kd.R (Kd.int .u32) 157 w' w.heap.size (fun k_ => (w.heap.size ≤ k_)) v128 x5_1) ∧ Aside0 (Below w.heap.size w w'))
   case atStart => exact ⟨(y127), (0), jz, H', ⟨Nat.le_refl _⟩, ⟨by refine aR ?_; exact Kd.R_mono HO129.out (fun _ hk => hk.1)⟩, ⟨bz⟩⟩
   case round =>
    clear H'
    try clear c1
    try clear p2
    try clear c4
    try clear c4b0
    try clear c4b1
    try clear c5
    try clear c5b0
    try clear c5b1
    try clear p6
    obtain ⟨x5_1, x19_1, rfl, HA, HK1, HO_5, HB⟩ := hrel
    cases gk with
    | zero => exact absurd HA.out (by simp [num_mulMag.l0])
    | succ k1 =>
     have H := HA.out; clear HA; simp only [num_mulMag.l0] at H
     by_cases c8 : x19_1 < (l0.length : Int)
     ·rw [if_pos c8] at H; have c8b0 : decide (x19_1 < (l0.length : Int)) = true := decide_eq_true c8; clear c8
      by_cases c9 : 0 ≤ x19_1
      ·rw [if_pos c9] at H; have c9b0 : decide (0 ≤ x19_1) = true := decide_eq_true c9; clear c9
       by_cases c10 : x19_1 < (l0.length : Int)
       ·rw [if_pos c10] at H; have c10b0 : decide (x19_1 < (l0.length : Int)) = true := decide_eq_true c10; clear c10; have H' := aS H; clear H; have p133 : 0 ≤ (x19_1 : Int) := od; have q133 : x19_1 < (l0.length : Int) := od; obtain ⟨ad133, e133, hx133_0⟩ := Kd.at_int HR0.out x19_1 p133 q133
        cases e133
        replace hx133_0 := cl HB hx133_0; replace p133 := eq_true p133; replace q133 := eq_true q133
        go_wp2
        go_loopg [8, 26] k1 (fun kq v8 v26 w' => ∃ (x5_2 : List Int) (x8_2 : Int) (x26_2 : Int), v8 = .int .u64 x8_2 ∧ v26 = .int .i64 x26_2 ∧ Aside0 (num_mulMag.l1 kq l1 x5_2 x19_1 (rd l0 x19_1) x8_2 l0 (l0.length : Int) x19_1 l1 (l1.length : Int) x26_2 = some r) ∧ Aside0 (kq ≤ k1) ∧ Aside0 (Kd.R (Kd.int .u32) 157 w' w.heap.size (fun k_ => (w.heap.size ≤ k_)) v128 x5_2) ∧ Aside0 (Below w.heap.size w w'))
        case atStart => exact ⟨(x5_1), (0), (0), jz, jz, H', ⟨Nat.le_refl _⟩, ⟨rz HO_5⟩, ⟨bz⟩⟩
        case round =>
         clear H'
         try clear c1
         try clear p1
         try clear q1
         try clear hx1
         try clear p2
         try clear c4
         try clear c4b0
         try clear c4b1
         try clear c5
         try clear c5b0
         try clear c5b1
         try clear p6
         try clear c8
         try clear c8b0
         try clear c9
         try clear c9b0
         try clear c10
         try clear c10b0
         try clear hx133_0
         try clear p133
         try clear p2
         try clear p6
         try clear q133
         obtain ⟨x5_2, x8_2, x26_2, rfl, rfl, HA, HK2, HO_5, HB⟩ := hrel
         cases gk with
         | zero => exact absurd HA.out (by simp [num_mulMag.l1])
         | succ k2 =>
          have H := HA.out; clear HA; simp only [num_mulMag.l1] at H
          by_cases c11 : x26_2 < (l1.length : Int)
          ·rw [if_pos c11] at H; have c11b0 : decide (x26_2 < (l1.length : Int)) = true := decide_eq_true c11; clear c11
           by_cases c12 : 0 ≤ x26_2
           ·rw [if_pos c12] at H; have c12b0 : decide (0 ≤ x26_2) = true := decide_eq_true c12; clear c12
            by_cases c13 : x26_2 < (l1.length : Int)
            ·rw [if_pos c13] at H; have c13b0 : decide (x26_2 < (l1.length : Int)) = true := decide_eq_true c13; clear c13; obtain ⟨ji14, hji14⟩ : ∃ j_ : Int, (wrap64 (x19_1 + x26_2)) = j_ := ⟨_, rfl⟩; replace H : (if 0 ≤ (ji14) then (if (ji14) < (x5_2.length : Int) then (num_mulMag.l1 k2 l1 (x5_2.set ((ji14) : Int).toNat ((IntKind.u64.wrap (x8_2 + (IntKind.u64.wrap ((IntKind.u64.wrap ((IntKind.u64.wrap ((rd l0 x19_1))) * (IntKind.u64.wrap (rd l1 x26_2)))) + (IntKind.u64.wrap (rd x5_2 (ji14))))))) % 4294967296)) x19_1 (rd l0 x19_1) ((IntKind.u64.wrap (x8_2 + (IntKind.u64.wrap ((IntKind.u64.wrap ((IntKind.u64.wrap ((rd l0 x19_1))) * (IntKind.u64.wrap (rd l1 x26_2)))) + (IntKind.u64.wrap (rd x5_2 (ji14))))))) / 4294967296) l0 (l0.length : Int) x19_1 l1 (l1.length : Int) (wrap64 (x26_2 + 1))) else (none)) else (none)) = some r := by first | (rw [hji14] at H; exact H) | (simp only [hji14] at H ⊢; exact H)
             have hji14w : (IntKind.i64.wrap (x19_1 + x26_2)) = ji14 := (i64_w _).trans hji14
             by_cases c15 : 0 ≤ (ji14)
             ·rw [if_pos c15] at H; have c15b0 : decide (0 ≤ (ji14)) = true := decide_eq_true c15; clear c15
              by_cases c16 : (ji14) < (x5_2.length : Int)
              ·rw [if_pos c16] at H; have c16b0 : decide ((ji14) < (x5_2.length : Int)) = true := decide_eq_true c16; clear c16; obtain ⟨y136, hy136⟩ : ∃ y_ : List Int, y_ = (x5_2.set ((ji14) : Int).toNat ((IntKind.u64.wrap (x8_2 + (IntKind.u64.wrap ((IntKind.u64.wrap ((IntKind.u64.wrap ((rd l0 x19_1))) * (IntKind.u64.wrap (rd l1 x26_2)))) + (IntKind.u64.wrap (rd x5_2 (ji14))))))) % 4294967296)) := ⟨_, rfl⟩; replace H : (num_mulMag.l1 k2 l1 y136 x19_1 (rd l0 x19_1) ((IntKind.u64.wrap (x8_2 + (IntKind.u64.wrap ((IntKind.u64.wrap ((IntKind.u64.wrap ((rd l0 x19_1))) * (IntKind.u64.wrap (rd l1 x26_2)))) + (IntKind.u64.wrap (rd x5_2 (ji14))))))) / 4294967296) l0 (l0.length : Int) x19_1 l1 (l1.length : Int) (wrap64 (x26_2 + 1))) = some r := by first | (rw [hy136]; with_reducible exact H) | (have H2_ := (Option.bind_some _ _).symm.trans H; rw [hy136]; with_reducible exact H2_) | (have H2_ := (Option.bind_some _ _).symm.trans H; with_reducible exact H2_) | with_reducible exact H | (rw [hy136]; exact H) | exact H
               have Ny136 := aS hy136; clear hy136; have H' := aS H; clear H; have p134 : 0 ≤ (x26_2 : Int) := od; have q134 : x26_2 < (l1.length : Int) := od; obtain ⟨ad134, e134, hx134_0⟩ := Kd.at_int HR1.out x26_2 p134 q134
               cases e134
               replace hx134_0 := cl HB hx134_0; replace p134 := eq_true p134; replace q134 := eq_true q134; obtain ⟨Ao18, co18, eo18⟩ := Kd.R_slice HO_5.out; subst eo18; have p135 : 0 ≤ ((ji14) : Int) := od; have q135 : (ji14) < (x5_2.length : Int) := od; obtain ⟨ad135, e135, hx135_0⟩ := Kd.at_int (Kd.R_reads' HO_5.out).2.2 (ji14) p135 q135
               cases e135
               replace p135 := eq_true p135; replace q135 := eq_true q135; have p17 : 0 ≤ ((ji14) : Int) := od; have q17 : ((ji14) : Int) < ((x5_2.length : Int) : Int) := od; obtain ⟨go17, co17, eo17, gb17, gl17, cl17, HG17⟩ := Kd.R_form HO_5.out (by omega)
               (first | cases eo17 | (injection eo17 with ea_ en_ ec_; (first | subst ea_ | (injection ea_ with ea_; subst ea_)); subst ec_; clear en_))
               have GB17 := aS gb17; have GG17 := aS HG17; clear gb17 gl17 HG17
               (first | simp only [add_plain] at hx135_0 | skip)
               obtain ⟨hx17_0, hf17_0⟩ := Kd.R_celln 0 HO_5.out ((ji14) : Int) p17 q17; replace p17 := eq_true p17; replace q17 := eq_true q17; have HP19 := Kd.R_putg HO_5.out ((ji14) : Int) ((IntKind.u64.wrap (x8_2 + (IntKind.u64.wrap ((IntKind.u64.wrap ((IntKind.u64.wrap ((rd l0 x19_1))) * (IntKind.u64.wrap (rd l1 x26_2)))) + (IntKind.u64.wrap (rd x5_2 (ji14))))))) % 4294967296)
               go_wp2_with (first | ((with_reducible refine gate_store (t := 157) (p := 52) rfl ?_); refine store_event (t := 157) (p := 52) (v := ?vo_w20) (w1 := (wr.setCell ⟨go17, ((ji14) : Int).toNat, none⟩ (.int .u32 ((IntKind.u64.wrap (x8_2 + (IntKind.u64.wrap ((IntKind.u64.wrap ((IntKind.u64.wrap ((rd l0 x19_1))) * (IntKind.u64.wrap (rd l1 x26_2)))) + (IntKind.u64.wrap (rd x5_2 (ji14))))))) % 4294967296)))) ?hg ?ho ?hn ?hr ?_; (case ho => rfl); (case hg => rfl); (case hn => rfl); (case hr => first | (go_simp; done) | (go_simp; rfl)); intro w20 hw; have hg : wr.grownBy w20 (some go17) := (by rw [hw]; exact HP19.2); have hp_ : Kd.R (Kd.int .u32) 157 w20 w.heap.size (fun k_ => (w.heap.size ≤ k_)) (.slice (some ⟨go17, 0, none⟩) x5_2.length co18) y136 := (by rw [hw, Ny136.out]; exact HP19.1); clear HP19; replace HO_5 := aS (hp_); replace HB := aS ((by rw [hw]; exact below_set (HB.out) GB17.out : Below w.heap.size w w20)); clear hg hw hp_))
               go_roundg k2
               case measure => have := HK1.out; have := HK2.out; omega
               case rel => exact ⟨(y136), ((IntKind.u64.wrap (x8_2 + (IntKind.u64.wrap ((IntKind.u64.wrap ((IntKind.u64.wrap ((rd l0 x19_1))) * (IntKind.u64.wrap (rd l1 x26_2)))) + (IntKind.u64.wrap (rd x5_2 (ji14))))))) / 4294967296), (wrap64 (x26_2 + 1)), (by first | rfl | (simp; done) | (simp only [← hji14] <;> (first | rfl | simp)) | (simp [*]; done)), jz, H', ⟨by have := HK1.out; have := HK2.out; omega⟩, ⟨rz HO_5⟩, ⟨bz⟩⟩
              rw [if_neg c16] at H
              exact absurd H (by simp)
             rw [if_neg c15] at H
             exact absurd H (by simp)
            rw [if_neg c13] at H
            exact absurd H (by simp)
           rw [if_neg c12] at H
           exact absurd H (by simp)
          rw [if_neg c11] at H; have c11b0 : decide (x26_2 < (l1.length : Int)) = false := decide_eq_false c11; clear c11; obtain ⟨ji21, hji21⟩ : ∃ j_ : Int, (wrap64 (x19_1 + (l1.length : Int))) = j_ := ⟨_, rfl⟩; replace H : (if 0 ≤ (ji21) then (if (ji21) < (x5_2.length : Int) then (num_mulMag.l0 k2 l1 (x5_2.set ((ji21) : Int).toNat ((x8_2) % 4294967296)) l0 (l0.length : Int) (wrap64 (x19_1 + 1))) else (none)) else (none)) = some r := by first | (rw [hji21] at H; exact H) | (simp only [hji21] at H ⊢; exact H)
          have hji21w : (IntKind.i64.wrap (x19_1 + (l1.length : Int))) = ji21 := (i64_w _).trans hji21
          by_cases c22 : 0 ≤ (ji21)
          ·rw [if_pos c22] at H; have c22b0 : decide (0 ≤ (ji21)) = true := decide_eq_true c22; clear c22
           by_cases c23 : (ji21) < (x5_2.length : Int)
           ·rw [if_pos c23] at H; have c23b0 : decide ((ji21) < (x5_2.length : Int)) = true := decide_eq_true c23; clear c23; obtain ⟨y137, hy137⟩ : ∃ y_ : List Int, y_ = (x5_2.set ((ji21) : Int).toNat ((x8_2) % 4294967296)) := ⟨_, rfl⟩; replace H : (num_mulMag.l0 k2 l1 y137 l0 (l0.length : Int) (wrap64 (x19_1 + 1))) = some r := by first | (rw [hy137]; with_reducible exact H) | (have H2_ := (Option.bind_some _ _).symm.trans H; rw [hy137]; with_reducible exact H2_) | (have H2_ := (Option.bind_some _ _).symm.trans H; with_reducible exact H2_) | with_reducible exact H | (rw [hy137]; exact H) | exact H
            have Ny137 := aS hy137; clear hy137; have H' := aS H; clear H; have p24 : 0 ≤ ((ji21) : Int) := od; have q24 : ((ji21) : Int) < ((x5_2.length : Int) : Int) := od; obtain ⟨go24, co24, eo24, gb24, gl24, cl24, HG24⟩ := Kd.R_form HO_5.out (by omega)
            (first | cases eo24 | (injection eo24 with ea_ en_ ec_; (first | subst ea_ | (injection ea_ with ea_; subst ea_)); subst ec_; clear en_))
            have GB24 := aS gb24; have GG24 := aS HG24; clear gb24 gl24 HG24; obtain ⟨hx24_0, hf24_0⟩ := Kd.R_celln 0 HO_5.out ((ji21) : Int) p24 q24; replace p24 := eq_true p24; replace q24 := eq_true q24; have HP25 := Kd.R_putg HO_5.out ((ji21) : Int) ((x8_2) % 4294967296)
            go_wp2_with (first | ((with_reducible refine gate_store (t := 157) (p := 63) rfl ?_); refine store_event (t := 157) (p := 63) (v := ?vo_w26) (w1 := (wr.setCell ⟨go24, ((ji21) : Int).toNat, none⟩ (.int .u32 ((x8_2) % 4294967296)))) ?hg ?ho ?hn ?hr ?_; (case ho => rfl); (case hg => rfl); (case hn => rfl); (case hr => first | (go_simp; done) | (go_simp; rfl)); intro w26 hw; have hg : wr.grownBy w26 (some go24) := (by rw [hw]; exact HP25.2); have hp_ : Kd.R (Kd.int .u32) 157 w26 w.heap.size (fun k_ => (w.heap.size ≤ k_)) (.slice (some ⟨go24, 0, none⟩) x5_2.length co24) y137 := (by rw [hw, Ny137.out]; exact HP25.1); clear HP25; replace HO_5 := aS (hp_); replace HB := aS ((by rw [hw]; exact below_set (HB.out) GB24.out : Below w.heap.size w w26)); clear hg hw hp_))
            go_roundg k2
            case measure => have := HK1.out; have := HK2.out; omega
            case rel => exact ⟨(y137), (wrap64 (x19_1 + 1)), jz, H', ⟨by have := HK1.out; have := HK2.out; omega⟩, ⟨rz HO_5⟩, ⟨bz⟩⟩
           rw [if_neg c23] at H
           exact absurd H (by simp)
          rw [if_neg c22] at H
          exact absurd H (by simp)
       rw [if_neg c10] at H
       exact absurd H (by simp)
      rw [if_neg c9] at H
      exact absurd H (by simp)
     rw [if_neg c8] at H; have c8b0 : decide (x19_1 < (l0.length : Int)) = false := decide_eq_false c8; clear c8; obtain ⟨t130, A27, H⟩ := ob H; obtain rfl := Option.some.inj H; obtain ⟨Ao28, co28, eo28⟩ := Kd.R_slice HO_5.out; subst eo28
     go_wp2_with (first | ((with_reducible refine gate_callee (f := 154) rfl ?_); refine zC 66 Tryz.func154 #[.slice Ao28 x5_1.length co28] ?_; (with_reducible refine (num_trim.calls k1 (fun k_ => some k_ = (.slice Ao28 x5_1.length co28 : Value).ownBlock) _ _ x5_1 t130 _ ?side1 A27.out).mono ?_); (case side1 => exact Kd.R_V (Kd.R_tight rfl (HO_5.out))); rintro e w29 ⟨v131, rfl, ho0, hb⟩; refine ⟨_, rfl, ?_⟩; have HO132 := aS (Kd.V_lower (Kd.V_mono (ok' := fun k_ => (w.heap.size ≤ k_)) ho0 (fun k_ hk_ => Or.elim hk_ (fun hs_ => ((HO_5.out).1 k_ hs_.symm)) (fun hn_ => (Nat.le_trans sz hn_)))) sz); replace HO_5 := aS (Kd.R_below (rz HO_5) hb); replace HB := bp hb; clear hb ho0))
     go_ret
     exact ⟨_, by first | rfl | (simp [errW_none, errW_some] <;> rfl) | (simp only [← hji3]; first | rfl | (simp [errW_none, errW_some] <;> rfl)) | (simp [*, errW_none, errW_some] <;> rfl), by refine aV ?_; exact HO132.out, bz⟩
  rw [if_neg c5] at H
  exact absurd H (by simp)
 rw [if_neg c4] at H
 exact absurd H (by simp)
end Go.Proofs.YtekommcfpjonmaaGreat.P
namespace Go.Proofs.YtekommcfpjonmaaGreat.Mn
open YtekommcfpjonmaaGreatW.PrintWords Ml P
open RowKit (wrap64)
theorem w64 {x : Int} (h0 : -9223372036854775808 ≤ x) (h1 : x ≤ 9223372036854775807) : wrap64 x = x := by
 unfold wrap64; omega
theorem u64 {x : Int} (h0 : 0 ≤ x) (h1 : x < 18446744073709551616) : IntKind.u64.wrap x = x := by
 show x % 18446744073709551616 = x
 exact Int.emod_eq_of_lt h0 h1
theorem u64m (x : Int) : IntKind.u64.wrap x = x % 18446744073709551616 := rfl
theorem rd_nat (l : List Int) (i : Nat) : rd l (i : Int) = l.getD i 0 := by simp [rd]
theorem trim_l : ∀ (n : Nat) (l : List Int), l.length = n → Dg 4294967296 l → n ≤ 1099511627776 → ∀ k, n < k → ∃ r, num_trim.l0 k l = some r ∧ Cn 4294967296 r ∧ dv 4294967296 r = dv 4294967296 l ∧ r.length ≤ n := by
 intro n
 induction n with
 | zero =>
  intro l hl hd _ k hk
  obtain ⟨k, rfl⟩ : ∃ m, k = m + 1 := ⟨k - 1, by omega⟩
  have e : l = [] := List.eq_nil_of_length_eq_zero hl
  subst e
  exact ⟨[], by simp only [num_trim.l0]; rw [if_neg (by simp)], Cn.nil 4294967296, rfl, by simp⟩
 | succ n ih =>
  intro l hl hd hn k hk
  obtain ⟨k, rfl⟩ : ∃ m, k = m + 1 := ⟨k - 1, by omega⟩
  have e1 : wrap64 ((l.length : Int) - 1) = (n : Int) := by rw [w64 (by omega) (by omega)]; omega
  simp only [num_trim.l0, e1, rd_nat, Int.toNat_natCast]
  rw [if_pos (by omega), if_pos (by omega), if_pos (by omega)]
  by_cases h0 : l.getD n 0 = 0
  ·rw [if_pos h0, if_pos (by omega)]
   obtain ⟨r, h1, h2, h3, h4⟩ := ih (l.take n) (by simp; omega) (hd.take n) (by omega) k (by omega)
   have h5 := dv_take_succ 4294967296 l n (by omega)
   rw [List.take_of_length_le (by omega), h0] at h5
   exact ⟨r, h1, h2, by rw [h3, h5]; omega, by omega⟩
  rw [if_neg h0]
  exact ⟨l, rfl, ⟨hd, top_of_getD (by rw [hl]; exact h0)⟩, rfl, by omega⟩
theorem trim_f (l : List Int) (hd : Dg 4294967296 l) (hn : l.length ≤ 1099511627776) (k : Nat) (hk : l.length < k) : ∃ r, num_trim.f k l = some r ∧ Cn 4294967296 r ∧ dv 4294967296 r = dv 4294967296 l ∧ r.length ≤ l.length :=
 trim_l l.length l rfl hd hn k hk
theorem magOf_f (v : Int) (h0 : 0 ≤ v) (h1 : v < 18446744073709551616) : ∃ r, num_magOf.f 3 v = some r ∧ Cn 4294967296 r ∧ dv 4294967296 r = v ∧ r.length ≤ 2 := by
 have hd : Dg 4294967296 [v % 4294967296, (v / 4294967296) % 4294967296] := by
  refine Dg.cons ?_ ?_ (Dg.cons ?_ ?_ (Dg.nil 4294967296)) <;> omega
 obtain ⟨r, h2, h3, h4, h5⟩ := trim_f _ hd (by simp) 3 (by simp)
 refine ⟨r, ?_, h3, ?_, by simpa using h5⟩
 ·unfold num_magOf.f
  rw [h2]
  rfl
 rw [h4]
 simp only [dv]
 omega
def Sg (c a b : Int) : Prop := (c < 0 ↔ a < b) ∧ (c = 0 ↔ a = b) ∧ (0 < c ↔ b < a)
theorem cmp_l (a b : List Int) (ha : Dg 4294967296 a) (hb : Dg 4294967296 b) (hl : a.length = b.length) (hn : a.length ≤ 1099511627776) : ∀ (i : Nat), i ≤ a.length → dv 4294967296 (a.drop i) = dv 4294967296 (b.drop i) → ∀ k, i < k →
  ∃ c, num_cmpMag.l0 k a b ((i : Int) - 1) = some c ∧ Sg c (dv 4294967296 a) (dv 4294967296 b) ∧ -1 ≤ c ∧ c ≤ 1 := by
 intro i
 induction i with
 | zero =>
  intro _ hs k hk
  obtain ⟨k, rfl⟩ : ∃ m, k = m + 1 := ⟨k - 1, by omega⟩
  refine ⟨0, ?_, ?_, by omega, by omega⟩
  ·simp only [num_cmpMag.l0]
   rw [if_neg (by omega)]
  simp only [List.drop_zero] at hs
  unfold Sg
  omega
 | succ i ih =>
  intro hi hs k hk
  obtain ⟨k, rfl⟩ : ∃ m, k = m + 1 := ⟨k - 1, by omega⟩
  have e1 : (((i + 1 : Nat) : Int) - 1) = (i : Int) := by omega
  have e2 : wrap64 ((i : Int) - 1) = (i : Int) - 1 := w64 (by omega) (by omega)
  rw [e1]
  simp only [num_cmpMag.l0, rd_nat, e2]
  rw [if_pos (by omega), if_pos (by omega), if_pos (by omega), if_pos (by omega)]
  have e3 := dv_drop 4294967296 a i (by omega)
  have e4 := dv_drop 4294967296 b i (by omega)
  by_cases h0 : a.getD i 0 = b.getD i 0
  ·rw [if_pos h0]
   exact ih (by omega) (by rw [e3, e4, hs, h0]) k (by omega)
  rw [if_neg h0]
  by_cases h1 : a.getD i 0 < b.getD i 0
  ·rw [if_pos h1]
   have := dv_less (by decide) ha hb hl i (by omega) hs h1
   exact ⟨-1, rfl, by unfold Sg; omega, by omega, by omega⟩
  rw [if_neg h1]
  have := dv_less (by decide) hb ha hl.symm i (by omega) hs.symm (by omega)
  exact ⟨1, rfl, by unfold Sg; omega, by omega, by omega⟩
theorem cmp_f (a b : List Int) (ha : Cn 4294967296 a) (hb : Cn 4294967296 b) (hn : a.length ≤ 1099511627776) (hm : b.length ≤ 1099511627776) (k : Nat) (hk : a.length < k) :
  ∃ c, num_cmpMag.f k a b = some c ∧ Sg c (dv 4294967296 a) (dv 4294967296 b) ∧ -1099511627776 ≤ c ∧ c ≤ 1099511627776 := by
 unfold num_cmpMag.f
 by_cases hl : (a.length : Int) = b.length
 ·rw [if_pos hl, w64 (by omega) (by omega)]
  obtain ⟨c, h1, h2, h3, h4⟩ := cmp_l a b ha.dg hb.dg (by omega) hn a.length (Nat.le_refl _) (by rw [List.drop_of_length_le (Nat.le_refl _), List.drop_of_length_le (by omega)]) k hk
  exact ⟨c, h1, h2, by omega, by omega⟩
 rw [if_neg hl, w64 (by omega) (by omega)]
 refine ⟨_, rfl, ?_, by omega, by omega⟩
 rcases Nat.lt_or_ge a.length b.length with h | h
 ·have := dv_len (by decide) ha.dg hb h
  unfold Sg
  omega
 have := dv_len (by decide) hb.dg ha (by omega)
 unfold Sg
 omega
theorem mul_step {o0 c x y D P r q o B : Int} (h : r + B * q = c + (x * y + o)) : o0 + c * P + x * (y + B * D) * P = o0 + (r - o) * P + q * (P * B) + x * D * (P * B) := by
 have h1 : (r + B * q) * P = (c + (x * y + o)) * P := by rw [h]
 grind
theorem mul_num {c x y o : Int} (hc0 : 0 ≤ c) (hc1 : c < 4294967296) (hx0 : 0 ≤ x) (hx1 : x < 4294967296) (hy0 : 0 ≤ y) (hy1 : y < 4294967296) (ho0 : 0 ≤ o) (ho1 : o < 4294967296) :
  ∃ r q, IntKind.u64.wrap (c + IntKind.u64.wrap (IntKind.u64.wrap (IntKind.u64.wrap x * IntKind.u64.wrap y) + IntKind.u64.wrap o)) % 4294967296 = r ∧
   IntKind.u64.wrap (c + IntKind.u64.wrap (IntKind.u64.wrap (IntKind.u64.wrap x * IntKind.u64.wrap y) + IntKind.u64.wrap o)) / 4294967296 = q ∧ 0 ≤ r ∧ r < 4294967296 ∧ 0 ≤ q ∧ q < 4294967296 ∧ r + 4294967296 * q = c + (x * y + o) := by
 have hxy := mul_lt_sq hx0 hx1 hy0 hy1
 rw [u64 (x := x) (by omega) (by omega), u64 (x := y) (by omega) (by omega), u64 (x := o) (by omega) (by omega)]
 generalize x * y = xy at *
 rw [u64 (x := xy) (by omega) (by omega), u64 (x := xy + o) (by omega) (by omega), u64 (x := c + (xy + o)) (by omega) (by omega)]
 exact ⟨_, _, rfl, rfl, by omega, by omega, by omega, by omega, by omega⟩
theorem sub_num {x y c : Int} (hc0 : 0 ≤ c) (hc1 : c ≤ 1) (hx0 : 0 ≤ x) (hx1 : x < 4294967296) (hy0 : 0 ≤ y) (hy1 : y < 4294967296) :
  ∃ r q, IntKind.u64.wrap (IntKind.u64.wrap (IntKind.u64.wrap x - IntKind.u64.wrap y) - c) % 4294967296 = r ∧ IntKind.u64.wrap (IntKind.u64.wrap (IntKind.u64.wrap x - IntKind.u64.wrap y) - c) / 9223372036854775808 = q ∧
   0 ≤ r ∧ r < 4294967296 ∧ 0 ≤ q ∧ q ≤ 1 ∧ r = x - y - c + 4294967296 * q := by
 rw [u64 (x := x) (by omega) (by omega), u64 (x := y) (by omega) (by omega), u64m, u64m]
 exact ⟨_, _, rfl, rfl, by omega, by omega, by omega, by omega, by omega⟩
theorem wadd {i j : Nat} (h : i + j ≤ 2199023255552) : wrap64 ((i : Int) + (j : Int)) = ((i + j : Nat) : Int) := by rw [w64 (by omega) (by omega)]; omega
theorem wsucc {i : Nat} (h : i ≤ 2199023255552) : wrap64 ((i : Int) + 1) = ((i + 1 : Nat) : Int) := by rw [w64 (by omega) (by omega)]; omega
theorem mul_l1 (a b : List Int) (i : Nat) (x : Int) (hb : Dg 4294967296 b) (hx0 : 0 ≤ x) (hx1 : x < 4294967296) (hn : i + b.length ≤ 1099511627776) :
  ∀ (d j : Nat) (out : List Int) (c : Int), j + d = b.length → Dg 4294967296 out → 0 ≤ c → c < 4294967296 → i + b.length < out.length → out.getD (i + b.length) 0 = 0 →
  ∃ out', (∀ k, num_mulMag.l1 (k + d + 1) b out i x c a a.length i b b.length j = num_mulMag.l0 k b out' a a.length ((i : Int) + 1)) ∧ out'.length = out.length ∧ Dg 4294967296 out' ∧
   dv 4294967296 out' = dv 4294967296 out + c * pw 4294967296 (i + j) + x * dv 4294967296 (b.drop j) * pw 4294967296 (i + j) ∧ ∀ m, i + 1 + b.length ≤ m → out'.getD m 0 = out.getD m 0 := by
 intro d
 induction d with
 | zero =>
  intro j out c hj ho hc0 hc1 hl hz
  refine ⟨out.set (i + b.length) c, fun k => ?_, by simp, ho.set _ hc0 hc1, ?_, fun m hm => getD_set (by omega)⟩
  ·have e1 : wrap64 ((i : Int) + (b.length : Int)) = ((i + b.length : Nat) : Int) := wadd (by omega)
   have e2 : c % 4294967296 = c := Int.emod_eq_of_lt hc0 hc1
   have e3 : wrap64 ((i : Int) + 1) = (i : Int) + 1 := w64 (by omega) (by omega)
   simp only [num_mulMag.l1, e1, e2, e3, Int.toNat_natCast]
   rw [if_neg (by omega), if_pos (by omega), if_pos (by omega)]
  have e : j = b.length := by omega
  subst e
  rw [dv_set _ _ _ _ hl, hz, List.drop_of_length_le (Nat.le_refl _), dv_nil]
  simp
 | succ d ih =>
  intro j out c hj ho hc0 hc1 hl hz
  have hy := hb.getD (by decide) j
  have ho' := ho.getD (by decide) (i + j)
  generalize hyv : b.getD j 0 = y at hy
  generalize hov : out.getD (i + j) 0 = o at ho'
  obtain ⟨r, q, hr, hq, hr0, hr1, hq0, hq1, hs⟩ := mul_num hc0 hc1 hx0 hx1 hy.1 hy.2 ho'.1 ho'.2
  obtain ⟨out', h1, h2, h3, h4, h5⟩ := ih (j + 1) (out.set (i + j) r) q (by omega) (ho.set _ hr0 hr1) hq0 hq1 (by simpa using hl) (by rw [getD_set (by omega)]; exact hz)
  refine ⟨out', fun k => ?_, by simpa using h2, h3, ?_, fun m hm => by rw [h5 m hm, getD_set (by omega)]⟩
  ·have e4 : k + (d + 1) + 1 = (k + d + 1) + 1 := by omega
   rw [e4]
   simp only [num_mulMag.l1, wadd (show i + j ≤ 2199023255552 by omega), wsucc (show j ≤ 2199023255552 by omega), rd_nat, Int.toNat_natCast]
   clear hs hr0 hr1 hq0 hq1
   rw [if_pos (by omega), if_pos (by omega), if_pos (by omega), if_pos (by omega), if_pos (by omega), hyv, hov, hr, hq]
   exact h1 k
  rw [h4, dv_set _ _ _ _ (by omega), hov, dv_drop 4294967296 b j (by omega), hyv, ← Nat.add_assoc, pw_succ]
  exact (mul_step hs).symm
theorem mul_l0 (a b : List Int) (ha : Dg 4294967296 a) (hb : Dg 4294967296 b) (hn : a.length + b.length ≤ 1099511627776) :
  ∀ (d i : Nat) (out : List Int), i + d = a.length → Dg 4294967296 out → out.length = a.length + b.length → dv 4294967296 out = dv 4294967296 (a.take i) * dv 4294967296 b → (∀ m, i + b.length ≤ m → out.getD m 0 = 0) →
  ∀ k, a.length + b.length < k → ∃ r, num_mulMag.l0 (k + d * (b.length + 2) + 1) b out a a.length i = some r ∧ Cn 4294967296 r ∧ dv 4294967296 r = dv 4294967296 a * dv 4294967296 b ∧ r.length ≤ a.length + b.length := by
 intro d
 induction d with
 | zero =>
  intro i out hi ho hl hv hz k hk
  obtain ⟨r, h1, h2, h3, h4⟩ := trim_f out ho (by omega) k (by omega)
  refine ⟨r, ?_, h2, ?_, by omega⟩
  ·simp only [Nat.zero_mul, Nat.add_zero, num_mulMag.l0]
   rw [if_neg (by omega), h1]
   rfl
  rw [h3, hv, List.take_of_length_le (by omega)]
 | succ d ih =>
  intro i out hi ho hl hv hz k hk
  have hx := ha.getD (by decide) i
  obtain ⟨out', h1, h2, h3, h4, h5⟩ := mul_l1 a b i (a.getD i 0) hb hx.1 hx.2 (by omega) b.length 0 out 0 (by omega) ho (by omega) (by omega) (by omega) (hz _ (Nat.le_refl _))
  obtain ⟨r, h6, h7, h8, h9⟩ := ih (i + 1) out' (by omega) h3 (by omega) (by
   rw [h4, hv, dv_take_succ' _ a i]
   simp only [List.drop_zero, Nat.add_zero]
   grind) (fun m hm => by rw [h5 m (by omega)]; exact hz m (by omega)) k hk
  refine ⟨r, ?_, h7, h8, h9⟩
  have e1 : k + (d + 1) * (b.length + 2) + 1 = (k + d * (b.length + 2) + 1 + b.length + 1) + 1 := by
   rw [Nat.add_mul]
   omega
  rw [e1]
  simp only [num_mulMag.l0, rd_nat]
  rw [if_pos (by omega), if_pos (by omega), if_pos (by omega)]
  exact (h1 _).trans h6
theorem mul_f (a b : List Int) (ha : Dg 4294967296 a) (hb : Dg 4294967296 b) (hn : a.length + b.length ≤ 1099511627776) :
  ∃ k r, num_mulMag.f k a b = some r ∧ Cn 4294967296 r ∧ dv 4294967296 r = dv 4294967296 a * dv 4294967296 b ∧ r.length ≤ a.length + b.length := by
 have e1 : wrap64 ((a.length : Int) + (b.length : Int)) = ((a.length + b.length : Nat) : Int) := by rw [w64 (by omega) (by omega)]; omega
 obtain ⟨r, h⟩ := mul_l0 a b ha hb hn a.length 0 (List.replicate (a.length + b.length) 0) (by omega) (Dg.replicate (by decide) _) (by simp) (by rw [dv_replicate]; simp [dv]) (fun m _ => by
  rw [List.getD_eq_getElem?_getD, List.getElem?_replicate]
  split <;> rfl) (a.length + b.length + 1) (by omega)
 refine ⟨a.length + b.length + 1 + a.length * (b.length + 2) + 1, r, ?_, h.2⟩
 unfold num_mulMag.f
 rw [e1, Int.toNat_natCast, if_pos (by omega), if_pos (by omega)]
 exact h.1
theorem sub_l (a b : List Int) (ha : Dg 4294967296 a) (hb : Dg 4294967296 b) (hn : a.length ≤ 1099511627776) (hlb : b.length ≤ a.length) (hle : dv 4294967296 b ≤ dv 4294967296 a) :
  ∀ (d i : Nat) (out : List Int) (c : Int), i + d = a.length → Dg 4294967296 out → out.length = a.length → 0 ≤ c → c ≤ 1 → dv 4294967296 out = dv 4294967296 (a.take i) - dv 4294967296 (b.take i) + c * pw 4294967296 i → (∀ m, i ≤ m → out.getD m 0 = 0) →
  ∀ k, a.length < k → ∃ r, num_subMag.l0 (k + d + 1) b out c a a.length i = some r ∧ Cn 4294967296 r ∧ dv 4294967296 r = dv 4294967296 a - dv 4294967296 b ∧ r.length ≤ a.length := by
 intro d
 induction d with
 | zero =>
  intro i out c hi ho hl hc0 hc1 hv hz k hk
  obtain ⟨r, h1, h2, h3, h4⟩ := trim_f out ho (by omega) k (by omega)
  refine ⟨r, ?_, h2, ?_, by omega⟩
  ·simp only [Nat.add_zero, num_subMag.l0]
   rw [if_neg (by omega), h1]
   rfl
  rw [List.take_of_length_le (by omega), List.take_of_length_le (by omega)] at hv
  have h5 := dv_lt (by decide) ho
  have e : i = out.length := by omega
  rw [← e] at h5
  have h6 : c = 0 := by
   rcases (show c = 0 ∨ c = 1 by omega) with h | h
   ·exact h
   rw [h] at hv
   omega
  rw [h3, hv, h6]
  omega
 | succ d ih =>
  intro i out c hi ho hl hc0 hc1 hv hz k hk
  have hx := ha.getD (by decide) i
  have hy := hb.getD (by decide) i
  have ea := dv_take_succ' 4294967296 a i
  have eb := dv_take_succ' 4294967296 b i
  generalize hxv : a.getD i 0 = x at hx ea
  generalize hyv : b.getD i 0 = y at hy eb
  obtain ⟨r, q, hr, hq, hr0, hr1, hq0, hq1, hs⟩ := sub_num hc0 hc1 hx.1 hx.2 hy.1 hy.2
  have key : num_subMag.l0 (k + (d + 1) + 1) b out c a a.length i = num_subMag.l0 (k + d + 1) b (out.set i r) q a a.length ((i + 1 : Nat) : Int) := by
   have e0 : k + (d + 1) + 1 = (k + d + 1) + 1 := by omega
   rw [e0]
   simp only [num_subMag.l0, rd_nat, wsucc (show i ≤ 2199023255552 by omega), Int.toNat_natCast]
   clear hs ih hv ea eb hle hr0 hr1 hq0 hq1
   rw [if_pos (by omega), if_pos (by omega), if_pos (by omega), hxv, hyv]
   by_cases hib : (i : Int) < (b.length : Int)
   ·rw [if_pos hib, if_pos (by omega), hr, hq]
   have hy0 : y = 0 := by rw [← hyv]; exact getD_ge (by omega)
   rw [hy0, u64 (x := 0) (by omega) (by omega)] at hr hq
   rw [if_neg hib, if_pos (by omega), hr, hq]
  rw [key]
  refine ih (i + 1) _ _ (by omega) (ho.set _ hr0 hr1) (by simpa using hl) hq0 hq1 ?_ (fun m hm => by rw [getD_set (by omega)]; exact hz m (by omega)) k hk
  rw [dv_set _ _ _ _ (by omega), hz i (Nat.le_refl _), hv, ea, eb, pw_succ, hs]
  grind
theorem sub_f (a b : List Int) (ha : Cn 4294967296 a) (hb : Cn 4294967296 b) (hn : a.length ≤ 1099511627776) (hle : dv 4294967296 b ≤ dv 4294967296 a) :
  ∃ k r, num_subMag.f k a b = some r ∧ Cn 4294967296 r ∧ dv 4294967296 r = dv 4294967296 a - dv 4294967296 b ∧ r.length ≤ a.length := by
 have hlb : b.length ≤ a.length := by
  rcases Nat.lt_or_ge a.length b.length with h | h
  ·have := dv_len (by decide) ha.dg hb h
   omega
  exact h
 obtain ⟨r, h⟩ := sub_l a b ha.dg hb.dg hn hlb hle a.length 0 (List.replicate a.length 0) 0 (by omega) (Dg.replicate (by decide) _) (by simp) (by omega) (by omega) (by rw [dv_replicate]; simp [dv]) (fun m _ => by
  rw [List.getD_eq_getElem?_getD, List.getElem?_replicate]
  split <;> rfl) (a.length + 1) (by omega)
 refine ⟨a.length + 1 + a.length + 1, r, ?_, h.2⟩
 unfold num_subMag.f
 rw [if_pos (by omega), if_pos (by omega), Int.toNat_natCast]
 exact h.1
end Go.Proofs.YtekommcfpjonmaaGreat.Mn
namespace Go.Proofs.YtekommcfpjonmaaGreat.Nd
open RowKit Go YtekommcfpjonmaaGreatW.PrintWords YtekommcfpjonmaaGreatW.PrintLast YtekommcfpjonmaaGreatW.PrintMore Ml
def Mag (w : World) (v : Value) (l : List Int) : Prop := ∃ A c, v = .slice A l.length c ∧ l.length ≤ c ∧ Kd.C (Kd.int .u32) w A l.length l
theorem Mag.of {w : World} {e base : Nat} {ok : Nat → Prop} {v : Value} {l : List Int} (h : Kd.V (Kd.int .u32) e w base ok v l) : Mag w v l := by
 obtain ⟨A, c, rfl, hc, hf⟩ := h
 exact ⟨A, c, rfl, hc, Kd.F_now hf⟩
theorem Mag.ofR {w : World} {e base : Nat} {ok : Nat → Prop} {v : Value} {l : List Int} (h : Kd.R (Kd.int .u32) e w base ok v l) : Mag w v l := Kd.R_reads h
theorem Mag.nil (w : World) : Mag w (.slice none 0 0) [] := ⟨none, 0, rfl, Nat.le_refl _, Kd.C_nil _ _⟩
theorem Mag.slice {w : World} {v : Value} {l : List Int} (h : Mag w v l) : ∃ A c, v = .slice A l.length c ∧ l.length ≤ c ∧ Kd.C (Kd.int .u32) w A l.length l := h
theorem Mag.step {w w' : World} {v : Value} {l : List Int} (h : Mag w v l) (hs : ∀ (a : Addr) (x : Int), w.cell? a = some (.int .u32 x) → w'.cell? a = some (.int .u32 x)) : Mag w' v l := by
 obtain ⟨A, c, rfl, hc, h1, h2, h3⟩ := h
 refine ⟨A, c, rfl, hc, h1, h2, fun hp => ?_⟩
 obtain ⟨ad, ha, hcell⟩ := h3 hp
 refine ⟨ad, ha, fun j p hj => ?_⟩
 obtain ⟨cs, hl, hK, hcc⟩ := hcell j p hj
 have hK' : cs = [.int .u32 p] := hK
 subst hK'
 refine ⟨_, hl, hK, fun i u hu => ?_⟩
 match i, hu with
 | 0, hu =>
  simp at hu
  subst hu
  exact hs _ _ (hcc 0 _ rfl)
theorem lt_of_some {w : World} {k : Nat} {o : Obj} (h : w.heap[k]? = some o) : k < w.heap.size := (Array.getElem?_eq_some_iff.1 h).1
theorem Mag.below {w w' : World} {v : Value} {l : List Int} (h : Mag w v l) (hb : Below w.heap.size w w') : Mag w' v l := h.step (fun a x hc => pw_cell_below hb hc)
theorem below_drew' {w w' : World} (h : Below w.drew.heap.size w.drew w') : Below w.heap.size w w' := ⟨h.os, h.tape, h.output, h.size, h.block⟩
def sg (neg : Bool) (x : Int) : Int := if neg then -x else x
structure Slot (w : World) (g o : Nat) (neg : Bool) (v : Value) : Prop where mk ::
 at_ : ∃ cells t, w.heap[g]? = some (.cells cells t (0, 0)) ∧ (∃ A n c, v = .slice A n c) ∧ cells[o]? = some (.bool neg) ∧ cells[o + 1]? = some v
def Room (w : World) (g o : Nat) : Prop := ∃ neg v, Slot w g o neg v
structure IsN (w : World) (g o : Nat) (z : Int) (n : Nat) : Prop where mk ::
 at_ : ∃ neg v l, Slot w g o neg v ∧ Mag w v l ∧ Cn 4294967296 l ∧ l.length ≤ n ∧ z = sg neg (dv 4294967296 l) ∧ (neg = true → l ≠ [])
theorem IsN.room {w : World} {g o : Nat} {z : Int} {n : Nat} (h : IsN w g o z n) : Room w g o := by
 obtain ⟨neg, v, l, hs, _⟩ := h.at_
 exact ⟨neg, v, hs⟩
theorem IsN.mono {w : World} {g o : Nat} {z : Int} {n m : Nat} (h : IsN w g o z n) (hm : n ≤ m) : IsN w g o z m := by
 obtain ⟨neg, v, l, h1, h2, h3, h4, h5⟩ := h.at_
 exact ⟨neg, v, l, h1, h2, h3, by omega, h5⟩
theorem Slot.lt {w : World} {g o : Nat} {neg : Bool} {v : Value} (h : Slot w g o neg v) : g < w.heap.size := by
 obtain ⟨cells, t, h1, _⟩ := h.at_
 exact lt_of_some h1
theorem Room.lt {w : World} {g o : Nat} (h : Room w g o) : g < w.heap.size := by
 obtain ⟨_, _, h⟩ := h
 exact h.lt
theorem IsN.lt {w : World} {g o : Nat} {z : Int} {n : Nat} (h : IsN w g o z n) : g < w.heap.size := h.room.lt
theorem blk_cells {w : World} {g : Nat} {cells : Array Value} {t : TypeId} (h : w.heap[g]? = some (.cells cells t (0, 0))) (o : Nat) {v : Value} (hv : cells[o]? = some v) : w.cell? ⟨g, o, none⟩ = some v := by
 rw [blk_cell h o]; exact hv
theorem Slot.cell0 {w : World} {g o : Nat} {neg : Bool} {v : Value} (h : Slot w g o neg v) : w.cell? ⟨g, o, none⟩ = some (.bool neg) := by
 obtain ⟨cells, t, h1, _, h2, _⟩ := h.at_
 exact blk_cells h1 o h2
theorem Slot.cell1 {w : World} {g o : Nat} {neg : Bool} {v : Value} (h : Slot w g o neg v) : w.cell? ⟨g, o + 1, none⟩ = some v := by
 obtain ⟨cells, t, h1, _, _, h2⟩ := h.at_
 exact blk_cells h1 (o + 1) h2
theorem Slot.free {w : World} {g o : Nat} {neg : Bool} {v : Value} (h : Slot w g o neg v) (j : Nat) : w.frozen? ⟨g, j, none⟩ = false := by
 obtain ⟨cells, t, h1, _⟩ := h.at_
 exact blk_frozen h1 j
theorem Slot.below {w w' : World} {g o : Nat} {neg : Bool} {v : Value} (h : Slot w g o neg v) (hb : Below w.heap.size w w') : Slot w' g o neg v := by
 obtain ⟨cells, t, h1, h2⟩ := h.at_
 exact ⟨cells, t, (hb.block g (lt_of_some h1)).trans h1, h2⟩
theorem Room.below {w w' : World} {g o : Nat} (h : Room w g o) (hb : Below w.heap.size w w') : Room w' g o := by
 obtain ⟨neg, v, h⟩ := h
 exact ⟨neg, v, h.below hb⟩
theorem IsN.below {w w' : World} {g o : Nat} {z : Int} {n : Nat} (h : IsN w g o z n) (hb : Below w.heap.size w w') : IsN w' g o z n := by
 obtain ⟨neg, v, l, h1, h2, h3⟩ := h.at_
 exact ⟨neg, v, l, h1.below hb, h2.below hb, h3⟩
structure Wrote (w w' : World) (g o : Nat) : Prop where
 os : w'.os = w.os
 tape : w'.tape = w.tape
 output : w'.output = w.output
 size : w.heap.size ≤ w'.heap.size
 other : ∀ k, k < w.heap.size → k ≠ g → w'.heap[k]? = w.heap[k]?
 own : ∀ cells t fr, w.heap[g]? = some (.cells cells t fr) → ∃ cells', w'.heap[g]? = some (.cells cells' t fr) ∧ cells'.size = cells.size ∧ ∀ j, j ≠ o → j ≠ o + 1 → cells'[j]? = cells[j]?
theorem Wrote.of_below {w w' : World} (h : Below w.heap.size w w') (g o : Nat) : Wrote w w' g o :=
 ⟨h.os, h.tape, h.output, h.size, fun k hk _ => h.block k hk, fun cells t fr hc => ⟨cells, (h.block g (lt_of_some hc)).trans hc, rfl, fun _ _ _ => rfl⟩⟩
theorem Wrote.trans {a b c : World} {g o : Nat} (h : Wrote a b g o) (k : Wrote b c g o) : Wrote a c g o :=
 ⟨k.os.trans h.os, k.tape.trans h.tape, k.output.trans h.output, Nat.le_trans h.size k.size, fun i hi hne => (k.other i (Nat.lt_of_lt_of_le hi h.size) hne).trans (h.other i hi hne), fun cells t fr hc => by
  obtain ⟨c1, h1, h2, h3⟩ := h.own cells t fr hc
  obtain ⟨c2, k1, k2, k3⟩ := k.own c1 t fr h1
  exact ⟨c2, k1, k2.trans h2, fun j h4 h5 => (k3 j h4 h5).trans (h3 j h4 h5)⟩⟩
theorem Wrote.below {w w' : World} {g o B : Nat} (h : Wrote w w' g o) (hB : B ≤ g) (hs : B ≤ w.heap.size) : Below B w w' :=
 ⟨h.os, h.tape, h.output, h.size, fun k hk => h.other k (by omega) (by omega)⟩
theorem Wrote.mag {w w' : World} {g o : Nat} (h : Wrote w w' g o) (hr : Room w g o) {v : Value} {l : List Int} (hm : Mag w v l) : Mag w' v l := by
 obtain ⟨_, _, hs⟩ := hr
 obtain ⟨cells, t, h1, ⟨A, n, c, rfl⟩, h3, h4⟩ := hs.at_
 refine hm.step (fun a x hc => ?_)
 by_cases e : a.block = g
 ·obtain ⟨c', k1, k2, k3⟩ := h.own _ _ _ h1
  unfold World.cell? at hc ⊢
  rw [e] at hc ⊢
  rw [h1] at hc
  rw [k1]
  simp only at hc ⊢
  by_cases hsp : a.spot.isSome
  ·simp [hsp] at hc
  rw [if_neg hsp] at hc ⊢
  by_cases e1 : a.off = o
  ·rw [e1, h3] at hc
   simp at hc
  by_cases e2 : a.off = o + 1
  ·rw [e2, h4] at hc
   simp at hc
  rw [k3 _ e1 e2]
  exact hc
 have hlt := World.block_lt_of_cell? w a hc
 rw [World.cell?_of_block (w := w) (h.other a.block hlt e)]
 exact hc
theorem Wrote.slot {w w' : World} {g o : Nat} (h : Wrote w w' g o) {g2 o2 : Nat} {neg : Bool} {v : Value} (hs : Slot w g2 o2 neg v) (hne : g2 ≠ g ∨ (o2 ≠ o ∧ o2 ≠ o + 1 ∧ o2 + 1 ≠ o)) : Slot w' g2 o2 neg v := by
 obtain ⟨cells, t, h1, h2, h3, h4⟩ := hs.at_
 by_cases e : g2 = g
 ·subst e
  obtain ⟨c', k1, k2, k3⟩ := h.own _ _ _ h1
  exact ⟨c', t, k1, h2, (k3 o2 (by omega) (by omega)).trans h3, (k3 (o2 + 1) (by omega) (by omega)).trans h4⟩
 exact ⟨cells, t, (h.other g2 (lt_of_some h1) e).trans h1, h2, h3, h4⟩
theorem Wrote.isN {w w' : World} {g o : Nat} (h : Wrote w w' g o) (hr : Room w g o) {g2 o2 : Nat} {z : Int} {n : Nat} (hs : IsN w g2 o2 z n) (hne : g2 ≠ g ∨ (o2 ≠ o ∧ o2 ≠ o + 1 ∧ o2 + 1 ≠ o)) : IsN w' g2 o2 z n := by
 obtain ⟨neg, v, l, h1, h2, h3⟩ := hs.at_
 exact ⟨neg, v, l, h.slot h1 hne, h.mag hr h2, h3⟩
theorem Wrote.set {w : World} {g o : Nat} {neg : Bool} {v : Value} (hs : Slot w g o neg v) (neg' : Bool) (A : Option Addr) (n c : Nat) (k : Nat) {v' : Value} (hv' : v' = .slice A n c) :
  Wrote w (((w.setCell ⟨g, o, none⟩ (.bool neg')).setCell ⟨g, o + 1, none⟩ v').drewN k) g o ∧ Slot (((w.setCell ⟨g, o, none⟩ (.bool neg')).setCell ⟨g, o + 1, none⟩ v').drewN k) g o neg' v' := by
 obtain ⟨cells, t, h1, h2, h3, h4⟩ := hs.at_
 have e3 := (Array.getElem?_eq_some_iff.1 h3).1
 have e4 := (Array.getElem?_eq_some_iff.1 h4).1
 have hb : (((w.setCell ⟨g, o, none⟩ (.bool neg')).setCell ⟨g, o + 1, none⟩ v').drewN k).heap[g]? = some (.cells ((cells.setIfInBounds o (.bool neg')).setIfInBounds (o + 1) v') t (0, 0)) := by
  refine blk_drewN ?_ k
  refine blk_put ?_ (o + 1) v' rfl
  exact blk_put h1 o _ rfl
 constructor
 ·refine ⟨?_, ?_, ?_, ?_, ?_, ?_⟩
  ·exact (pw_below_drewN (B := 0) (w := w) (W := (w.setCell ⟨g, o, none⟩ (.bool neg')).setCell ⟨g, o + 1, none⟩ v') (((Below.refl 0 w).setCell (Nat.zero_le _) _).setCell (Nat.zero_le _) _) k).os
  ·exact (pw_below_drewN (B := 0) (w := w) (W := (w.setCell ⟨g, o, none⟩ (.bool neg')).setCell ⟨g, o + 1, none⟩ v') (((Below.refl 0 w).setCell (Nat.zero_le _) _).setCell (Nat.zero_le _) _) k).tape
  ·exact (pw_below_drewN (B := 0) (w := w) (W := (w.setCell ⟨g, o, none⟩ (.bool neg')).setCell ⟨g, o + 1, none⟩ v') (((Below.refl 0 w).setCell (Nat.zero_le _) _).setCell (Nat.zero_le _) _) k).output
  ·exact (pw_below_drewN (B := 0) (w := w) (W := (w.setCell ⟨g, o, none⟩ (.bool neg')).setCell ⟨g, o + 1, none⟩ v') (((Below.refl 0 w).setCell (Nat.zero_le _) _).setCell (Nat.zero_le _) _) k).size
  ·intro j hj hne
   show (((w.setCell ⟨g, o, none⟩ (.bool neg')).setCell ⟨g, o + 1, none⟩ v')).heap[j]? = _
   rw [Below.heap_setCell _ _ _ _ hne, Below.heap_setCell _ _ _ _ hne]
  intro c t' fr hc
  rw [h1] at hc
  injection hc with hc
  injection hc with e1 e2 e5
  subst e1; subst e2; subst e5
  refine ⟨_, hb, by simp, fun j h5 h6 => ?_⟩
  rw [Array.getElem?_setIfInBounds_ne (by omega), Array.getElem?_setIfInBounds_ne (by omega)]
 refine ⟨_, t, hb, ⟨A, n, c, hv'⟩, ?_, ?_⟩
 ·rw [Array.getElem?_setIfInBounds_ne (by omega), Array.getElem?_setIfInBounds_self_of_lt e3]
 rw [Array.getElem?_setIfInBounds_self_of_lt (by simpa using e4)]
theorem own_cell {k : IntKind} {e base : Nat} {ok : Nat → Prop} {W : World} {g n cap : Nat} {xs : List Int} (h : Kd.R (Kd.int k) e W base ok (.slice (some ⟨g, 0, none⟩) n cap) xs) (i : Nat) (hi : i < n) : W.cell? ⟨g, i, none⟩ = some (.int k (xs.getD i 0)) ∧ W.frozen? ⟨g, i, none⟩ = false := by
 have := Kd.R_celln (0 : Int) h (i : Int) (by omega) (by omega)
 simpa [rdOf] using this
theorem own_put {k : IntKind} {e base : Nat} {ok : Nat → Prop} {W : World} {g n cap : Nat} {xs : List Int} (h : Kd.R (Kd.int k) e W base ok (.slice (some ⟨g, 0, none⟩) n cap) xs) (i : Nat) (x : Int) : Kd.R (Kd.int k) e (W.setCell ⟨g, i, none⟩ (.int k x)) base ok (.slice (some ⟨g, 0, none⟩) n cap) (xs.set i x) := by
 have := (Kd.R_putg h (i : Int) x).1
 rw [Int.toNat_natCast] at this
 exact this
theorem mag_cell {k : IntKind} {W w : World} {A : Option Addr} {n : Nat} {xs : List Int} (h : Kd.C (Kd.int k) w A n xs) (hb : Below w.heap.size w W) (i : Nat) (hi : i < n) : ∃ ad, A = some ad ∧ W.cell? (ad.add i) = some (.int k (xs.getD i 0)) := by
 obtain ⟨ad, e, hc⟩ := Kd.at_int h (i : Int) (by omega) (by omega)
 refine ⟨ad, e, ?_⟩
 have := pw_cell_below hb hc
 simpa [rd] using this
def SetP (w : World) (g o : Nat) (z : Int) (n : Nat) (e : Ending) (w' : World) : Prop := e = .returned (.pointer (some ⟨g, o, none⟩)) ∧ Wrote w w' g o ∧ IsN w' g o z n
def NewP (w : World) (z : Int) (n : Nat) (e : Ending) (w' : World) : Prop := ∃ g, w.heap.size ≤ g ∧ e = .returned (.pointer (some ⟨g, 0, none⟩)) ∧ Below w.heap.size w w' ∧ IsN w' g 0 z n
def ValP (w : World) (v : Value) (e : Ending) (w' : World) : Prop := e = .returned v ∧ Below w.heap.size w w'
theorem sg_mul (a b : Bool) (x y : Int) : sg (!a == b) (x * y) = sg a x * sg b y := by cases a <;> cases b <;> simp [sg, Int.neg_mul, Int.mul_neg]
theorem IsN.open {w : World} {g o : Nat} {z : Int} {n : Nat} (h : IsN w g o z n) : ∃ neg A c l, Slot w g o neg (.slice A l.length c) ∧ l.length ≤ c ∧ Kd.C (Kd.int .u32) w A l.length l ∧ Cn 4294967296 l ∧ l.length ≤ n ∧ z = sg neg (dv 4294967296 l) ∧ (neg = true → l ≠ []) := by
 obtain ⟨neg, v, l, h1, ⟨A, c, rfl, h2, h3⟩, h4, h5, h6, h7⟩ := h.at_
 exact ⟨neg, A, c, l, h1, h2, h3, h4, h5, h6, h7⟩
theorem sg_abs {neg : Bool} {x z : Int} (hx : 0 ≤ x) (h : z = sg neg x) : ((z.natAbs : Nat) : Int) = x := by
 cases neg <;> simp [sg] at h <;> omega
def cmpI (a b : Int) : Int := if a < b then -1 else if b < a then 1 else 0
theorem ret_i {k : IntKind} {a b : Int} (h : a = b) : Ending.returned (.int k a) = Ending.returned (.int k b) := by rw [h]
theorem ret_b {a b : Bool} (h : a = b) : Ending.returned (.bool a) = Ending.returned (.bool b) := by rw [h]
theorem Mag.mk' {w : World} {A : Option Addr} {c : Nat} {l : List Int} (hc : l.length ≤ c) (h : Kd.C (Kd.int .u32) w A l.length l) : Mag w (.slice A l.length c) l := ⟨A, c, rfl, hc, h⟩
structure IsW (w : World) (g o : Nat) (z : Int) (n : Nat) : Prop where mk ::
 at_ : ∃ neg A c l, Slot w g o neg (.slice A l.length c) ∧ l.length ≤ c ∧ Kd.C (Kd.int .u32) w A l.length l ∧ Cn 4294967296 l ∧ l.length ≤ n ∧ z = sg neg (dv 4294967296 l)
theorem IsN.w {w : World} {g o : Nat} {z : Int} {n : Nat} (h : IsN w g o z n) : IsW w g o z n := by
 obtain ⟨neg, A, c, l, h1, h2, h3, h4, h5, h6, _⟩ := h.open
 exact ⟨neg, A, c, l, h1, h2, h3, h4, h5, h6⟩
end Go.Proofs.YtekommcfpjonmaaGreat.Nd

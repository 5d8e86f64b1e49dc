/-
  edit's lowest rate of an edit, what two edits have in common, and whether one goes over into the next.
-/
import Derived.Test.YtpbhepdgamoiaaaEr
import Derived.Test.YtpbhepdgamoiaaaWEqStruct
import Derived.Outline
namespace Go.Proofs.Ytpbhepdgamoiaaa.Ek
open Go.RowKit Go Go.Proofs.YtpbhepdgamoiaaaW.PrintWords Go.Proofs.YtpbhepdgamoiaaaW.PrintLast Go.Proofs.YtpbhepdgamoiaaaW.PrintMore Go.Proofs.Ytpbhepdgamoiaaa.Ml Go.Proofs.Ytpbhepdgamoiaaa.Mn Go.Proofs.Ytpbhepdgamoiaaa.Nd Go.Proofs.Ytpbhepdgamoiaaa.P Go.Proofs.Ytpbhepdgamoiaaa.Nc Go.Proofs.Ytpbhepdgamoiaaa.Nb Go.Proofs.Ytpbhepdgamoiaaa.Qa Go.Proofs.Ytpbhepdgamoiaaa.Ea Go.Proofs.Ytpbhepdgamoiaaa.Ra Go.Proofs.Ytpbhepdgamoiaaa.Rf Go.Proofs.Ytpbhepdgamoiaaa.Er
set_option linter.unusedVariables false
set_option linter.unusedSimpArgs false

theorem qq_low {n e : Int} (h0 : 0 ≤ n) (he : 1 ≤ e) : 0 ≤ (qq n e).num ∧ (qq n e).num ≤ n ∧ 1 ≤ ((qq n e).den : Int) ∧ ((qq n e).den : Int) ≤ e := by
  obtain ⟨h1, h2⟩ := rat_low (a := n) (b := e) (by omega)
  rw [← h1, ← h2]
  unfold ratN ratD lowN lowD
  rw [if_neg (by omega), if_neg (by omega)]
  have hg : 0 < ((Int.gcd n e : Nat) : Int) := by
    have := Int.gcd_pos_of_ne_zero_right n (show e ≠ 0 by omega)
    omega
  refine ⟨Int.ediv_nonneg h0 (by omega), Int.ediv_le_self _ h0, ?_, Int.ediv_le_self _ (by omega)⟩
  have h3 := Int.ediv_mul_cancel (Int.gcd_dvd_right n e)
  refine Int.le_of_not_gt fun h => ?_
  have : e / (Int.gcd n e : Int) * (Int.gcd n e : Int) ≤ 0 * (Int.gcd n e : Int) := Int.mul_le_mul_of_nonneg_right (by omega) (by omega)
  omega
theorem blk_four {w : World} {g : Nat} {t : TypeId} {a b c d x y z u : Value} (h : w.heap[g]? = some (.cells #[a, b, c, d] t (0, 0))) : ((((w.setCell ⟨g, 0, none⟩ x).setCell ⟨g, 1, none⟩ y).setCell ⟨g, 2, none⟩ z).setCell ⟨g, 3, none⟩ u).heap[g]? = some (.cells #[x, y, z, u] t (0, 0)) :=
  blk_put (cs := #[x, y, z, d]) (blk_put (cs := #[x, y, c, d]) (blk_put (cs := #[x, b, c, d]) (blk_put (cs := #[a, b, c, d]) h 0 x rfl) 1 y rfl) 2 z rfl) 3 u rfl
/-- An edit boxed, and room for the answer. -/
structure Lx (w W : World) (d m n e : Int) (o : Obj) : Prop where
  e : W.heap[w.heap.size]? = some (edO d m n e)
  r : W.heap[w.heap.size + 1]? = some o
  below : Below w.heap.size w W
theorem Lx.start (w : World) (d m n e : Int) (o : Obj) : Lx w ((w.alloc (edO d m n e)).alloc o) d m n e o := by
  have e1 : (w.alloc (edO d m n e)).heap.size = w.heap.size + 1 := by simp
  have k2 := blk_new (w.alloc (edO d m n e)) o
  rw [e1] at k2
  exact ⟨blk_alloc (blk_new w _) _, k2, below_alloc (below_alloc (Below.refl _ w) _) _⟩
theorem Lx.step {w W W2 : World} {d m n e : Int} {o : Obj} (h : Lx w W d m n e o) (hb : Below W.heap.size W W2) : Lx w W2 d m n e o :=
  ⟨blk_below h.e hb, blk_below h.r hb, h.below.trans (hb.mono h.below.size)⟩
theorem set_other {w : World} {g g' o : Nat} {v : Value} {x : Obj} (h : w.heap[g]? = some x) (hne : g ≠ g') : (w.setCell ⟨g', o, none⟩ v).heap[g]? = some x := by
  rw [Below.heap_setCell _ _ _ _ hne]; exact h
set_option maxHeartbeats 4000000 in
set_option maxRecDepth 100000 in
theorem lowest_n (d m n e : Int) (w : World) (h0 : 0 ≤ n) (h1 : n ≤ 1000000) (h2 : 1 ≤ e) (h3 : e ≤ 1000000) :
    Calls Try.prog 71 #[.agg #[.int .i64 d, .int .i64 m, .int .i64 n, .int .i64 e]] w (fun e' w' => e' = .returned (.agg #[.int .i64 d, .int .i64 m, .int .i64 (qq n e).num, .int .i64 ((qq n e).den : Int)]) ∧ Below w.heap.size w w') := by
  have hu := Try.underlying77
  have hq := qq_low h0 h2
  have HC := Aside0.mk (fun W => ratioE_n n e W ⟨by omega, by omega⟩ ⟨by omega, by omega⟩ (by omega))
  have HQ := Aside0.mk (And.intro (And.intro (show -9223372036854775807 ≤ (qq n e).num by omega) (show (qq n e).num ≤ 9223372036854775807 by omega)) (And.intro (show -9223372036854775807 ≤ ((qq n e).den : Int) by omega) (show ((qq n e).den : Int) ≤ 9223372036854775807 by omega)))
  have hL := Aside0.mk (Lx.start w d m n e (edO 0 0 0 0))
  clear hq h0 h1 h2 h3
  generalize qq n e = Q at *
  go_enter Try.func71, Try.ntmps71
  go_wp2_with fail
  generalize hW : World.alloc (World.alloc _ _) _ = W
  have HL := Aside0.mk (show Lx w W d m n e (edO 0 0 0 0) by rw [← hW]; exact hL.out)
  clear hW hL
  refine (HC.out W).mono ?_
  rintro e3 w3 ⟨g3, hg3, rfl, hb3, hN3⟩
  have H3 := Aside0.mk (And.intro hN3 (HL.out.step hb3))
  clear hb3 hN3 hg3 HC
  go_wp2_with fail
  refine (num_n g3 w3).mono ?_
  rintro e4 w4 ⟨rfl, rfl⟩
  go_wp2_with fail
  refine (int64_n g3 0 Q.num 2 w3 H3.out.1.num HQ.out.1.1 HQ.out.1.2 (by decide)).mono ?_
  rintro e4 w4 ⟨rfl, hb4⟩
  have H4 := Aside0.mk (And.intro (H3.out.1.below hb4) (H3.out.2.step hb4))
  clear hb4
  go_wp2_with fail
  refine (denom_n g3 _ 2 w4 H4.out.1.den (den0 Q)).mono ?_
  rintro e5 w5 ⟨rfl, rfl⟩
  go_wp2_with fail
  refine (int64_n g3 2 Q.den 2 w4 H4.out.1.den HQ.out.2.1 HQ.out.2.2 (by decide)).mono ?_
  rintro e5 w5 ⟨rfl, hb5⟩
  have H5 := Aside0.mk (H4.out.2.step hb5)
  clear hb5
  obtain ⟨c0, c1, c2, c3⟩ := ed_cells H5.out.e
  obtain ⟨f0, f1, f2, f3⟩ := ed_free H5.out.e
  obtain ⟨r0, r1, r2, r3⟩ := ed_cells (d := 0) (m := 0) (n := 0) (e := 0) H5.out.r
  obtain ⟨s0, s1, s2, s3⟩ := ed_free (d := 0) (m := 0) (n := 0) (e := 0) H5.out.r
  go_wp2_with fail
  have hr : ((w5.setCell ⟨w.heap.size, 2, none⟩ (.int .i64 Q.num)).setCell ⟨w.heap.size, 3, none⟩ (.int .i64 (Q.den : Int))).heap[w.heap.size + 1]? = some (edO 0 0 0 0) :=
    set_other (set_other H5.out.r (by omega)) (by omega)
  refine bodyPost_ret (results_single rfl (.cell (w.heap.size + 1) 77 #[.int .i64 d, .int .i64 m, .int .i64 Q.num, .int .i64 (Q.den : Int)] (0, 0) _ rfl (blk_four hr) Try.underlying77 rfl (by kernel_rfl) .nil)) rfl ?_
  have hB := H5.out.below
  exact ⟨rfl, (((((hB.setCell (Nat.le_refl _) _).setCell (Nat.le_refl _) _).setCell (Nat.le_succ _) _).setCell (Nat.le_succ _) _).setCell (Nat.le_succ _) _).setCell (Nat.le_succ _) _⟩
def kdO (b : Bool) (s n e : Int) : Obj := .cells #[.bool b, .int .i64 s, .int .i64 n, .int .i64 e] 155 (0, 0)
theorem kd_cells {w : World} {g : Nat} {b : Bool} {s n e : Int} (h : w.heap[g]? = some (kdO b s n e)) : w.cell? ⟨g, 0, none⟩ = some (.bool b) ∧ w.cell? ⟨g, 1, none⟩ = some (.int .i64 s) ∧ w.cell? ⟨g, 2, none⟩ = some (.int .i64 n) ∧ w.cell? ⟨g, 3, none⟩ = some (.int .i64 e) :=
  ⟨(blk_cell h 0).trans rfl, (blk_cell h 1).trans rfl, (blk_cell h 2).trans rfl, (blk_cell h 3).trans rfl⟩
theorem kd_free {w : World} {g : Nat} {b : Bool} {s n e : Int} (h : w.heap[g]? = some (kdO b s n e)) : w.frozen? ⟨g, 0, none⟩ = false ∧ w.frozen? ⟨g, 1, none⟩ = false ∧ w.frozen? ⟨g, 2, none⟩ = false ∧ w.frozen? ⟨g, 3, none⟩ = false :=
  ⟨blk_frozen h 0, blk_frozen h 1, blk_frozen h 2, blk_frozen h 3⟩
/-- What an edit has to have in common with the next one. -/
def kB (m n e : Int) : Bool := decide (m < 0)
def kS (m n e : Int) : Int := if m < 0 then 0 else if n = 0 then m else 0
def kN (m n e : Int) : Int := if m < 0 then 0 else if n = 0 then 0 else n
def kE (m n e : Int) : Int := if m < 0 then 0 else if n = 0 then 0 else e
set_option maxHeartbeats 4000000 in
set_option maxRecDepth 100000 in
theorem kindOf_n (d m n e : Int) (w : World) :
    Calls Try.prog 150 #[.agg #[.int .i64 d, .int .i64 m, .int .i64 n, .int .i64 e]] w (fun e' w' => e' = .returned (.agg #[.bool (kB m n e), .int .i64 (kS m n e), .int .i64 (kN m n e), .int .i64 (kE m n e)]) ∧ Below w.heap.size w w') := by
  have hu := Try.underlying77
  have hu2 := Try.underlying155
  go_enter Try.func150, Try.ntmps150
  go_wp2
  · refine bodyPost_ret (results_single rfl (.cell (w.heap.size + 1) 155 #[.bool true, .int .i64 0, .int .i64 0, .int .i64 0] (0, 0) _ rfl (Lx.start w d m n e (kdO true 0 0 0)).r Try.underlying155 rfl (by kernel_rfl) .nil)) rfl ?_
    refine ⟨?_, (Lx.start w d m n e (kdO true 0 0 0)).below⟩
    unfold kB kS kN kE
    simp_all
  · refine bodyPost_ret (results_single rfl (.cell (w.heap.size + 1) 155 #[.bool false, .int .i64 m, .int .i64 0, .int .i64 0] (0, 0) _ rfl (Lx.start w d m n e (kdO false m 0 0)).r Try.underlying155 rfl (by kernel_rfl) .nil)) rfl ?_
    refine ⟨?_, (Lx.start w d m n e (kdO false m 0 0)).below⟩
    have h0 : ¬ m < 0 := by omega
    have hn : n = 0 := by simp_all
    unfold kB kS kN kE
    simp [h0, hn]
  · refine bodyPost_ret (results_single rfl (.cell (w.heap.size + 1) 155 #[.bool false, .int .i64 0, .int .i64 n, .int .i64 e] (0, 0) _ rfl (Lx.start w d m n e (kdO false 0 n e)).r Try.underlying155 rfl (by kernel_rfl) .nil)) rfl ?_
    refine ⟨?_, (Lx.start w d m n e (kdO false 0 n e)).below⟩
    have h0 : ¬ m < 0 := by omega
    have hn : n ≠ 0 := by simp_all
    unfold kB kS kN kE
    simp [h0, hn]
theorem eqA155 (d : Nat) (w : World) (x0 y0 : Bool) (x1 y1 : Int) (x2 y2 : Int) (x3 y3 : Int) :
    (Op.equalIn (d + 2) 155 (.agg #[.bool x0, .int .i64 x1, .int .i64 x2, .int .i64 x3]) (.agg #[.bool y0, .int .i64 y1, .int .i64 y2, .int .i64 y3])).run Try.prog w = .ok (x0 == y0 && (x1 == y1 && (x2 == y2 && (x3 == y3)))) w := by
  refine eqA_of Try.underlying155 (by kernel_rfl) ?_
  refine eqf_cons (by rfl) (by go_simp; rfl) (by go_simp; rfl) (by go_simp) ?_
  refine eqf_cons (by rfl) (by go_simp; rfl) (by go_simp; rfl) (by go_simp) ?_
  refine eqf_cons (by rfl) (by go_simp; rfl) (by go_simp; rfl) (by go_simp) ?_
  exact eqf_last (by rfl) (by go_simp; rfl) (by go_simp; rfl) (by go_simp)
attribute [local go_sem high] eqA155
/-- The clocks and two edits, boxed. -/
structure Ox (w W : World) (ms ts d m n e d' m' n' e' : Int) : Prop where
  c : W.heap[w.heap.size]? = some (clO ms ts)
  a : W.heap[w.heap.size + 1]? = some (edO d m n e)
  b : W.heap[w.heap.size + 1 + 1]? = some (edO d' m' n' e')
  below : Below w.heap.size w W
theorem Ox.start (w : World) (ms ts d m n e d' m' n' e' : Int) : Ox w (((w.alloc (clO ms ts)).alloc (edO d m n e)).alloc (edO d' m' n' e')) ms ts d m n e d' m' n' e' := by
  have e1 : (w.alloc (clO ms ts)).heap.size = w.heap.size + 1 := by simp
  have e2 : ((w.alloc (clO ms ts)).alloc (edO d m n e)).heap.size = w.heap.size + 1 + 1 := by simp
  have k2 := blk_new (w.alloc (clO ms ts)) (edO d m n e)
  have k3 := blk_new ((w.alloc (clO ms ts)).alloc (edO d m n e)) (edO d' m' n' e')
  rw [e1] at k2
  rw [e2] at k3
  exact ⟨blk_alloc (blk_alloc (blk_new w _) _) _, blk_alloc k2 _, k3, below_alloc (below_alloc (below_alloc (Below.refl _ w) _) _) _⟩
theorem Ox.step {w W W2 : World} {ms ts d m n e d' m' n' e' : Int} (h : Ox w W ms ts d m n e d' m' n' e') (hb : Below W.heap.size W W2) : Ox w W2 ms ts d m n e d' m' n' e' :=
  ⟨blk_below h.c hb, blk_below h.a hb, blk_below h.b hb, h.below.trans (hb.mono h.below.size)⟩
theorem Ox.cells {w W : World} {ms ts d m n e d' m' n' e' : Int} (h : Ox w W ms ts d m n e d' m' n' e') : W.cell? ⟨w.heap.size, 0, none⟩ = some (.int .i64 ms) ∧ W.cell? ⟨w.heap.size, 1, none⟩ = some (.int .i64 ts) ∧ W.cell? ⟨w.heap.size + 1, 0, none⟩ = some (.int .i64 d) ∧ W.cell? ⟨w.heap.size + 1, 1, none⟩ = some (.int .i64 m) ∧ W.cell? ⟨w.heap.size + 1, 2, none⟩ = some (.int .i64 n) ∧ W.cell? ⟨w.heap.size + 1, 3, none⟩ = some (.int .i64 e) ∧ W.cell? ⟨w.heap.size + 1 + 1, 0, none⟩ = some (.int .i64 d') ∧ W.cell? ⟨w.heap.size + 1 + 1, 1, none⟩ = some (.int .i64 m') ∧ W.cell? ⟨w.heap.size + 1 + 1, 2, none⟩ = some (.int .i64 n') ∧ W.cell? ⟨w.heap.size + 1 + 1, 3, none⟩ = some (.int .i64 e') := by
  obtain ⟨c0, c1⟩ := cl_cells h.c
  obtain ⟨e0, e1, e2, e3⟩ := ed_cells h.a
  obtain ⟨f0, f1, f2, f3⟩ := ed_cells h.b
  exact ⟨c0, c1, e0, e1, e2, e3, f0, f1, f2, f3⟩
/-- Whether two edits have in common what they need. -/
def kinB (m n e m' n' e' : Int) : Bool := (kB m n e == kB m' n' e') && ((kS m n e == kS m' n' e') && ((kN m n e == kN m' n' e') && (kE m n e == kE m' n' e')))
/-- Whether an edit goes over into the next one. -/
def overB (ms ts d m n e m' n' e' : Int) : Bool := kinB m n e m' n' e' && (decide (m < 0) || (n == 0) || (cmpQ (afterQ ms ts m n e d) (qq m' 1) == 0))
set_option maxHeartbeats 8000000 in
set_option maxRecDepth 100000 in
theorem over_n (ms ts d m n e d' m' n' e' : Int) (w : World) (h1 : I64 ms ∧ ms ≠ 0) (h2 : I64 ts) (h3 : I64 m) (h4 : I64 n) (h5 : I64 e ∧ e ≠ 0) (h6 : I64 d) (h7 : I64 m') :
    Calls Try.prog 113 #[.agg #[.int .i64 ms, .int .i64 ts], .agg #[.int .i64 d, .int .i64 m, .int .i64 n, .int .i64 e], .agg #[.int .i64 d', .int .i64 m', .int .i64 n', .int .i64 e']] w (ValP w (.bool (overB ms ts d m n e m' n' e'))) := by
  have hu := Try.underlying77
  have hu2 := Try.underlying155
  have hu3 := Try.underlying79
  have HH := Aside0.mk (And.intro h1 (And.intro h2 (And.intro h3 (And.intro h4 (And.intro h5 (And.intro h6 h7))))))
  have hQ := Aside0.mk (Ox.start w ms ts d m n e d' m' n' e')
  have HV := Aside0.mk (show overB ms ts d m n e m' n' e' = (kinB m n e m' n' e' && (decide (m < 0) || (n == 0) || (cmpQ (afterQ ms ts m n e d) (qq m' 1) == 0))) from rfl)
  generalize overB ms ts d m n e m' n' e' = V at *
  have hk := Aside0.mk (show kinB m n e m' n' e' = ((kB m n e == kB m' n' e') && ((kS m n e == kS m' n' e') && ((kN m n e == kN m' n' e') && (kE m n e == kE m' n' e')))) from rfl)
  clear h1 h2 h3 h4 h5 h6 h7
  go_enter Try.func113, Try.ntmps113
  go_wp2_with fail
  generalize hW : World.alloc (World.alloc (World.alloc _ _) _) _ = W
  have HQ := Aside0.mk (show Ox w W ms ts d m n e d' m' n' e' by rw [← hW]; exact hQ.out)
  clear hW hQ
  have hb0 : Below W.heap.size W W.drew := below_drew' (Below.refl _ _)
  refine start_ (n := 5) (S := fun w' => w'.cell? ⟨w.heap.size + 1, 0, none⟩ = some (.int .i64 d) ∧ w'.cell? ⟨w.heap.size + 1, 1, none⟩ = some (.int .i64 m) ∧ w'.cell? ⟨w.heap.size + 1, 2, none⟩ = some (.int .i64 n) ∧ w'.cell? ⟨w.heap.size + 1, 3, none⟩ = some (.int .i64 e) ∧ w'.cell? ⟨w.heap.size + 1 + 1, 0, none⟩ = some (.int .i64 d') ∧ w'.cell? ⟨w.heap.size + 1 + 1, 1, none⟩ = some (.int .i64 m') ∧ w'.cell? ⟨w.heap.size + 1 + 1, 2, none⟩ = some (.int .i64 n') ∧ w'.cell? ⟨w.heap.size + 1 + 1, 3, none⟩ = some (.int .i64 e')) (ds := []) (bs 5 0) (by kernel_rfl) rfl rfl (HQ.out.step hb0).cells.2.2 (fun hHeld => ?_)
  refine take_ (i := 0) (N := some 7) (v := ?_) (a' := ?_) (bs 5 1) rfl rfl (by kernel_rfl) (fun _ _ _ h => h) (Or.inl ⟨by rfl, ?_⟩) hHeld ?_ ?_; rotate_left; (· rintro w' ⟨s0, s1, s2, s3, s4, s5, s6, s7⟩; go_simp; first | done | with_reducible rfl); rotate_left; (· simp only [Act.put, List.setIfInBounds_toArray, List.set_cons_zero, List.set_cons_succ, i64_w, i32_w]; rfl)
  refine take_ (i := 2) (N := some 9) (v := ?_) (a' := ?_) (bs 5 5) rfl rfl (by kernel_rfl) (fun _ _ _ h => h) (Or.inl ⟨by rfl, ?_⟩) hHeld ?_ ?_; rotate_left; (· rintro w' ⟨s0, s1, s2, s3, s4, s5, s6, s7⟩; go_simp; first | done | with_reducible rfl); rotate_left; (· simp only [Act.put, List.setIfInBounds_toArray, List.set_cons_zero, List.set_cons_succ, i64_w, i32_w]; rfl)
  refine one_ (i := 1) (N := some 8) (bs 5 7) rfl rfl (by kernel_rfl) (by decide) (fun K hK => ?_)
  refine goes_ Try.func150 (by kernel_rfl) rfl #[.agg #[.int .i64 d, .int .i64 m, .int .i64 n, .int .i64 e]] (by rfl) rfl rfl (by simp only [List.map_toArray, List.map_cons, List.map_nil]; rfl) ?_
  with_reducible refine (kindOf_n d m n e W.drew).mono ?_
  rintro e3 w3 ⟨rfl, hb3⟩
  refine ⟨_, rfl, ?_⟩
  have hb3' := below_drew' hb3
  have H3 := Aside0.mk (HQ.out.step hb3')
  clear hb3 hb3'
  refine hK.out _ _ H3.out.cells.2.2 (fun hHeld => ?_)
  clear hK K
  refine norm_ (a' := ?_) ?_ ?_; rotate_left; (· show Act.put _ (some 8) _ = _; simp only [Act.put, List.setIfInBounds_toArray, List.set_cons_zero, List.set_cons_succ, i64_w, i32_w]; rfl)
  refine one_ (i := 3) (N := some 10) (bs 5 15) rfl rfl (by kernel_rfl) (by decide) (fun K hK => ?_)
  refine goes_ Try.func150 (by kernel_rfl) rfl #[.agg #[.int .i64 d', .int .i64 m', .int .i64 n', .int .i64 e']] (by rfl) rfl rfl (by simp only [List.map_toArray, List.map_cons, List.map_nil]; rfl) ?_
  with_reducible refine (kindOf_n d' m' n' e' w3).mono ?_
  rintro e4 w4 ⟨rfl, hb4⟩
  refine ⟨_, rfl, ?_⟩
  have H4 := Aside0.mk (H3.out.step hb4)
  clear hb4
  refine hK.out _ _ H4.out.cells.2.2 (fun hHeld => ?_)
  clear hK K
  refine norm_ (a' := ?_) ?_ ?_; rotate_left; (· show Act.put _ (some 10) _ = _; simp only [Act.put, List.setIfInBounds_toArray, List.set_cons_zero, List.set_cons_succ, i64_w, i32_w]; rfl)
  refine pure_ (i := 4) (N := some 11) (v := ?_) (a' := ?_) (bs 5 31) rfl rfl (by kernel_rfl) (fun _ _ _ h => h) (Or.inl ⟨by rfl, ?_⟩) ?_ ?_; rotate_left; (· intro w'; go_simp; first | done | with_reducible rfl); rotate_left; (· simp only [Act.put, List.setIfInBounds_toArray, List.set_cons_zero, List.set_cons_succ, i64_w, i32_w]; rfl)
  refine done_ (by kernel_rfl) ?_
  have hn : (!kB m n e == kB m' n' e' || (!kS m n e == kS m' n' e' || (!kN m n e == kN m' n' e' || !kE m n e == kE m' n' e'))) = !kinB m n e m' n' e' := by rw [hk.out]; simp only [Bool.not_and]
  rw [hn]
  clear hn hk hHeld hb0
  cases hK : kinB m n e m' n' e' with
  | false =>
    have HV2 := Aside0.mk (show V = false by rw [HV.out, hK]; rfl)
    clear HV hK
    simp only [Bool.not_false]
    go_wp2_with fail
    go_ret
    exact ⟨ret_b HV2.out.symm, H4.out.below⟩
  | true =>
    have HV2 := Aside0.mk (show V = (decide (m < 0) || (n == 0) || (cmpQ (afterQ ms ts m n e d) (qq m' 1) == 0)) by rw [HV.out, hK]; rfl)
    clear HV hK H3
    simp only [Bool.not_true]
    by_cases hm : m < 0
    · have hm1 : decide (m < 0) = true := decide_eq_true hm
      have HV3 := Aside0.mk (show V = true by rw [HV2.out, hm1]; rfl)
      clear HV2 hm
      go_wp2_with fail
      refine start_ (n := 21) (S := fun w' => w'.cell? ⟨w.heap.size, 0, none⟩ = some (.int .i64 ms) ∧ w'.cell? ⟨w.heap.size, 1, none⟩ = some (.int .i64 ts) ∧ w'.cell? ⟨w.heap.size + 1, 0, none⟩ = some (.int .i64 d) ∧ w'.cell? ⟨w.heap.size + 1, 1, none⟩ = some (.int .i64 m) ∧ w'.cell? ⟨w.heap.size + 1, 2, none⟩ = some (.int .i64 n) ∧ w'.cell? ⟨w.heap.size + 1, 3, none⟩ = some (.int .i64 e) ∧ w'.cell? ⟨w.heap.size + 1 + 1, 0, none⟩ = some (.int .i64 d') ∧ w'.cell? ⟨w.heap.size + 1 + 1, 1, none⟩ = some (.int .i64 m') ∧ w'.cell? ⟨w.heap.size + 1 + 1, 2, none⟩ = some (.int .i64 n') ∧ w'.cell? ⟨w.heap.size + 1 + 1, 3, none⟩ = some (.int .i64 e')) (ds := []) (bs 21 0) (by kernel_rfl) rfl rfl (H4.out.step (below_drew' (Below.refl _ _))).cells (fun hHeld => ?_)
      refine pure_ (i := 0) (N := some 12) (v := ?_) (a' := ?_) (bs 21 1) rfl rfl (by kernel_rfl) (fun _ _ _ h => h) (Or.inl ⟨by rfl, ?_⟩) ?_ ?_; rotate_left; (· intro w'; go_simp; first | done | with_reducible rfl); rotate_left; (· simp only [Act.put, List.setIfInBounds_toArray, List.set_cons_zero, List.set_cons_succ, i64_w, i32_w]; rfl)
      refine take_ (i := 1) (N := some 13) (v := ?_) (a' := ?_) (bs 21 3) rfl rfl (by kernel_rfl) (fun _ _ _ h => h) (Or.inl ⟨by rfl, ?_⟩) hHeld ?_ ?_; rotate_left; (· rintro w' ⟨s0, s1, s2, s3, s4, s5, s6, s7, s8, s9⟩; go_simp; first | done | with_reducible rfl); rotate_left; (· simp only [Act.put, List.setIfInBounds_toArray, List.set_cons_zero, List.set_cons_succ, i64_w, i32_w]; rfl)
      refine pure_ (i := 2) (N := some 14) (v := ?_) (a' := ?_) (bs 21 7) rfl rfl (by kernel_rfl) (fun _ _ _ h => h) (Or.inl ⟨by rfl, ?_⟩) ?_ ?_; rotate_left; (· intro w'; go_simp; first | done | with_reducible rfl); rotate_left; (· simp only [Act.put, List.setIfInBounds_toArray, List.set_cons_zero, List.set_cons_succ, i64_w, i32_w]; rfl)
      refine pure_ (i := 3) (N := some 15) (v := ?_) (a' := ?_) (bs 21 15) rfl rfl (by kernel_rfl) (fun _ _ _ h => h) (Or.inl ⟨by rfl, ?_⟩) ?_ ?_; rotate_left; (· intro w'; go_simp; first | done | with_reducible rfl); rotate_left; (· simp only [Act.put, List.setIfInBounds_toArray, List.set_cons_zero, List.set_cons_succ, i64_w, i32_w]; rfl)
      refine pure_ (i := 4) (N := some 16) (v := undef) (a' := ?_) (bs 21 31) rfl rfl (by kernel_rfl) (fun _ _ _ h => h) (Or.inr ⟨by rfl, rfl⟩) ?_ ?_; rotate_left; (· simp only [Act.put, List.setIfInBounds_toArray, List.set_cons_zero, List.set_cons_succ, i64_w, i32_w]; rfl)
      refine pure_ (i := 5) (N := some 17) (v := undef) (a' := ?_) (bs 21 63) rfl rfl (by kernel_rfl) (fun _ _ _ h => h) (Or.inr ⟨by rfl, rfl⟩) ?_ ?_; rotate_left; (· simp only [Act.put, List.setIfInBounds_toArray, List.set_cons_zero, List.set_cons_succ, i64_w, i32_w]; rfl)
      refine pure_ (i := 6) (N := some 18) (v := undef) (a' := ?_) (bs 21 127) rfl rfl (by kernel_rfl) (fun _ _ _ h => h) (Or.inr ⟨by rfl, rfl⟩) ?_ ?_; rotate_left; (· simp only [Act.put, List.setIfInBounds_toArray, List.set_cons_zero, List.set_cons_succ, i64_w, i32_w]; rfl)
      refine pure_ (i := 7) (N := some 19) (v := ?_) (a' := ?_) (bs 21 255) rfl rfl (by kernel_rfl) (fun _ _ _ h => h) (Or.inl ⟨by rfl, ?_⟩) ?_ ?_; rotate_left; (· intro w'; go_simp; first | done | with_reducible rfl); rotate_left; (· simp only [Act.put, List.setIfInBounds_toArray, List.set_cons_zero, List.set_cons_succ, i64_w, i32_w]; rfl)
      refine pure_ (i := 8) (N := some 20) (v := ?_) (a' := ?_) (bs 21 511) rfl rfl (by kernel_rfl) (fun _ _ _ h => h) (Or.inl ⟨by rfl, ?_⟩) ?_ ?_; rotate_left; (· intro w'; go_simp; first | done | with_reducible rfl); rotate_left; (· simp only [Act.put, List.setIfInBounds_toArray, List.set_cons_zero, List.set_cons_succ, i64_w, i32_w]; rfl)
      refine pure_ (i := 9) (N := some 21) (v := undef) (a' := ?_) (bs 21 1023) rfl rfl (by kernel_rfl) (fun _ _ _ h => h) (Or.inr ⟨by rfl, rfl⟩) ?_ ?_; rotate_left; (· simp only [Act.put, List.setIfInBounds_toArray, List.set_cons_zero, List.set_cons_succ, i64_w, i32_w]; rfl)
      refine pure_ (i := 10) (N := some 22) (v := undef) (a' := ?_) (bs 21 2047) rfl rfl (by kernel_rfl) (fun _ _ _ h => h) (Or.inr ⟨by rfl, rfl⟩) ?_ ?_; rotate_left; (· simp only [Act.put, List.setIfInBounds_toArray, List.set_cons_zero, List.set_cons_succ, i64_w, i32_w]; rfl)
      refine pure_ (i := 11) (N := some 23) (v := undef) (a' := ?_) (bs 21 4095) rfl rfl (by kernel_rfl) (fun _ _ _ h => h) (Or.inr ⟨by rfl, rfl⟩) ?_ ?_; rotate_left; (· simp only [Act.put, List.setIfInBounds_toArray, List.set_cons_zero, List.set_cons_succ, i64_w, i32_w]; rfl)
      refine pure_ (i := 12) (N := some 24) (v := undef) (a' := ?_) (bs 21 8191) rfl rfl (by kernel_rfl) (fun _ _ _ h => h) (Or.inr ⟨by rfl, rfl⟩) ?_ ?_; rotate_left; (· simp only [Act.put, List.setIfInBounds_toArray, List.set_cons_zero, List.set_cons_succ, i64_w, i32_w]; rfl)
      refine pure_ (i := 13) (N := some 25) (v := undef) (a' := ?_) (bs 21 16383) rfl rfl (by kernel_rfl) (fun _ _ _ h => h) (Or.inr ⟨by rfl, rfl⟩) ?_ ?_; rotate_left; (· simp only [Act.put, List.setIfInBounds_toArray, List.set_cons_zero, List.set_cons_succ, i64_w, i32_w]; rfl)
      refine pure_ (i := 14) (N := some 26) (v := undef) (a' := ?_) (bs 21 32767) rfl rfl (by kernel_rfl) (fun _ _ _ h => h) (Or.inr ⟨by rfl, rfl⟩) ?_ ?_; rotate_left; (· simp only [Act.put, List.setIfInBounds_toArray, List.set_cons_zero, List.set_cons_succ, i64_w, i32_w]; rfl)
      refine pure_ (i := 15) (N := some 27) (v := undef) (a' := ?_) (bs 21 65535) rfl rfl (by kernel_rfl) (fun _ _ _ h => h) (Or.inr ⟨by rfl, rfl⟩) ?_ ?_; rotate_left; (· simp only [Act.put, List.setIfInBounds_toArray, List.set_cons_zero, List.set_cons_succ, i64_w, i32_w]; rfl)
      refine pure_ (i := 16) (N := some 28) (v := undef) (a' := ?_) (bs 21 131071) rfl rfl (by kernel_rfl) (fun _ _ _ h => h) (Or.inr ⟨by rfl, rfl⟩) ?_ ?_; rotate_left; (· simp only [Act.put, List.setIfInBounds_toArray, List.set_cons_zero, List.set_cons_succ, i64_w, i32_w]; rfl)
      refine pure_ (i := 17) (N := some 29) (v := undef) (a' := ?_) (bs 21 262143) rfl rfl (by kernel_rfl) (fun _ _ _ h => h) (Or.inr ⟨by rfl, rfl⟩) ?_ ?_; rotate_left; (· simp only [Act.put, List.setIfInBounds_toArray, List.set_cons_zero, List.set_cons_succ, i64_w, i32_w]; rfl)
      refine pure_ (i := 18) (N := some 30) (v := undef) (a' := ?_) (bs 21 524287) rfl rfl (by kernel_rfl) (fun _ _ _ h => h) (Or.inr ⟨by rfl, rfl⟩) ?_ ?_; rotate_left; (· simp only [Act.put, List.setIfInBounds_toArray, List.set_cons_zero, List.set_cons_succ, i64_w, i32_w]; rfl)
      refine pure_ (i := 19) (N := some 31) (v := ?_) (a' := ?_) (bs 21 1048575) rfl rfl (by kernel_rfl) (fun _ _ _ h => h) (Or.inl ⟨by rfl, ?_⟩) ?_ ?_; rotate_left; (· intro w'; go_simp; first | done | with_reducible rfl); rotate_left; (· simp only [Act.put, List.setIfInBounds_toArray, List.set_cons_zero, List.set_cons_succ, i64_w, i32_w]; rfl)
      refine pure_ (i := 20) (N := some 6) (v := ?_) (a' := ?_) (bs 21 2097151) rfl rfl (by kernel_rfl) (fun _ _ _ h => h) (Or.inl ⟨by rfl, ?_⟩) ?_ ?_; rotate_left; (· intro w'; go_simp; first | done | with_reducible rfl); rotate_left; (· simp only [Act.put, List.setIfInBounds_toArray, List.set_cons_zero, List.set_cons_succ, i64_w, i32_w]; rfl)
      refine done_ (by kernel_rfl) ?_
      go_wp2_with fail
      go_ret
      exact ⟨ret_b HV3.out.symm, (H4.out.step (below_drew' (Below.refl _ _))).below⟩
    · have hm1 : decide (m < 0) = false := decide_eq_false hm
      clear hm
      by_cases hz : n = 0
      · have hz1 : (n == 0) = true := by simpa using hz
        have HV3 := Aside0.mk (show V = true by rw [HV2.out, hz1]; simp)
        clear HV2 hz
        go_wp2_with fail
        refine start_ (n := 21) (S := fun w' => w'.cell? ⟨w.heap.size, 0, none⟩ = some (.int .i64 ms) ∧ w'.cell? ⟨w.heap.size, 1, none⟩ = some (.int .i64 ts) ∧ w'.cell? ⟨w.heap.size + 1, 0, none⟩ = some (.int .i64 d) ∧ w'.cell? ⟨w.heap.size + 1, 1, none⟩ = some (.int .i64 m) ∧ w'.cell? ⟨w.heap.size + 1, 2, none⟩ = some (.int .i64 n) ∧ w'.cell? ⟨w.heap.size + 1, 3, none⟩ = some (.int .i64 e) ∧ w'.cell? ⟨w.heap.size + 1 + 1, 0, none⟩ = some (.int .i64 d') ∧ w'.cell? ⟨w.heap.size + 1 + 1, 1, none⟩ = some (.int .i64 m') ∧ w'.cell? ⟨w.heap.size + 1 + 1, 2, none⟩ = some (.int .i64 n') ∧ w'.cell? ⟨w.heap.size + 1 + 1, 3, none⟩ = some (.int .i64 e')) (ds := []) (bs 21 0) (by kernel_rfl) rfl rfl (H4.out.step (below_drew' (Below.refl _ _))).cells (fun hHeld => ?_)
        refine pure_ (i := 0) (N := some 12) (v := ?_) (a' := ?_) (bs 21 1) rfl rfl (by kernel_rfl) (fun _ _ _ h => h) (Or.inl ⟨by rfl, ?_⟩) ?_ ?_; rotate_left; (· intro w'; go_simp; first | done | with_reducible rfl); rotate_left; (· simp only [Act.put, List.setIfInBounds_toArray, List.set_cons_zero, List.set_cons_succ, i64_w, i32_w]; rfl)
        refine take_ (i := 1) (N := some 13) (v := ?_) (a' := ?_) (bs 21 3) rfl rfl (by kernel_rfl) (fun _ _ _ h => h) (Or.inl ⟨by rfl, ?_⟩) hHeld ?_ ?_; rotate_left; (· rintro w' ⟨s0, s1, s2, s3, s4, s5, s6, s7, s8, s9⟩; go_simp; first | done | with_reducible rfl); rotate_left; (· simp only [Act.put, List.setIfInBounds_toArray, List.set_cons_zero, List.set_cons_succ, i64_w, i32_w]; rfl)
        refine pure_ (i := 2) (N := some 14) (v := ?_) (a' := ?_) (bs 21 7) rfl rfl (by kernel_rfl) (fun _ _ _ h => h) (Or.inl ⟨by rfl, ?_⟩) ?_ ?_; rotate_left; (· intro w'; go_simp; first | done | with_reducible rfl); rotate_left; (· simp only [Act.put, List.setIfInBounds_toArray, List.set_cons_zero, List.set_cons_succ, i64_w, i32_w]; rfl)
        refine pure_ (i := 3) (N := some 15) (v := ?_) (a' := ?_) (bs 21 15) rfl rfl (by kernel_rfl) (fun _ _ _ h => h) (Or.inl ⟨by rfl, ?_⟩) ?_ ?_; rotate_left; (· intro w'; go_simp; first | done | with_reducible rfl); rotate_left; (· simp only [Act.put, List.setIfInBounds_toArray, List.set_cons_zero, List.set_cons_succ, i64_w, i32_w]; rfl)
        refine pure_ (i := 4) (N := some 16) (v := ?_) (a' := ?_) (bs 21 31) rfl rfl (by kernel_rfl) (fun _ _ _ h => h) (Or.inl ⟨by rfl, ?_⟩) ?_ ?_; rotate_left; (· intro w'; go_simp; first | done | with_reducible rfl); rotate_left; (· simp only [Act.put, List.setIfInBounds_toArray, List.set_cons_zero, List.set_cons_succ, i64_w, i32_w]; rfl)
        refine take_ (i := 5) (N := some 17) (v := ?_) (a' := ?_) (bs 21 63) rfl rfl (by kernel_rfl) (fun _ _ _ h => h) (Or.inl ⟨by rfl, ?_⟩) hHeld ?_ ?_; rotate_left; (· rintro w' ⟨s0, s1, s2, s3, s4, s5, s6, s7, s8, s9⟩; go_simp; first | done | with_reducible rfl); rotate_left; (· simp only [Act.put, List.setIfInBounds_toArray, List.set_cons_zero, List.set_cons_succ, i64_w, i32_w]; rfl)
        refine pure_ (i := 6) (N := some 18) (v := ?_) (a' := ?_) (bs 21 127) rfl rfl (by kernel_rfl) (fun _ _ _ h => h) (Or.inl ⟨by rfl, ?_⟩) ?_ ?_; rotate_left; (· intro w'; go_simp; first | done | with_reducible rfl); rotate_left; (· simp only [Act.put, List.setIfInBounds_toArray, List.set_cons_zero, List.set_cons_succ, i64_w, i32_w]; rfl)
        refine pure_ (i := 7) (N := some 19) (v := ?_) (a' := ?_) (bs 21 255) rfl rfl (by kernel_rfl) (fun _ _ _ h => h) (Or.inl ⟨by rfl, ?_⟩) ?_ ?_; rotate_left; (· intro w'; go_simp; first | done | with_reducible rfl); rotate_left; (· simp only [Act.put, List.setIfInBounds_toArray, List.set_cons_zero, List.set_cons_succ, i64_w, i32_w]; rfl)
        refine pure_ (i := 8) (N := some 20) (v := ?_) (a' := ?_) (bs 21 511) rfl rfl (by kernel_rfl) (fun _ _ _ h => h) (Or.inl ⟨by rfl, ?_⟩) ?_ ?_; rotate_left; (· intro w'; go_simp; first | done | with_reducible rfl); rotate_left; (· simp only [Act.put, List.setIfInBounds_toArray, List.set_cons_zero, List.set_cons_succ, i64_w, i32_w]; rfl)
        refine pure_ (i := 9) (N := some 21) (v := undef) (a' := ?_) (bs 21 1023) rfl rfl (by kernel_rfl) (fun _ _ _ h => h) (Or.inr ⟨by rfl, rfl⟩) ?_ ?_; rotate_left; (· simp only [Act.put, List.setIfInBounds_toArray, List.set_cons_zero, List.set_cons_succ, i64_w, i32_w]; rfl)
        refine pure_ (i := 10) (N := some 22) (v := undef) (a' := ?_) (bs 21 2047) rfl rfl (by kernel_rfl) (fun _ _ _ h => h) (Or.inr ⟨by rfl, rfl⟩) ?_ ?_; rotate_left; (· simp only [Act.put, List.setIfInBounds_toArray, List.set_cons_zero, List.set_cons_succ, i64_w, i32_w]; rfl)
        refine pure_ (i := 11) (N := some 23) (v := undef) (a' := ?_) (bs 21 4095) rfl rfl (by kernel_rfl) (fun _ _ _ h => h) (Or.inr ⟨by rfl, rfl⟩) ?_ ?_; rotate_left; (· simp only [Act.put, List.setIfInBounds_toArray, List.set_cons_zero, List.set_cons_succ, i64_w, i32_w]; rfl)
        refine pure_ (i := 12) (N := some 24) (v := undef) (a' := ?_) (bs 21 8191) rfl rfl (by kernel_rfl) (fun _ _ _ h => h) (Or.inr ⟨by rfl, rfl⟩) ?_ ?_; rotate_left; (· simp only [Act.put, List.setIfInBounds_toArray, List.set_cons_zero, List.set_cons_succ, i64_w, i32_w]; rfl)
        refine pure_ (i := 13) (N := some 25) (v := undef) (a' := ?_) (bs 21 16383) rfl rfl (by kernel_rfl) (fun _ _ _ h => h) (Or.inr ⟨by rfl, rfl⟩) ?_ ?_; rotate_left; (· simp only [Act.put, List.setIfInBounds_toArray, List.set_cons_zero, List.set_cons_succ, i64_w, i32_w]; rfl)
        refine pure_ (i := 14) (N := some 26) (v := undef) (a' := ?_) (bs 21 32767) rfl rfl (by kernel_rfl) (fun _ _ _ h => h) (Or.inr ⟨by rfl, rfl⟩) ?_ ?_; rotate_left; (· simp only [Act.put, List.setIfInBounds_toArray, List.set_cons_zero, List.set_cons_succ, i64_w, i32_w]; rfl)
        refine pure_ (i := 15) (N := some 27) (v := undef) (a' := ?_) (bs 21 65535) rfl rfl (by kernel_rfl) (fun _ _ _ h => h) (Or.inr ⟨by rfl, rfl⟩) ?_ ?_; rotate_left; (· simp only [Act.put, List.setIfInBounds_toArray, List.set_cons_zero, List.set_cons_succ, i64_w, i32_w]; rfl)
        refine pure_ (i := 16) (N := some 28) (v := undef) (a' := ?_) (bs 21 131071) rfl rfl (by kernel_rfl) (fun _ _ _ h => h) (Or.inr ⟨by rfl, rfl⟩) ?_ ?_; rotate_left; (· simp only [Act.put, List.setIfInBounds_toArray, List.set_cons_zero, List.set_cons_succ, i64_w, i32_w]; rfl)
        refine pure_ (i := 17) (N := some 29) (v := undef) (a' := ?_) (bs 21 262143) rfl rfl (by kernel_rfl) (fun _ _ _ h => h) (Or.inr ⟨by rfl, rfl⟩) ?_ ?_; rotate_left; (· simp only [Act.put, List.setIfInBounds_toArray, List.set_cons_zero, List.set_cons_succ, i64_w, i32_w]; rfl)
        refine pure_ (i := 18) (N := some 30) (v := undef) (a' := ?_) (bs 21 524287) rfl rfl (by kernel_rfl) (fun _ _ _ h => h) (Or.inr ⟨by rfl, rfl⟩) ?_ ?_; rotate_left; (· simp only [Act.put, List.setIfInBounds_toArray, List.set_cons_zero, List.set_cons_succ, i64_w, i32_w]; rfl)
        refine pure_ (i := 19) (N := some 31) (v := ?_) (a' := ?_) (bs 21 1048575) rfl rfl (by kernel_rfl) (fun _ _ _ h => h) (Or.inl ⟨by rfl, ?_⟩) ?_ ?_; rotate_left; (· intro w'; go_simp; first | done | with_reducible rfl); rotate_left; (· simp only [Act.put, List.setIfInBounds_toArray, List.set_cons_zero, List.set_cons_succ, i64_w, i32_w]; rfl)
        refine pure_ (i := 20) (N := some 6) (v := ?_) (a' := ?_) (bs 21 2097151) rfl rfl (by kernel_rfl) (fun _ _ _ h => h) (Or.inl ⟨by rfl, ?_⟩) ?_ ?_; rotate_left; (· intro w'; go_simp; first | done | with_reducible rfl); rotate_left; (· simp only [Act.put, List.setIfInBounds_toArray, List.set_cons_zero, List.set_cons_succ, i64_w, i32_w]; rfl)
        refine done_ (by kernel_rfl) ?_
        go_wp2_with fail
        go_ret
        exact ⟨ret_b HV3.out.symm, (H4.out.step (below_drew' (Below.refl _ _))).below⟩
      · have hz1 : (n == 0) = false := by simpa using hz
        have HV3 := Aside0.mk (show V = (cmpQ (afterQ ms ts m n e d) (qq m' 1) == 0) by rw [HV2.out, hm1, hz1]; rfl)
        clear HV2 hz
        go_wp2_with fail
        refine start_ (n := 21) (S := fun w' => w'.cell? ⟨w.heap.size, 0, none⟩ = some (.int .i64 ms) ∧ w'.cell? ⟨w.heap.size, 1, none⟩ = some (.int .i64 ts) ∧ w'.cell? ⟨w.heap.size + 1, 0, none⟩ = some (.int .i64 d) ∧ w'.cell? ⟨w.heap.size + 1, 1, none⟩ = some (.int .i64 m) ∧ w'.cell? ⟨w.heap.size + 1, 2, none⟩ = some (.int .i64 n) ∧ w'.cell? ⟨w.heap.size + 1, 3, none⟩ = some (.int .i64 e) ∧ w'.cell? ⟨w.heap.size + 1 + 1, 0, none⟩ = some (.int .i64 d') ∧ w'.cell? ⟨w.heap.size + 1 + 1, 1, none⟩ = some (.int .i64 m') ∧ w'.cell? ⟨w.heap.size + 1 + 1, 2, none⟩ = some (.int .i64 n') ∧ w'.cell? ⟨w.heap.size + 1 + 1, 3, none⟩ = some (.int .i64 e')) (ds := []) (bs 21 0) (by kernel_rfl) rfl rfl (H4.out.step (below_drew' (Below.refl _ _))).cells (fun hHeld => ?_)
        refine pure_ (i := 0) (N := some 12) (v := ?_) (a' := ?_) (bs 21 1) rfl rfl (by kernel_rfl) (fun _ _ _ h => h) (Or.inl ⟨by rfl, ?_⟩) ?_ ?_; rotate_left; (· intro w'; go_simp; first | done | with_reducible rfl); rotate_left; (· simp only [Act.put, List.setIfInBounds_toArray, List.set_cons_zero, List.set_cons_succ, i64_w, i32_w]; rfl)
        refine take_ (i := 1) (N := some 13) (v := ?_) (a' := ?_) (bs 21 3) rfl rfl (by kernel_rfl) (fun _ _ _ h => h) (Or.inl ⟨by rfl, ?_⟩) hHeld ?_ ?_; rotate_left; (· rintro w' ⟨s0, s1, s2, s3, s4, s5, s6, s7, s8, s9⟩; go_simp; first | done | with_reducible rfl); rotate_left; (· simp only [Act.put, List.setIfInBounds_toArray, List.set_cons_zero, List.set_cons_succ, i64_w, i32_w]; rfl)
        refine pure_ (i := 2) (N := some 14) (v := ?_) (a' := ?_) (bs 21 7) rfl rfl (by kernel_rfl) (fun _ _ _ h => h) (Or.inl ⟨by rfl, ?_⟩) ?_ ?_; rotate_left; (· intro w'; go_simp; first | done | with_reducible rfl); rotate_left; (· simp only [Act.put, List.setIfInBounds_toArray, List.set_cons_zero, List.set_cons_succ, i64_w, i32_w]; rfl)
        refine pure_ (i := 3) (N := some 15) (v := ?_) (a' := ?_) (bs 21 15) rfl rfl (by kernel_rfl) (fun _ _ _ h => h) (Or.inl ⟨by rfl, ?_⟩) ?_ ?_; rotate_left; (· intro w'; go_simp; first | done | with_reducible rfl); rotate_left; (· simp only [Act.put, List.setIfInBounds_toArray, List.set_cons_zero, List.set_cons_succ, i64_w, i32_w]; rfl)
        refine pure_ (i := 4) (N := some 16) (v := ?_) (a' := ?_) (bs 21 31) rfl rfl (by kernel_rfl) (fun _ _ _ h => h) (Or.inl ⟨by rfl, ?_⟩) ?_ ?_; rotate_left; (· intro w'; go_simp; first | done | with_reducible rfl); rotate_left; (· simp only [Act.put, List.setIfInBounds_toArray, List.set_cons_zero, List.set_cons_succ, i64_w, i32_w]; rfl)
        refine take_ (i := 5) (N := some 17) (v := ?_) (a' := ?_) (bs 21 63) rfl rfl (by kernel_rfl) (fun _ _ _ h => h) (Or.inl ⟨by rfl, ?_⟩) hHeld ?_ ?_; rotate_left; (· rintro w' ⟨s0, s1, s2, s3, s4, s5, s6, s7, s8, s9⟩; go_simp; first | done | with_reducible rfl); rotate_left; (· simp only [Act.put, List.setIfInBounds_toArray, List.set_cons_zero, List.set_cons_succ, i64_w, i32_w]; rfl)
        refine pure_ (i := 6) (N := some 18) (v := ?_) (a' := ?_) (bs 21 127) rfl rfl (by kernel_rfl) (fun _ _ _ h => h) (Or.inl ⟨by rfl, ?_⟩) ?_ ?_; rotate_left; (· intro w'; go_simp; first | done | with_reducible rfl); rotate_left; (· simp only [Act.put, List.setIfInBounds_toArray, List.set_cons_zero, List.set_cons_succ, i64_w, i32_w]; rfl)
        refine pure_ (i := 7) (N := some 19) (v := ?_) (a' := ?_) (bs 21 255) rfl rfl (by kernel_rfl) (fun _ _ _ h => h) (Or.inl ⟨by rfl, ?_⟩) ?_ ?_; rotate_left; (· intro w'; go_simp; first | done | with_reducible rfl); rotate_left; (· simp only [Act.put, List.setIfInBounds_toArray, List.set_cons_zero, List.set_cons_succ, i64_w, i32_w]; rfl)
        refine pure_ (i := 8) (N := some 20) (v := ?_) (a' := ?_) (bs 21 511) rfl rfl (by kernel_rfl) (fun _ _ _ h => h) (Or.inl ⟨by rfl, ?_⟩) ?_ ?_; rotate_left; (· intro w'; go_simp; first | done | with_reducible rfl); rotate_left; (· simp only [Act.put, List.setIfInBounds_toArray, List.set_cons_zero, List.set_cons_succ, i64_w, i32_w]; rfl)
        refine pure_ (i := 11) (N := some 23) (v := ?_) (a' := ?_) (bs 21 2559) rfl rfl (by kernel_rfl) (fun _ _ _ h => h) (Or.inl ⟨by rfl, ?_⟩) ?_ ?_; rotate_left; (· intro w'; go_simp; first | done | with_reducible rfl); rotate_left; (· simp only [Act.put, List.setIfInBounds_toArray, List.set_cons_zero, List.set_cons_succ, i64_w, i32_w]; rfl)
        refine pure_ (i := 14) (N := some 26) (v := ?_) (a' := ?_) (bs 21 18943) rfl rfl (by kernel_rfl) (fun _ _ _ h => h) (Or.inl ⟨by rfl, ?_⟩) ?_ ?_; rotate_left; (· intro w'; go_simp; first | done | with_reducible rfl); rotate_left; (· simp only [Act.put, List.setIfInBounds_toArray, List.set_cons_zero, List.set_cons_succ, i64_w, i32_w]; rfl)
        refine take_ (i := 9) (N := some 21) (v := ?_) (a' := ?_) (bs 21 19455) rfl rfl (by kernel_rfl) (fun _ _ _ h => h) (Or.inl ⟨by rfl, ?_⟩) hHeld ?_ ?_; rotate_left; (· rintro w' ⟨s0, s1, s2, s3, s4, s5, s6, s7, s8, s9⟩; go_simp; first | done | with_reducible rfl); rotate_left; (· simp only [Act.put, List.setIfInBounds_toArray, List.set_cons_zero, List.set_cons_succ, i64_w, i32_w]; rfl)
        refine take_ (i := 10) (N := some 22) (v := ?_) (a' := ?_) (bs 21 20479) rfl rfl (by kernel_rfl) (fun _ _ _ h => h) (Or.inl ⟨by rfl, ?_⟩) hHeld ?_ ?_; rotate_left; (· rintro w' ⟨s0, s1, s2, s3, s4, s5, s6, s7, s8, s9⟩; go_simp; first | done | with_reducible rfl); rotate_left; (· simp only [Act.put, List.setIfInBounds_toArray, List.set_cons_zero, List.set_cons_succ, i64_w, i32_w]; rfl)
        refine take_ (i := 12) (N := some 24) (v := ?_) (a' := ?_) (bs 21 24575) rfl rfl (by kernel_rfl) (fun _ _ _ h => h) (Or.inl ⟨by rfl, ?_⟩) hHeld ?_ ?_; rotate_left; (· rintro w' ⟨s0, s1, s2, s3, s4, s5, s6, s7, s8, s9⟩; go_simp; first | done | with_reducible rfl); rotate_left; (· simp only [Act.put, List.setIfInBounds_toArray, List.set_cons_zero, List.set_cons_succ, i64_w, i32_w]; rfl)
        refine take_ (i := 15) (N := some 27) (v := ?_) (a' := ?_) (bs 21 57343) rfl rfl (by kernel_rfl) (fun _ _ _ h => h) (Or.inl ⟨by rfl, ?_⟩) hHeld ?_ ?_; rotate_left; (· rintro w' ⟨s0, s1, s2, s3, s4, s5, s6, s7, s8, s9⟩; go_simp; first | done | with_reducible rfl); rotate_left; (· simp only [Act.put, List.setIfInBounds_toArray, List.set_cons_zero, List.set_cons_succ, i64_w, i32_w]; rfl)
        refine one_ (i := 13) (N := some 25) (bs 21 65535) rfl rfl (by kernel_rfl) (by decide) (fun K hK => ?_)
        refine goes_ Try.func135 (by kernel_rfl) rfl #[.agg #[.int .i64 ms, .int .i64 ts], .agg #[.int .i64 d, .int .i64 m, .int .i64 n, .int .i64 e], .int .i64 d] (by rfl) rfl rfl (by simp only [List.map_toArray, List.map_cons, List.map_nil]; rfl) ?_
        with_reducible refine (after_n ms ts d m n e d w4.drew HH.out.1 HH.out.2.1 HH.out.2.2.1 HH.out.2.2.2.1 HH.out.2.2.2.2.1 HH.out.2.2.2.2.2.1).mono ?_
        rintro e5 w5 ⟨g5, hg5, rfl, hb5, hN5⟩
        refine ⟨_, rfl, ?_⟩
        have hb5' := below_drew' hb5
        have H5 := Aside0.mk (And.intro hN5 (H4.out.step hb5'))
        clear hb5 hb5' hN5 hg5
        refine hK.out _ _ H5.out.2.cells (fun hHeld => ?_)
        clear hK K
        refine norm_ (a' := ?_) ?_ ?_; rotate_left; (· show Act.put _ (some 25) _ = _; simp only [Act.put, List.setIfInBounds_toArray, List.set_cons_zero, List.set_cons_succ, i64_w, i32_w]; rfl)
        refine one_ (i := 16) (N := some 28) (bs 21 131071) rfl rfl (by kernel_rfl) (by decide) (fun K hK => ?_)
        refine goes_ Try.func78 (by kernel_rfl) rfl #[.int .i64 m', .int .i64 1] (by rfl) rfl rfl (by simp only [List.map_toArray, List.map_cons, List.map_nil]; rfl) ?_
        with_reducible refine (ratioE_n m' 1 w5 HH.out.2.2.2.2.2.2 i1 (by decide)).mono ?_
        rintro e6 w6 ⟨g6, hg6, rfl, hb6, hN6⟩
        refine ⟨_, rfl, ?_⟩
        have H6 := Aside0.mk (And.intro (H5.out.1.below hb6) (And.intro hN6 (H5.out.2.step hb6)))
        clear hb6 hN6 hg6
        refine hK.out _ _ H6.out.2.2.cells (fun hHeld => ?_)
        clear hK K
        refine norm_ (a' := ?_) ?_ ?_; rotate_left; (· show Act.put _ (some 28) _ = _; simp only [Act.put, List.setIfInBounds_toArray, List.set_cons_zero, List.set_cons_succ, i64_w, i32_w]; rfl)
        refine one_ (i := 17) (N := some 29) (bs 21 262143) rfl rfl (by kernel_rfl) (by decide) (fun K hK => ?_)
        refine goes_ Try.func81 (by kernel_rfl) rfl #[.pointer (some ⟨g5, 0, none⟩), .pointer (some ⟨g6, 0, none⟩)] (by rfl) rfl rfl (by simp only [List.map_toArray, List.map_cons, List.map_nil]; rfl) ?_
        with_reducible refine (cmpQ_n g5 g6 _ _ 9 2 w6 H6.out.1 H6.out.2.1 (by decide)).mono ?_
        rintro e7 w7 ⟨rfl, hb7⟩
        refine ⟨_, rfl, ?_⟩
        have H7 := Aside0.mk (H6.out.2.2.step hb7)
        clear hb7
        refine hK.out _ _ H7.out.cells (fun hHeld => ?_)
        clear hK K
        refine norm_ (a' := ?_) ?_ ?_; rotate_left; (· show Act.put _ (some 29) _ = _; simp only [Act.put, List.setIfInBounds_toArray, List.set_cons_zero, List.set_cons_succ, i64_w, i32_w]; rfl)
        refine pure_ (i := 18) (N := some 30) (v := ?_) (a' := ?_) (bs 21 524287) rfl rfl (by kernel_rfl) (fun _ _ _ h => h) (Or.inl ⟨by rfl, ?_⟩) ?_ ?_; rotate_left; (· intro w'; go_simp; first | done | with_reducible rfl); rotate_left; (· simp only [Act.put, List.setIfInBounds_toArray, List.set_cons_zero, List.set_cons_succ, i64_w, i32_w]; rfl)
        refine pure_ (i := 19) (N := some 31) (v := ?_) (a' := ?_) (bs 21 1048575) rfl rfl (by kernel_rfl) (fun _ _ _ h => h) (Or.inl ⟨by rfl, ?_⟩) ?_ ?_; rotate_left; (· intro w'; go_simp; first | done | with_reducible rfl); rotate_left; (· simp only [Act.put, List.setIfInBounds_toArray, List.set_cons_zero, List.set_cons_succ, i64_w, i32_w]; rfl)
        refine pure_ (i := 20) (N := some 6) (v := ?_) (a' := ?_) (bs 21 2097151) rfl rfl (by kernel_rfl) (fun _ _ _ h => h) (Or.inl ⟨by rfl, ?_⟩) ?_ ?_; rotate_left; (· intro w'; go_simp; first | done | with_reducible rfl); rotate_left; (· simp only [Act.put, List.setIfInBounds_toArray, List.set_cons_zero, List.set_cons_succ, i64_w, i32_w]; rfl)
        refine done_ (by kernel_rfl) ?_
        go_wp2_with fail
        go_ret
        exact ⟨ret_b HV3.out.symm, H7.out.below⟩
end Go.Proofs.Ytpbhepdgamoiaaa.Ek

/-
  edit's rational numbers: ratio, mul, add, and the media tick behind an edit's begin.
-/
import Derived.Test.YtpbhepdgamoiaaaRf
namespace Go.Proofs.Ytpbhepdgamoiaaa.Er
open Go.RowKit Go Go.Proofs.YtpbhepdgamoiaaaW.PrintWords Go.Proofs.YtpbhepdgamoiaaaW.PrintLast Go.Proofs.YtpbhepdgamoiaaaW.PrintMore Go.Proofs.Ytpbhepdgamoiaaa.Ml Go.Proofs.Ytpbhepdgamoiaaa.Mn Go.Proofs.Ytpbhepdgamoiaaa.Nd Go.Proofs.Ytpbhepdgamoiaaa.P Go.Proofs.Ytpbhepdgamoiaaa.Nc Go.Proofs.Ytpbhepdgamoiaaa.Nb Go.Proofs.Ytpbhepdgamoiaaa.Qa Go.Proofs.Ytpbhepdgamoiaaa.Ea Go.Proofs.Ytpbhepdgamoiaaa.Ra Go.Proofs.Ytpbhepdgamoiaaa.Rf
set_option linter.unusedVariables false
set_option linter.unusedSimpArgs false

structure I64 (x : Int) : Prop where
  lo : -9223372036854775808 ≤ x
  hi : x ≤ 9223372036854775807
def edO (d m n e : Int) : Obj := .cells #[.int .i64 d, .int .i64 m, .int .i64 n, .int .i64 e] 77 (0, 0)
def clO (ms ts : Int) : Obj := .cells #[.int .i64 ms, .int .i64 ts] 79 (0, 0)
theorem ed_cells {w : World} {g : Nat} {d m n e : Int} (h : w.heap[g]? = some (edO d m n e)) : w.cell? ⟨g, 0, none⟩ = some (.int .i64 d) ∧ w.cell? ⟨g, 1, none⟩ = some (.int .i64 m) ∧ w.cell? ⟨g, 2, none⟩ = some (.int .i64 n) ∧ w.cell? ⟨g, 3, none⟩ = some (.int .i64 e) :=
  ⟨(blk_cell h 0).trans rfl, (blk_cell h 1).trans rfl, (blk_cell h 2).trans rfl, (blk_cell h 3).trans rfl⟩
theorem ed_free {w : World} {g : Nat} {d m n e : Int} (h : w.heap[g]? = some (edO d m n e)) : w.frozen? ⟨g, 0, none⟩ = false ∧ w.frozen? ⟨g, 1, none⟩ = false ∧ w.frozen? ⟨g, 2, none⟩ = false ∧ w.frozen? ⟨g, 3, none⟩ = false :=
  ⟨blk_frozen h 0, blk_frozen h 1, blk_frozen h 2, blk_frozen h 3⟩
theorem cl_cells {w : World} {g : Nat} {ms ts : Int} (h : w.heap[g]? = some (clO ms ts)) : w.cell? ⟨g, 0, none⟩ = some (.int .i64 ms) ∧ w.cell? ⟨g, 1, none⟩ = some (.int .i64 ts) :=
  ⟨(blk_cell h 0).trans rfl, (blk_cell h 1).trans rfl⟩
set_option maxHeartbeats 2000000 in
theorem ratioE_n (a b : Int) (w : World) (ha : I64 a) (hb : I64 b) (hz : b ≠ 0) :
    Calls Try.prog 78 #[.int .i64 a, .int .i64 b] w (QP w (qq a b) 2) := by
  have HC := Aside0.mk (newRat_n a b w ha.lo ha.hi hb.lo hb.hi hz)
  clear hz
  go_enter Try.func78, Try.ntmps78
  go_wp2_with fail
  refine HC.out.mono ?_
  rintro e w2 ⟨g, hg, rfl, hb2, hN⟩
  have H := Aside0.mk (And.intro hg (And.intro hb2 hN))
  clear hg hb2 hN
  go_wp2_with fail
  go_ret
  exact ⟨g, H.out.1, rfl, H.out.2.1, H.out.2.2⟩
set_option maxHeartbeats 2000000 in
theorem mulE_n (gy gz : Nat) (p q : Rat) (n m : Nat) (w : World) (hy : RQ w gy p n) (hz : RQ w gz q m) (hl : n + m ≤ 400) :
    Calls Try.prog 77 #[.pointer (some ⟨gy, 0, none⟩), .pointer (some ⟨gz, 0, none⟩)] w (QP w (p * q) (n + m)) := by
  have hb1 : Below w.heap.size w (w.alloc (.cells #[.bool false, .slice none 0 0, .bool false, .slice none 0 0] 138)) := below_alloc (Below.refl _ w) _
  have HC := Aside0.mk (mulQ_n w.heap.size gy gz p q n m w.heap.size _ (room_rat0 w) (room_rat2 w) (hy.below hb1) (hz.below hb1) hl (Nat.le_refl _))
  have HB := Aside0.mk hb1
  clear hb1 hy hz
  go_enter Try.func77, Try.ntmps77
  go_wp2_with fail
  refine HC.out.mono ?_
  rintro e w2 ⟨rfl, hb2, hN⟩
  have H := Aside0.mk (And.intro hb2 hN)
  clear hb2 hN
  go_wp2_with fail
  go_ret
  exact ⟨_, Nat.le_refl _, rfl, HB.out.trans H.out.1, H.out.2⟩
set_option maxHeartbeats 2000000 in
theorem addE_n (gy gz : Nat) (p q : Rat) (n m : Nat) (w : World) (hy : RQ w gy p n) (hz : RQ w gz q m) (hl : n + m ≤ 400) :
    Calls Try.prog 83 #[.pointer (some ⟨gy, 0, none⟩), .pointer (some ⟨gz, 0, none⟩)] w (QP w (p + q) (n + m + 1)) := by
  have hb1 : Below w.heap.size w (w.alloc (.cells #[.bool false, .slice none 0 0, .bool false, .slice none 0 0] 138)) := below_alloc (Below.refl _ w) _
  have HC := Aside0.mk (addQ_n w.heap.size gy gz p q n m w.heap.size _ (room_rat0 w) (room_rat2 w) (hy.below hb1) (hz.below hb1) hl (Nat.le_refl _))
  have HB := Aside0.mk hb1
  clear hb1 hy hz
  go_enter Try.func83, Try.ntmps83
  go_wp2_with fail
  refine HC.out.mono ?_
  rintro e w2 ⟨rfl, hb2, hN⟩
  have H := Aside0.mk (And.intro hb2 hN)
  clear hb2 hN
  go_wp2_with fail
  go_ret
  exact ⟨_, Nat.le_refl _, rfl, HB.out.trans H.out.1, H.out.2⟩
/-- The clocks and an edit, boxed. -/
structure Bx (w W : World) (ms ts d m n e : Int) : Prop where
  c : W.heap[w.heap.size]? = some (clO ms ts)
  e : W.heap[w.heap.size + 1]? = some (edO d m n e)
  below : Below w.heap.size w W
theorem Bx.start (w : World) (ms ts d m n e : Int) : Bx w ((w.alloc (clO ms ts)).alloc (edO d m n e)) ms ts d m n e := by
  have e1 : (w.alloc (clO ms ts)).heap.size = w.heap.size + 1 := by simp
  have k2 := blk_new (w.alloc (clO ms ts)) (edO d m n e)
  rw [e1] at k2
  exact ⟨blk_alloc (blk_new w _) _, k2, below_alloc (below_alloc (Below.refl _ w) _) _⟩
theorem Bx.step {w W W2 : World} {ms ts d m n e : Int} (h : Bx w W ms ts d m n e) (hb : Below W.heap.size W W2) : Bx w W2 ms ts d m n e :=
  ⟨blk_below h.c hb, blk_below h.e hb, h.below.trans (hb.mono h.below.size)⟩
theorem Bx.cells {w W : World} {ms ts d m n e : Int} (h : Bx w W ms ts d m n e) : W.cell? ⟨w.heap.size, 0, none⟩ = some (.int .i64 ms) ∧ W.cell? ⟨w.heap.size, 1, none⟩ = some (.int .i64 ts) ∧ W.cell? ⟨w.heap.size + 1, 1, none⟩ = some (.int .i64 m) ∧ W.cell? ⟨w.heap.size + 1, 2, none⟩ = some (.int .i64 n) ∧ W.cell? ⟨w.heap.size + 1, 3, none⟩ = some (.int .i64 e) := by
  obtain ⟨c0, c1⟩ := cl_cells h.c
  obtain ⟨e0, e1, e2, e3⟩ := ed_cells h.e
  exact ⟨c0, c1, e1, e2, e3⟩
/-- The media tick so many ticks behind an edit's begin. -/
def afterQ (ms ts m n e k : Int) : Rat := qq k ms * qq n e * qq ts 1 + qq m 1
theorem i1 : I64 1 := ⟨by decide, by decide⟩
set_option maxHeartbeats 4000000 in
set_option maxRecDepth 100000 in
theorem after_n (ms ts d m n e k : Int) (w : World) (h1 : I64 ms ∧ ms ≠ 0) (h2 : I64 ts) (h3 : I64 m) (h4 : I64 n) (h5 : I64 e ∧ e ≠ 0) (h6 : I64 k) :
    Calls Try.prog 135 #[.agg #[.int .i64 ms, .int .i64 ts], .agg #[.int .i64 d, .int .i64 m, .int .i64 n, .int .i64 e], .int .i64 k] w (QP w (afterQ ms ts m n e k) 9) := by
  have hu := Try.underlying77
  have hu2 := Try.underlying79
  have HH := Aside0.mk (And.intro (And.intro h1 h2) (And.intro (And.intro h3 h4) (And.intro h5 h6)))
  have hQ := Aside0.mk (Bx.start w ms ts d m n e)
  clear h1 h2 h3 h4 h5 h6
  go_enter Try.func135, Try.ntmps135
  go_wp2_with fail
  generalize hW : World.alloc (World.alloc _ _) _ = W
  have HQ := Aside0.mk (show Bx w W ms ts d m n e by rw [← hW]; exact hQ.out)
  clear hW hQ
  have hb0 : Below W.heap.size W W.drew := below_drew' (Below.refl _ _)
  refine start_ (n := 15) (S := fun w' => w'.cell? ⟨w.heap.size, 0, none⟩ = some (.int .i64 ms) ∧ w'.cell? ⟨w.heap.size, 1, none⟩ = some (.int .i64 ts) ∧ w'.cell? ⟨w.heap.size + 1, 1, none⟩ = some (.int .i64 m) ∧ w'.cell? ⟨w.heap.size + 1, 2, none⟩ = some (.int .i64 n) ∧ w'.cell? ⟨w.heap.size + 1, 3, none⟩ = some (.int .i64 e)) (ds := []) (bs 15 0) (by kernel_rfl) rfl rfl (HQ.out.step hb0).cells (fun hHeld => ?_)
  refine pure_ (i := 0) (N := some 8) (v := ?_) (a' := ?_) (bs 15 1) rfl rfl (by kernel_rfl) (fun _ _ _ h => h) (Or.inl ⟨by rfl, ?_⟩) ?_ ?_; rotate_left; (· intro w'; go_simp; first | done | with_reducible rfl); rotate_left; (· simp only [Act.put, List.setIfInBounds_toArray, List.set_cons_zero, List.set_cons_succ, i64_w, i32_w]; rfl)
  refine pure_ (i := 1) (N := some 9) (v := ?_) (a' := ?_) (bs 15 3) rfl rfl (by kernel_rfl) (fun _ _ _ h => h) (Or.inl ⟨by rfl, ?_⟩) ?_ ?_; rotate_left; (· intro w'; go_simp; first | done | with_reducible rfl); rotate_left; (· simp only [Act.put, List.setIfInBounds_toArray, List.set_cons_zero, List.set_cons_succ, i64_w, i32_w]; rfl)
  refine pure_ (i := 4) (N := some 12) (v := ?_) (a' := ?_) (bs 15 19) rfl rfl (by kernel_rfl) (fun _ _ _ h => h) (Or.inl ⟨by rfl, ?_⟩) ?_ ?_; rotate_left; (· intro w'; go_simp; first | done | with_reducible rfl); rotate_left; (· simp only [Act.put, List.setIfInBounds_toArray, List.set_cons_zero, List.set_cons_succ, i64_w, i32_w]; rfl)
  refine pure_ (i := 6) (N := some 14) (v := ?_) (a' := ?_) (bs 15 83) rfl rfl (by kernel_rfl) (fun _ _ _ h => h) (Or.inl ⟨by rfl, ?_⟩) ?_ ?_; rotate_left; (· intro w'; go_simp; first | done | with_reducible rfl); rotate_left; (· simp only [Act.put, List.setIfInBounds_toArray, List.set_cons_zero, List.set_cons_succ, i64_w, i32_w]; rfl)
  refine pure_ (i := 10) (N := some 18) (v := ?_) (a' := ?_) (bs 15 1107) rfl rfl (by kernel_rfl) (fun _ _ _ h => h) (Or.inl ⟨by rfl, ?_⟩) ?_ ?_; rotate_left; (· intro w'; go_simp; first | done | with_reducible rfl); rotate_left; (· simp only [Act.put, List.setIfInBounds_toArray, List.set_cons_zero, List.set_cons_succ, i64_w, i32_w]; rfl)
  refine take_ (i := 2) (N := some 10) (v := ?_) (a' := ?_) (bs 15 1111) rfl rfl (by kernel_rfl) (fun _ _ _ h => h) (Or.inl ⟨by rfl, ?_⟩) hHeld ?_ ?_; rotate_left; (· rintro w' ⟨s0, s1, s2, s3, s4⟩; go_simp; first | done | with_reducible rfl); rotate_left; (· simp only [Act.put, List.setIfInBounds_toArray, List.set_cons_zero, List.set_cons_succ, i64_w, i32_w]; rfl)
  refine take_ (i := 5) (N := some 13) (v := ?_) (a' := ?_) (bs 15 1143) rfl rfl (by kernel_rfl) (fun _ _ _ h => h) (Or.inl ⟨by rfl, ?_⟩) hHeld ?_ ?_; rotate_left; (· rintro w' ⟨s0, s1, s2, s3, s4⟩; go_simp; first | done | with_reducible rfl); rotate_left; (· simp only [Act.put, List.setIfInBounds_toArray, List.set_cons_zero, List.set_cons_succ, i64_w, i32_w]; rfl)
  refine take_ (i := 7) (N := some 15) (v := ?_) (a' := ?_) (bs 15 1271) rfl rfl (by kernel_rfl) (fun _ _ _ h => h) (Or.inl ⟨by rfl, ?_⟩) hHeld ?_ ?_; rotate_left; (· rintro w' ⟨s0, s1, s2, s3, s4⟩; go_simp; first | done | with_reducible rfl); rotate_left; (· simp only [Act.put, List.setIfInBounds_toArray, List.set_cons_zero, List.set_cons_succ, i64_w, i32_w]; rfl)
  refine take_ (i := 11) (N := some 19) (v := ?_) (a' := ?_) (bs 15 3319) rfl rfl (by kernel_rfl) (fun _ _ _ h => h) (Or.inl ⟨by rfl, ?_⟩) hHeld ?_ ?_; rotate_left; (· rintro w' ⟨s0, s1, s2, s3, s4⟩; go_simp; first | done | with_reducible rfl); rotate_left; (· simp only [Act.put, List.setIfInBounds_toArray, List.set_cons_zero, List.set_cons_succ, i64_w, i32_w]; rfl)
  refine one_ (i := 3) (N := some 11) (bs 15 3327) rfl rfl (by kernel_rfl) (by decide) (fun K hK => ?_)
  refine goes_ Try.func78 (by kernel_rfl) rfl #[.int .i64 k, .int .i64 ms] (by rfl) rfl rfl (by simp only [List.map_toArray, List.map_cons, List.map_nil]; rfl) ?_
  with_reducible refine (ratioE_n k ms W.drew HH.out.2.2.2 HH.out.1.1.1 HH.out.1.1.2).mono ?_
  rintro e w3 ⟨g3, hg3, rfl, hb3, hN3⟩
  refine ⟨_, rfl, ?_⟩
  have hb3' := below_drew' hb3
  have H3 := Aside0.mk (And.intro hN3 (HQ.out.step hb3'))
  clear hb3 hN3 hb3' hg3
  refine hK.out _ _ H3.out.2.cells (fun hHeld => ?_)
  clear hK K
  refine norm_ (a' := ?_) ?_ ?_; rotate_left; (· show Act.put _ (some 11) _ = _; simp only [Act.put, List.setIfInBounds_toArray, List.set_cons_zero, List.set_cons_succ, i64_w, i32_w]; rfl)
  refine one_ (i := 8) (N := some 16) (bs 15 3583) rfl rfl (by kernel_rfl) (by decide) (fun K hK => ?_)
  refine goes_ Try.func78 (by kernel_rfl) rfl #[.int .i64 n, .int .i64 e] (by rfl) rfl rfl (by simp only [List.map_toArray, List.map_cons, List.map_nil]; rfl) ?_
  with_reducible refine (ratioE_n n e w3 HH.out.2.1.2 HH.out.2.2.1.1 HH.out.2.2.1.2).mono ?_
  rintro e w4 ⟨g4, hg4, rfl, hb4, hN4⟩
  refine ⟨_, rfl, ?_⟩
  have H4 := Aside0.mk (And.intro (H3.out.1.below hb4) (And.intro hN4 (H3.out.2.step hb4)))
  clear hb4 hN4 hg4
  refine hK.out _ _ H4.out.2.2.cells (fun hHeld => ?_)
  clear hK K
  refine norm_ (a' := ?_) ?_ ?_; rotate_left; (· show Act.put _ (some 16) _ = _; simp only [Act.put, List.setIfInBounds_toArray, List.set_cons_zero, List.set_cons_succ, i64_w, i32_w]; rfl)
  refine one_ (i := 9) (N := some 17) (bs 15 4095) rfl rfl (by kernel_rfl) (by decide) (fun K hK => ?_)
  refine goes_ Try.func77 (by kernel_rfl) rfl #[.pointer (some ⟨g3, 0, none⟩), .pointer (some ⟨g4, 0, none⟩)] (by rfl) rfl rfl (by simp only [List.map_toArray, List.map_cons, List.map_nil]; rfl) ?_
  with_reducible refine (mulE_n g3 g4 _ _ 2 2 w4 H4.out.1 H4.out.2.1 (by decide)).mono ?_
  rintro e w5 ⟨g5, hg5, rfl, hb5, hN5⟩
  refine ⟨_, rfl, ?_⟩
  have H5 := Aside0.mk (And.intro hN5 (H4.out.2.2.step hb5))
  clear hb5 hN5 hg5
  refine hK.out _ _ H5.out.2.cells (fun hHeld => ?_)
  clear hK K
  refine norm_ (a' := ?_) ?_ ?_; rotate_left; (· show Act.put _ (some 17) _ = _; simp only [Act.put, List.setIfInBounds_toArray, List.set_cons_zero, List.set_cons_succ, i64_w, i32_w]; rfl)
  refine one_ (i := 12) (N := some 20) (bs 15 8191) rfl rfl (by kernel_rfl) (by decide) (fun K hK => ?_)
  refine goes_ Try.func78 (by kernel_rfl) rfl #[.int .i64 ts, .int .i64 1] (by rfl) rfl rfl (by simp only [List.map_toArray, List.map_cons, List.map_nil]; rfl) ?_
  with_reducible refine (ratioE_n ts 1 w5 HH.out.1.2 i1 (by decide)).mono ?_
  rintro e w6 ⟨g6, hg6, rfl, hb6, hN6⟩
  refine ⟨_, rfl, ?_⟩
  have H6 := Aside0.mk (And.intro (H5.out.1.below hb6) (And.intro hN6 (H5.out.2.step hb6)))
  clear hb6 hN6 hg6
  refine hK.out _ _ H6.out.2.2.cells (fun hHeld => ?_)
  clear hK K
  refine norm_ (a' := ?_) ?_ ?_; rotate_left; (· show Act.put _ (some 20) _ = _; simp only [Act.put, List.setIfInBounds_toArray, List.set_cons_zero, List.set_cons_succ, i64_w, i32_w]; rfl)
  refine one_ (i := 13) (N := some 21) (bs 15 16383) rfl rfl (by kernel_rfl) (by decide) (fun K hK => ?_)
  refine goes_ Try.func77 (by kernel_rfl) rfl #[.pointer (some ⟨g5, 0, none⟩), .pointer (some ⟨g6, 0, none⟩)] (by rfl) rfl rfl (by simp only [List.map_toArray, List.map_cons, List.map_nil]; rfl) ?_
  with_reducible refine (mulE_n g5 g6 _ _ 4 2 w6 H6.out.1 H6.out.2.1 (by decide)).mono ?_
  rintro e w7 ⟨g7, hg7, rfl, hb7, hN7⟩
  refine ⟨_, rfl, ?_⟩
  have H7 := Aside0.mk (And.intro hN7 (H6.out.2.2.step hb7))
  clear hb7 hN7 hg7
  refine hK.out _ _ H7.out.2.cells (fun hHeld => ?_)
  clear hK K
  refine norm_ (a' := ?_) ?_ ?_; rotate_left; (· show Act.put _ (some 21) _ = _; simp only [Act.put, List.setIfInBounds_toArray, List.set_cons_zero, List.set_cons_succ, i64_w, i32_w]; rfl)
  refine pure_ (i := 14) (N := some 7) (v := ?_) (a' := ?_) (bs 15 32767) rfl rfl (by kernel_rfl) (fun _ _ _ h => h) (Or.inl ⟨by rfl, ?_⟩) ?_ ?_; rotate_left; (· intro w'; go_simp; first | done | with_reducible rfl); rotate_left; (· simp only [Act.put, List.setIfInBounds_toArray, List.set_cons_zero, List.set_cons_succ, i64_w, i32_w]; rfl)
  refine done_ (by kernel_rfl) ?_
  obtain ⟨c0, c1, e1, e2, e3⟩ := H7.out.2.cells
  clear hb0
  go_wp2_with fail
  refine (ratioE_n m 1 w7 HH.out.2.1.1 i1 (by decide)).mono ?_
  rintro e w8 ⟨g8, hg8, rfl, hb8, hN8⟩
  have H8 := Aside0.mk (And.intro (H7.out.1.below hb8) (And.intro hN8 (H7.out.2.step hb8)))
  clear hb8 hN8 hg8 c0 c1 e1 e2 e3
  go_wp2_with fail
  refine (addE_n g7 g8 _ _ 6 2 w8 H8.out.1 H8.out.2.1 (by decide)).mono ?_
  rintro e w9 ⟨g9, hg9, rfl, hb9, hN9⟩
  have H9 := Aside0.mk (And.intro hN9 (H8.out.2.2.step hb9))
  have HG := Aside0.mk hg9
  have HL := Aside0.mk H8.out.2.2.below.size
  clear hb9 hN9 hg9
  go_wp2_with fail
  go_ret
  exact ⟨g9, Nat.le_trans HL.out HG.out, rfl, H9.out.2.below, H9.out.1⟩
end Go.Proofs.Ytpbhepdgamoiaaa.Er

/-
  What the calls of package num do to numbers in memory: Lsh by one bit, Div.
-/
import Derived.Test.YtdginjpppgfdaaaQa
import Derived.Laws.MakeOwn
namespace Go.Proofs.Ytdginjpppgfdaaa.Qb
open Go.RowKit Go Go.Proofs.YtdginjpppgfdaaaW.PrintWords Go.Proofs.YtdginjpppgfdaaaW.PrintLast Go.Proofs.YtdginjpppgfdaaaW.PrintMore Go.Proofs.Ytdginjpppgfdaaa.Ml Go.Proofs.Ytdginjpppgfdaaa.Mn Go.Proofs.Ytdginjpppgfdaaa.Nd Go.Proofs.Ytdginjpppgfdaaa.P Go.Proofs.Ytdginjpppgfdaaa.Nc Go.Proofs.Ytdginjpppgfdaaa.Na Go.Proofs.Ytdginjpppgfdaaa.Nb Go.Proofs.Ytdginjpppgfdaaa.Ns Go.Proofs.Ytdginjpppgfdaaa.Da Go.Proofs.Ytdginjpppgfdaaa.Dc Go.Proofs.Ytdginjpppgfdaaa.Qa
set_option linter.unusedVariables false
set_option linter.unusedSimpArgs false

theorem mk0 (w : World) : Sem.run Try.prog (Instr.makeSlice 78 (.int .u64 0) (.int .u64 0)) w = .ok (.slice (some ⟨w.heap.size, 0, none⟩) 0 0) (w.alloc (.cells #[] 122)) := by
  obtain ⟨i0, hi, hzz⟩ := Option.map_eq_some_iff.1 (show (Try.prog.info? 122).map (fun i => (i.zero, i.size, i.bytes)) = some (some (.int .u32 0), 1, 4) from info122)
  simp only [Prod.mk.injEq] at hzz
  have h := Go.run_make (P := Try.prog) w 78 122 i0 (.int .u32 0) Try.underlying78 hi hzz.1 .u64 .u64 0 0 (by decide) (by decide) (by simp) (by decide)
  have e : ∀ z, madeCells z 0 = #[] := fun z => Array.eq_empty_of_size_eq_zero (size_madeCells z 0)
  simpa [e] using h
theorem grown_below {W w1 : World} (hg : W.grownBy w1 none) : Below W.heap.size W w1 := ⟨hg.os, hg.tape, hg.output, hg.size, fun i hi => hg.block i hi (by simp)⟩
theorem shift_1 (Ax : Option Addr) (cx : Nat) (x : List Int) (w : World) (hcx : x.length ≤ cx) (HX : Kd.C (Kd.int .u32) w Ax x.length x) (hd : Dg 4294967296 x) (hn : x.length ≤ 1000000) :
    Calls Try.prog 118 #[.slice Ax x.length cx, .int .i64 (wrap64 1)] w fun e w' => ∃ g c r, w.heap.size ≤ g ∧ e = .returned (.slice (some ⟨g, 0, none⟩) (x.length + 1) c) ∧ Kd.R (Kd.int .u32) 122 w' w.heap.size (fun _ => True) (.slice (some ⟨g, 0, none⟩) (x.length + 1) c) r ∧ Dg 4294967296 r ∧ r.length = x.length + 1 ∧ dv 4294967296 r = dv 4294967296 x * 2 ^ 1 ∧ r.getD x.length 0 < 2 ^ 1 ∧ Below w.heap.size w w' := by
  rw [show wrap64 1 = ((1 : Nat) : Int) from w64 (by decide) (by decide)]
  exact shift_n Ax cx x 1 w hcx HX hd hn (by decide)
/-- What is known behind the two rows, in either order. -/
def LsF (w0 : World) (la : List Int) (v1 v2 : Value) (w' : World) : Prop := Kd.R (Kd.int .u32) 122 w' w0.heap.size (fun _ => True) v1 [] ∧ (∃ g c r, v2 = .slice (some ⟨g, 0, none⟩) (la.length + 1) c ∧ Kd.C (Kd.int .u32) w' (some ⟨g, 0, none⟩) (la.length + 1) r ∧ Dg 4294967296 r ∧ r.length = la.length + 1 ∧ dv 4294967296 r = dv 4294967296 la * 2 ^ 1) ∧ Below w0.heap.size w0 w'
set_option maxHeartbeats 4000000 in
set_option maxRecDepth 100000 in
theorem lsh_n (gx ox ga oa : Nat) (a : Int) (na : Nat) (w : World) (hx : Room w gx ox) (ha : IsN w ga oa a na) (hl : na ≤ 1000) :
    Calls Try.prog 95 #[.pointer (some ⟨gx, ox, none⟩), .pointer (some ⟨ga, oa, none⟩), .int .u64 1] w (SetP w gx ox (a * 2) (na + 1)) := by
  obtain ⟨nega, Aa, cca, la, sa, hca, ra, ca, hla, hza, qa⟩ := ha.open
  have a0 := sa.cell0
  have a1 := sa.cell1
  have hw0 : IntKind.u64.wrap 0 = 0 := rfl
  have hw1 : wrap64 1 = 1 := w64 (by decide) (by decide)
  go_enter Try.func95, Try.ntmps95
  go_wp2_with fail
  refine start_ (n := 13) (S := fun w' => w'.cell? ⟨ga, oa + 1, none⟩ = some (.slice Aa la.length cca)) (ds := []) (bs 13 0) (by kernel_rfl) rfl rfl a1 (fun hHeld => ?_)
  refine pure_ (i := 0) (N := some 8) (v := ?_) (a' := ?_) (bs 13 1) rfl rfl (by kernel_rfl) (fun _ _ _ h => h) (Or.inl ⟨by rfl, ?_⟩) ?_ ?_; rotate_left; (· intro w'; go_simp; first | done | with_reducible rfl); rotate_left; (· simp only [Act.put, List.setIfInBounds_toArray, List.set_cons_zero, List.set_cons_succ, i64_w, i32_w]; rfl)
  refine pure_ (i := 1) (N := some 9) (v := ?_) (a' := ?_) (bs 13 3) rfl rfl (by kernel_rfl) (fun _ _ _ h => h) (Or.inl ⟨by rfl, ?_⟩) ?_ ?_; rotate_left; (· intro w'; go_simp; first | done | with_reducible rfl); rotate_left; (· simp only [Act.put, List.setIfInBounds_toArray, List.set_cons_zero, List.set_cons_succ, i64_w, i32_w]; rfl)
  refine pure_ (i := 3) (N := some 11) (v := ?_) (a' := ?_) (bs 13 11) rfl rfl (by kernel_rfl) (fun _ _ _ h => h) (Or.inl ⟨by rfl, ?_⟩) ?_ ?_; rotate_left; (· intro w'; go_simp; first | done | with_reducible rfl); rotate_left; (· simp only [Act.put, List.setIfInBounds_toArray, List.set_cons_zero, List.set_cons_succ, i64_w, i32_w]; rfl)
  refine pure_ (i := 4) (N := some 12) (v := ?_) (a' := ?_) (bs 13 27) rfl rfl (by kernel_rfl) (fun _ _ _ h => h) (Or.inl ⟨by rfl, ?_⟩) ?_ ?_; rotate_left; (· intro w'; go_simp; first | done | with_reducible rfl); rotate_left; (· simp only [Act.put, List.setIfInBounds_toArray, List.set_cons_zero, List.set_cons_succ, i64_w, i32_w]; rfl)
  refine pure_ (i := 5) (N := some 13) (v := ?_) (a' := ?_) (bs 13 59) rfl rfl (by kernel_rfl) (fun _ _ _ h => h) (Or.inl ⟨by rfl, ?_⟩) ?_ ?_; rotate_left; (· intro w'; go_simp; first | done | with_reducible rfl); rotate_left; (· simp only [Act.put, List.setIfInBounds_toArray, List.set_cons_zero, List.set_cons_succ, i64_w, i32_w]; rfl)
  refine pure_ (i := 7) (N := some 15) (v := ?_) (a' := ?_) (bs 13 187) rfl rfl (by kernel_rfl) (fun _ _ _ h => h) (Or.inl ⟨by rfl, ?_⟩) ?_ ?_; rotate_left; (· intro w'; go_simp; first | done | with_reducible rfl); rotate_left; (· simp only [Act.put, List.setIfInBounds_toArray, List.set_cons_zero, List.set_cons_succ, i64_w, i32_w]; rfl)
  refine pure_ (i := 8) (N := some 16) (v := ?_) (a' := ?_) (bs 13 443) rfl rfl (by kernel_rfl) (fun _ _ _ h => h) (Or.inl ⟨by rfl, ?_⟩) ?_ ?_; rotate_left; (· intro w'; go_simp; first | done | with_reducible rfl); rotate_left; (· simp only [Act.put, List.setIfInBounds_toArray, List.set_cons_zero, List.set_cons_succ, i64_w, i32_w]; rfl)
  refine pure_ (i := 9) (N := some 17) (v := ?_) (a' := ?_) (bs 13 955) rfl rfl (by kernel_rfl) (fun _ _ _ h => h) (Or.inl ⟨by rfl, ?_⟩) ?_ ?_; rotate_left; (· intro w'; go_simp; first | done | with_reducible rfl); rotate_left; (· simp only [Act.put, List.setIfInBounds_toArray, List.set_cons_zero, List.set_cons_succ, i64_w, i32_w]; rfl)
  refine take_ (i := 6) (N := some 14) (v := ?_) (a' := ?_) (bs 13 1019) rfl rfl (by kernel_rfl) (fun _ _ _ h => h) (Or.inl ⟨by rfl, ?_⟩) hHeld ?_ ?_; rotate_left; (· intro w' s0; go_simp; first | done | with_reducible rfl); rotate_left; (· simp only [Act.put, List.setIfInBounds_toArray, List.set_cons_zero, List.set_cons_succ, i64_w, i32_w]; rfl)
  -- fuel 4
  refine join_ (σ := Value × Value) 2 (bs 13 2047) (fun s => [(10, s.1), (18, s.2)]) (fun s w' => LsF w.drew la s.1 s.2 w') ?_ (fun hcont => ?_)
  rotate_left
  have hmk : ∀ w', Sem.run Try.prog (Instr.makeSlice 78 (.int .u64 0) (.int .u64 0)) w' = .ok (.slice (some ⟨w'.heap.size, 0, none⟩) 0 0) (w'.alloc (.cells #[] 122)) := mk0
  · refine two_ (i := 2) (j := 10) (Ni := some 10) (Nj := some 18) (bs 13 1023) (bs 13 2043) rfl rfl rfl rfl (by kernel_rfl) (by decide) (by decide) (fun K hK => ?_) (fun K hK => ?_)
    ·
      refine Kd.R_lit_step (Kd.int .u32) (w0 := w.drew) w.drew.heap.size 122 (by rfl) (N := 10) rfl (xs := ([] : List Int)) (inner := []) (ok := fun _ => True) (okp := fun _ => True) ?_ (Reps.none _ _) (fun _ h => h) trivial (Below.refl _ _) (Nat.le_refl _) (by simp) ?_
      · go_simp
      intro v1 w1 hR hBl hg hat
      have hb1 := below_drew' hBl
      refine hK.out _ _ (sa.below hb1).cell1 (fun hHeld => ?_)
      clear hK K
      refine norm_ (a' := ?_) ?_ ?_; rotate_left; (· show Act.put _ (some 10) _ = _; simp only [Act.put, List.setIfInBounds_toArray, List.set_cons_zero, List.set_cons_succ, i64_w, i32_w]; rfl)
      refine one_ (i := 10) (N := some 18) (bs 13 2047) rfl rfl (by kernel_rfl) (by decide) (fun K hK => ?_)
      refine goes_ Try.func118 (by kernel_rfl) rfl #[.slice Aa la.length cca, .int .i64 (wrap64 1)] (by rfl) rfl rfl (by simp only [List.map_toArray, List.map_cons, List.map_nil]; rfl) ?_
      with_reducible refine (shift_1 Aa cca la _ hca (Kd.C_below ra hb1) ca.dg (by omega)).mono ?_
      rintro e w2 ⟨g, c, r, hgg, rfl, hRr, dR, lR, vR, tR, hb2⟩
      refine ⟨_, rfl, ?_⟩
      have hb3 := hBl.trans (hb2.mono hBl.size)
      refine hK.out _ _ (sa.below (below_drew' hb3)).cell1 (fun hHeld => ?_)
      clear hK K
      refine norm_ ?_ (hcont (v1, .slice (some ⟨g, 0, none⟩) (la.length + 1) c) _ ⟨Kd.R_below hR hb2, ⟨g, c, r, rfl, lR ▸ (Kd.R_reads' hRr).2.2, dR, lR, vR⟩, hb3⟩); (· simp only [putAll, Act.put, List.setIfInBounds_toArray, List.set_cons_zero, List.set_cons_succ, i64_w, i32_w])
    ·
      refine goes_ Try.func118 (by kernel_rfl) rfl #[.slice Aa la.length cca, .int .i64 (wrap64 1)] (by rfl) rfl rfl (by simp only [List.map_toArray, List.map_cons, List.map_nil]; rfl) ?_
      with_reducible refine (shift_1 Aa cca la _ hca (Kd.C_drew ra) ca.dg (by omega)).mono ?_
      rintro e w2 ⟨g, c, r, hgg, rfl, hRr, dR, lR, vR, tR, hb2⟩
      refine ⟨_, rfl, ?_⟩
      refine hK.out _ _ (sa.below (below_drew' hb2)).cell1 (fun hHeld => ?_)
      clear hK K
      refine norm_ (a' := ?_) ?_ ?_; rotate_left; (· show Act.put _ (some 18) _ = _; simp only [Act.put, List.setIfInBounds_toArray, List.set_cons_zero, List.set_cons_succ, i64_w, i32_w]; rfl)
      refine one_ (i := 2) (N := some 10) (bs 13 2047) rfl rfl (by kernel_rfl) (by decide) (fun K hK => ?_)
      refine Kd.R_lit_step (Kd.int .u32) (w0 := w.drew) w.drew.heap.size 122 (by rfl) (N := 10) rfl (xs := ([] : List Int)) (inner := []) (ok := fun _ => True) (okp := fun _ => True) ?_ (Reps.none _ _) (fun _ h => h) trivial hb2 hb2.size (by simp) ?_
      · go_simp
      intro v1 w1 hR hBl hg hat
      refine hK.out _ _ (sa.below (below_drew' hBl)).cell1 (fun hHeld => ?_)
      clear hK K
      refine norm_ ?_ (hcont (v1, .slice (some ⟨g, 0, none⟩) (la.length + 1) c) _ ⟨hR, ⟨g, c, r, rfl, Kd.C_below (lR ▸ (Kd.R_reads' hRr).2.2) (grown_below hg), dR, lR, vR⟩, hBl⟩); (· simp only [putAll, Act.put, List.setIfInBounds_toArray, List.set_cons_zero, List.set_cons_succ, i64_w, i32_w]; rfl)
  rintro ⟨v1, v2⟩ w1 hF
  refine norm_ (a' := ?_) ?_ ?_; rotate_left; (· simp only [putAll, Act.put, List.setIfInBounds_toArray, List.set_cons_zero, List.set_cons_succ, i64_w, i32_w]; rfl)
  refine one_ (i := 11) (N := some 19) (bs 13 4095) rfl rfl (by kernel_rfl) (by decide) (fun K hK => ?_)
  obtain ⟨hR1, ⟨g, c, r, rfl, hC, dR, lR, vR⟩, hb3⟩ := hF
  refine Kd.R_append_rows_step (Kd.int .u32) (w0 := w.drew) w.drew.heap.size (by rfl) (.tmp 10) (.tmp 18) 78 122 (.int .u32 0) 4 rfl Try.underlying78 info122 rfl (by decide) (by decide) v1 [] r (some ⟨g, 0, none⟩) (la.length + 1) c (fun _ => True) (fun k => some k ≠ v1.ownBlock) rfl rfl hR1 hC (fun _ _ h => h) (fun _ h => ⟨trivial, h⟩) (fun _ _ => trivial) hb3 hb3.size (by simp; omega) ?_
  intro v3 w3 hR3 hb4 hg4 hat4
  refine hK.out _ _ (sa.below (below_drew' hb4)).cell1 (fun hHeld => ?_)
  clear hK K
  refine norm_ (a' := ?_) ?_ ?_; rotate_left; (· show Act.put _ (some 19) _ = _; simp only [Act.put, List.setIfInBounds_toArray, List.set_cons_zero, List.set_cons_succ, i64_w, i32_w]; rfl)
  refine pure_ (i := 12) (N := some 7) (v := ?_) (a' := ?_) (bs 13 8191) rfl rfl (by kernel_rfl) (fun _ _ _ h => h) (Or.inl ⟨by rfl, ?_⟩) ?_ ?_; rotate_left; (· intro w'; go_simp; first | done | with_reducible rfl); rotate_left; (· simp only [Act.put, List.setIfInBounds_toArray, List.set_cons_zero, List.set_cons_succ, i64_w, i32_w]; rfl)
  refine done_ (by kernel_rfl) ?_
  have hb4' := below_drew' hb4
  go_wp2_with fail
  replace hx := hx.below hb4'
  replace sa := sa.below hb4'
  have a0' := sa.cell0
  have hR4 := Kd.R_drew hR3
  refine start_ (n := 9) (S := fun w' => w'.cell? ⟨ga, oa, none⟩ = some (.bool nega)) (ds := [7]) (bs 9 0) (by kernel_rfl) rfl rfl a0' (fun hHeld => ?_)
  refine pure_ (i := 0) (N := some 20) (v := ?_) (a' := ?_) (bs 9 1) rfl rfl (by kernel_rfl) (fun _ _ _ h => h) (Or.inl ⟨by rfl, ?_⟩) ?_ ?_; rotate_left; (· intro w'; go_simp; first | done | with_reducible rfl); rotate_left; (· simp only [Act.put, List.setIfInBounds_toArray, List.set_cons_zero, List.set_cons_succ, i64_w, i32_w]; rfl)
  refine pure_ (i := 1) (N := some 21) (v := ?_) (a' := ?_) (bs 9 3) rfl rfl (by kernel_rfl) (fun _ _ _ h => h) (Or.inl ⟨by rfl, ?_⟩) ?_ ?_; rotate_left; (· intro w'; go_simp; first | done | with_reducible rfl); rotate_left; (· simp only [Act.put, List.setIfInBounds_toArray, List.set_cons_zero, List.set_cons_succ, i64_w, i32_w]; rfl)
  refine pure_ (i := 2) (N := some 22) (v := ?_) (a' := ?_) (bs 9 7) rfl rfl (by kernel_rfl) (fun _ _ _ h => h) (Or.inl ⟨by rfl, ?_⟩) ?_ ?_; rotate_left; (· intro w'; go_simp; first | done | with_reducible rfl); rotate_left; (· simp only [Act.put, List.setIfInBounds_toArray, List.set_cons_zero, List.set_cons_succ, i64_w, i32_w]; rfl)
  refine pure_ (i := 3) (N := some 23) (v := ?_) (a' := ?_) (bs 9 15) rfl rfl (by kernel_rfl) (fun _ _ _ h => h) (Or.inl ⟨by rfl, ?_⟩) ?_ ?_; rotate_left; (· intro w'; go_simp; first | done | with_reducible rfl); rotate_left; (· simp only [Act.put, List.setIfInBounds_toArray, List.set_cons_zero, List.set_cons_succ, i64_w, i32_w]; rfl)
  refine pure_ (i := 5) (N := some 25) (v := ?_) (a' := ?_) (bs 9 47) rfl rfl (by kernel_rfl) (fun _ _ _ h => h) (Or.inl ⟨by rfl, ?_⟩) ?_ ?_; rotate_left; (· intro w'; go_simp; first | done | with_reducible rfl); rotate_left; (· simp only [Act.put, List.setIfInBounds_toArray, List.set_cons_zero, List.set_cons_succ, i64_w, i32_w]; rfl)
  refine take_ (i := 4) (N := some 24) (v := ?_) (a' := ?_) (bs 9 63) rfl rfl (by kernel_rfl) (fun _ _ _ h => h) (Or.inl ⟨by rfl, ?_⟩) hHeld ?_ ?_; rotate_left; (· intro w' s0; go_simp; first | done | with_reducible rfl); rotate_left; (· simp only [Act.put, List.setIfInBounds_toArray, List.set_cons_zero, List.set_cons_succ, i64_w, i32_w]; rfl)
  refine one_ (i := 6) (N := some 26) (bs 9 127) rfl rfl (by kernel_rfl) (by decide) (fun K hK => ?_)
  refine goes_ Try.func119 (by kernel_rfl) rfl #[v3] (by rfl) rfl rfl (by simp only [List.map_toArray, List.map_cons, List.map_nil]; rfl) ?_
  with_reducible refine (trim_n v3 r _ _ _ hR4 dR (by omega)).mono ?_
  rintro e w5 ⟨v4, q, rfl, hM, hc, hv, hn, hb5⟩
  refine ⟨_, rfl, ?_⟩
  have hb5' := below_drew' hb5
  refine hK.out _ _ (sa.below hb5').cell0 (fun hHeld => ?_)
  clear hK K
  refine norm_ (a' := ?_) ?_ ?_; rotate_left; (· show Act.put _ (some 26) _ = _; simp only [Act.put, List.setIfInBounds_toArray, List.set_cons_zero, List.set_cons_succ, i64_w, i32_w]; rfl)
  refine last_ (i := 7) (N := some 27) (bs 9 255) rfl rfl (by kernel_rfl) (by decide) (fun K hK => ?_)
  refine goes_ Try.func102 (by kernel_rfl) rfl #[.pointer (some ⟨gx, ox, none⟩), .bool nega, v4] (by rfl) rfl rfl (by simp only [List.map_toArray, List.map_cons, List.map_nil]; rfl) ?_
  with_reducible refine (set_n gx ox v4 q nega (na + 1) w5 (hx.below hb5') hM hc (by omega)).mono ?_
  rintro e w6 ⟨rfl, hw, hN⟩
  refine ⟨_, rfl, ?_⟩
  refine hK.out _ _ ?_
  clear hK K
  refine norm_ (a' := ?_) ?_ ?_; rotate_left; (· show Act.put _ (some 27) _ = _; simp only [Act.put, List.setIfInBounds_toArray, List.set_cons_zero, List.set_cons_succ, i64_w, i32_w]; rfl)
  refine pure_ (i := 8) (N := some 6) (v := ?_) (a' := ?_) (bs 9 511) rfl rfl (by kernel_rfl) (fun _ _ _ h => h) (Or.inl ⟨by rfl, ?_⟩) ?_ ?_; rotate_left; (· intro w'; go_simp; first | done | with_reducible rfl); rotate_left; (· simp only [Act.put, List.setIfInBounds_toArray, List.set_cons_zero, List.set_cons_succ, i64_w, i32_w]; rfl)
  refine done_ (by kernel_rfl) ?_
  have HN := Aside0.mk hN
  have HV := Aside0.mk (show sg nega (dv 4294967296 q) = a * 2 by rw [hv, vR, hza]; cases nega <;> simp [sg] <;> omega)
  clear hN hv vR hza
  go_wp2
  go_ret
  exact ⟨rfl, (Wrote.of_below (hb4'.trans (hb5'.mono hb4'.size)) gx ox).trans hw, HV.out ▸ HN.out⟩
theorem fl_div {a b : Int} (hb : 0 < b) : (if a.tmod b < 0 then a.tdiv b - 1 else a.tdiv b) = a / b := by
  have h1 := Int.mul_tdiv_add_tmod a b
  have h2 : (a.tmod b).natAbs < b.natAbs := by
    have := Int.natAbs_tmod a b
    rw [this]
    exact Nat.mod_lt _ (by omega)
  have h3 := Int.mul_ediv_add_emod a b
  have h4 := Int.emod_nonneg a (show b ≠ 0 by omega)
  have h5 := Int.emod_lt_of_pos a hb
  generalize a.tmod b = r at *
  generalize a.tdiv b = q at *
  generalize a / b = p at *
  generalize a % b = s at *
  have key : ∀ x y : Int, 0 ≤ y → y < b → b * x + y = a → x = p := by
    intro x y y0 y1 e
    have e1 : b * (x - p) = s - y := by rw [Int.mul_sub]; omega
    rcases Int.lt_trichotomy (x - p) 0 with h | h | h
    · have : b * (x - p) ≤ b * (-1) := Int.mul_le_mul_of_nonneg_left (by omega) (by omega)
      omega
    · omega
    · have : b * 1 ≤ b * (x - p) := Int.mul_le_mul_of_nonneg_left (by omega) (by omega)
      omega
  by_cases hr : r < 0
  · rw [if_pos hr]
    exact key _ (r + b) (by omega) (by omega) (by rw [Int.mul_sub]; omega)
  · rw [if_neg hr]
    exact key _ r (by omega) (by omega) h1
theorem isN_neg {w : World} {g o : Nat} {z : Int} {n : Nat} (h : IsN w g o z n) : w.cell? ⟨g, o, none⟩ = some (.bool (decide (z < 0))) := by
  obtain ⟨neg, A, c, l, h1, h2, h3, h4, h5, h6, h7⟩ := h.open
  have := h1.cell0
  have hp : l ≠ [] → 0 < dv 4294967296 l := by
    intro h
    have h1 := dv_len (a := []) (by decide) (Dg.nil _) h4 (by cases l with | nil => exact absurd rfl h | cons x t => simp)
    simpa only [dv] using h1
  have h0 := dv_nonneg (by decide) h4.dg
  rw [this]
  cases neg with
  | true => have := hp (h7 rfl); rw [h6]; simp [sg]; omega
  | false => rw [h6]; simp [sg]; omega
set_option maxHeartbeats 4000000 in
set_option maxRecDepth 100000 in
theorem divI_n (gx ox ga oa gb ob : Nat) (a b : Int) (na nb B : Nat) (w : World) (hx : Room w gx ox) (ha : IsN w ga oa a na) (hb : IsN w gb ob b nb) (hbp : 0 < b) (hl : na + nb ≤ 900) (hB1 : B ≤ gx) :
    Calls Try.prog 96 #[.pointer (some ⟨gx, ox, none⟩), .pointer (some ⟨ga, oa, none⟩), .pointer (some ⟨gb, ob, none⟩)] w (fun e w' => e = .returned (.pointer (some ⟨gx, ox, none⟩)) ∧ Below B w w' ∧ IsN w' gx ox (a / b) (na + 3)) := by
  have hx0 := hx.lt
  go_enter Try.func96, Try.ntmps96
  go_wp2_with fail
  refine (newInt_n 1 w (by decide) (by decide)).mono ?_
  rintro e w1 ⟨g1, hg1, rfl, hb1, hN1⟩
  have HN1 := Aside0.mk hN1
  clear hN1
  replace hx := hx.below hb1
  replace ha := ha.below hb1
  replace hb := hb.below hb1
  have b0 := isN_neg hb
  have hd : decide (b < 0) = false := decide_eq_false (by omega)
  rw [hd] at b0
  go_wp2_with fail
  have hb2 : Below w1.heap.size w1 (w1.alloc (.cells #[.bool false, .slice none 0 0] 80)) := below_alloc (Below.refl _ w1) _
  have hx1 := hx.lt
  have s1 := hb1.size
  refine (quoRem_n gx ox ga oa gb ob w1.heap.size 0 a b na nb B _ (hx.below hb2) (ha.below hb2) (hb.below hb2) (room_new w1) (by omega) (by omega) (by omega) hB1 (by omega)).mono ?_
  rintro e w2 ⟨rfl, hB2, hq, hr, hk⟩
  have c0 := isN_neg hr
  have h1 := hk g1 0 1 2 (by omega) (by have := HN1.out.lt; omega) (HN1.out.below hb2)
  have HQ := Aside0.mk (And.intro hq (And.intro hr h1))
  have s2 := hB2.size
  have HBB := Aside0.mk (show Below B w w2 from (show Below B w w1 from ⟨hb1.os, hb1.tape, hb1.output, hb1.size, fun i hi => hb1.block i (by omega)⟩).trans ((show Below B w1 _ from ⟨hb2.os, hb2.tape, hb2.output, hb2.size, fun i hi => hb2.block i (by omega)⟩).trans hB2))
  clear hq hr hk h1
  have hfl := fl_div (a := a) hbp
  by_cases hneg : a.tmod b < 0
  · rw [decide_eq_true hneg] at c0
    rw [if_pos hneg] at hfl
    have HF := Aside0.mk hfl
    clear hfl
    go_wp2_with fail
    refine (subI_n gx ox gx ox g1 0 (a.tdiv b) 1 na 2 w2 HQ.out.1.room HQ.out.1 HQ.out.2.2 (by omega)).mono ?_
    rintro e w3 ⟨rfl, hw3, hN3⟩
    have HN3 := Aside0.mk (And.intro hw3 hN3)
    clear hw3 hN3
    go_wp2_with fail
    go_ret
    exact ⟨rfl, HBB.out.trans (HN3.out.1.below hB1 (by have := HBB.out.size; omega)), HF.out ▸ HN3.out.2.mono (by omega)⟩
  · rw [decide_eq_false hneg] at c0
    rw [if_neg hneg] at hfl
    have HF := Aside0.mk hfl
    clear hfl
    go_wp2_with fail
    go_ret
    exact ⟨rfl, HBB.out, HF.out ▸ HQ.out.1.mono (by omega)⟩
end Go.Proofs.Ytdginjpppgfdaaa.Qb
